/- Parts of the proof. -/
import Derived.Shelf.SlicesE.DeleteFunc
import Derived.Deep.LoopGhost
import Derived.RangeFuncLeaves
import Derived.OwnWalkIn
import Derived.Test.YtlhhcnknclnlaaaGreatDoorS01
import Derived.Test.YtlhhcnknclnlaaaGreatDoorS03
import Derived.Test.YtlhhcnknclnlaaaGreatDoorS05
import Derived.Test.YtlhhcnknclnlaaaGreatDoorS07
set_option linter.all false
set_option maxRecDepth 100000
set_option maxHeartbeats 16000000
open Nat renaming lt_of_lt_of_le->aa,le_trans->cC,le_refl->cN,zero_add->cX,lt_irrefl->dp,lt_trans->eN,zero_le->eR
open List renaming length_append->ab,getElem?_eq_getElem->al,flatMap_append->an,getElem?_map->aw,length_cons->ax,take_of_length_le->az,nodup_cons->a_,append_assoc->ba,finRange->bj,length_map->bt,length_singleton->ca,perm_append_comm->cd,mem_of_getElem?->cm,mem_append->cx,length_pos_iff->cy,mem_map_of_mem->cz,getElem?_take->cF,drop_eq_getElem_cons->cJ,length_take->cU,drop_of_length_le->cY,mem_map->c_,flatMap_singleton->da,replicate->de,nodup_finRange->di,map_cons->dj,flatMap_cons->dr,mem_range'_1->dt,take_add_one->du,flatMap_def->dC,nil_append->dE,length_nil->dT,mem_filter->eh,nodup_nil->eo,range->et,mem_cons->ey,range'->eS
open Go.Proofs.Tryz renaming prog->ae,underlying86->dq,ntmps255->ez,ntmps238->eI,func242->eJ,func255->eK,func238->eM,t9->fb
open Go renaming World->af,Value->ar,Calls->bb,Deferred->dv,TypeId->dy,Ending->eW
open Array renaming getElem?_eq_some_iff->ag,getElem?_eq_getElem->cI,getElem?_modify->dd
open Classical renaming byContradiction->ai
open Go.Value renaming ownBlock->ao,string->cA,slice->cM,pointer->ew
open List.Perm renaming append_left->aq,trans->bk,refl->cG,cons->ek
open Go.Builtin renaming append_->aE
open Go.World renaming ownsRow_nil->bz,putObj_heap_other->cW
open Option renaming map_some->cq,map_none->ef
open Go.Sem renaming run_bind->cD,run_pure->eQ
open And renaming intro->cE
open Go.RowKit.Below renaming refl->cH
open Go.Act renaming eval->df
open Ne renaming symm->dg
open Go.Proofs.Tryz
namespace Go.Proofs.YtlhhcnknclnlaaaGreatDoor.Top
open Go Go.WideShapes Go.RowKit Go.Proofs.YtlhhcnknclnlaaaGreatDoor.iH Go.Proofs.YtlhhcnknclnlaaaGreatDoor.Oct Go.Proofs.ah.aN Go.Proofs.ah.bA
def Io:Go.Shelf.Ren:=⟨fun|10=>241|6=>259|n=>n,fun|22=>86|23=>9|25=>117|3=>3|4=>4|0=>0|n=>n,fun|n=>n⟩
theorem Zj:Go.Proofs.SlLaysH.n10 ae Io:=
 {mixed:=by kernel_rfl,
  f6:=⟨Tryz.f259.name,by decide,func259.trans (congrArg some (by kernel_rfl))⟩,
  f10:=⟨Tryz.f241.name,by decide,func241.trans (congrArg some (by kernel_rfl))⟩,
  t0:=underlying0,
  a0:=isAgg0,
  z0:=sizeOf0,
  v0:=zeroValue0,
  t3:=underlying3,
  a3:=isAgg3,
  z3:=sizeOf3,
  v3:=zeroValue3,
  t4:=underlying4,
  a4:=isAgg4,
  z4:=sizeOf4,
  v4:=zeroValue4,
  t22:=dq,
  a22:=isAgg86,
  z22:=sizeOf86,
  v22:=zeroValue86,
  a23:=isAgg9,
  z23:=sizeOf9,
  t25:=underlying117,
  a25:=isAgg117,
  z25:=sizeOf117,
  v25:=zeroValue117}
theorem wh(s x:ByteArray)(B:Nat)(W:af)(hc:W.cell? ⟨B,0,none⟩=some (.string s)):FnGives ae 242 #[.pointer (some ⟨B,0,none⟩)] #[.string x] (.bool (x.toList==s.toList)) W:=by
 show bb ae 242 #[.string x,.pointer (some ⟨B,0,none⟩)] W _;go_enter eJ,ntmps242
 go_wp2
 go_ret;exact⟨rfl,0,rfl⟩
variable {W W' W1 w w' wr:af}{a:Addr}{b b16 b3 b6 b9 bh br bs bw c c' cn g gn i j k m n nx on room:Nat}
theorem acY{bn:Nat}{l:List ByteArray}{s:ByteArray}(ho:w.ownsRow 0 9 1 (.slice (some a) n c) n (strs l))(hl:l.length=n)(hs:n<1000000)(hc:w.cell? ⟨bn,0,none⟩=some (.string s))(hne:bn≠a.block):
 bb ae 241 #[.slice (some a) n c,.func (.func 242) #[] #[.pointer (some ⟨bn,0,none⟩)]] w fun e w'=>∃l':List ByteArray,e=.returned (.slice (some a) l'.length c)∧w'.ownsRow 0 9 1 (.slice (some a) l'.length c) l'.length (strs l')∧l'.length<=n∧Keeps (fun k=>k=a.block) w w':=by
 have eg:∀args w,(callFunc 242 args).run ae w=.ok (.enter 242 args) w:=enters_of eJ (by kernel_rfl) rfl;rcases ho.2 with⟨h1,_⟩|⟨g,cap,cur,h1,h2,hg,h4,h5,h6,h7⟩
 .cases h1
 .injection h1 with h1 _ hcc;injection h1 with h1;subst h1 hcc;have hgl:=(ag.1 hg).1;have hbn:=World.block_lt_of_cell? w ⟨bn,0,none⟩ hc;have hF:∀j,j<n->cur[j]? =some (cA l.toArray[j]!):=by
   intro j hj;have h8:(strs l)[j]? =cur[j]? :=by rw[<-h7,cF,if_pos (by omega)];simp
   rw[<-h8];simp[strs,aw,al (show j<l.length by omega),getElem!_pos l.toArray j (by simpa using(show j<l.length by omega))]
  have hH:Sort.Holds cA w g 0 l.toArray:=fun j hj=>by
   have hj:j<n:=by simpa[hl]using hj
   refine⟨?_,by simp[World.frozen?,hg]⟩;have:=hF j hj;simp only[World.cell?,hg,cX];exact this
  have hpo:PredOver ae 242 #[.pointer (some ⟨bn,0,none⟩)] cA (fun x=>x.toList==s.toList) g 0 l.toArray.size w:=fun m os dk x _=>wh s x bn _ (by
   unfold sortWorld;rw[Sort.cell?_grow _ _ _ (by show bn<(Sort.putRow _ _ _ _ _).heap.size;rw[Sort.size_putRow];exact hbn),Sort.cell?_putRow_other _ _ g 0 _ _ (Or.inl hne)];exact hc)
  have hcon:=AnyE.slices_DeleteFunc Zj cA (fun _=>rfl) (fun x=>x.toList==s.toList) 242 #[.pointer (some ⟨bn,0,none⟩)] eg (⟨#[]⟩:ByteArray) zeroValue9 g 0 c l.toArray w
   (fun W x hb=>wh s x bn W ((hb.cell (p:=⟨bn,0,none⟩) hbn).trans hc)) hpo hH (by simp;omega) (by simp;omega)
  rw[show l.toArray.size=n by simpa using hl]at hcon;refine hcon.mono ?_;rintro e w' ⟨rfl,q,rfl⟩;obtain⟨l',hl'⟩:=ex (l.toArray.toList.filter fun x=> !(x.toList==s.toList))
  rw[<-hl'];have hle:l'.length<=n:=by rw[hl'];have:=List.length_filter_le (fun x=> !(x.toList==s.toList)) l.toArray.toList;simp at this ⊢; omega
  refine⟨l',rfl,⟨by simp[strs],.inr ⟨g,c,Sort.putCells cA 0 (l'++de (n-l'.length) (⟨#[]⟩:ByteArray)).toArray cur,rfl,h2,?_,by omega,h5,by simpa[Sort.putCells]using h6,?_⟩⟩,hle,⟨rfl,rfl,rfl,?_,fun k hk hne=>?_⟩⟩
  .show((w.heap.modify g _)[g]?)=_;rw[dd,if_pos rfl,hg];rfl
  .refine List.ext_getElem? fun j=>?_
   rw[cF];by_cases hj:j<l'.length*1
   .have hjl:j<l'.length:=by omega
    have hjc:j<cur.size:=by omega
    rw[if_pos hj,Array.getElem?_toList,Sort.putCells,Array.getElem?_mapIdx,cI hjc];have hsz:(l'++de (n-l'.length) (⟨#[]⟩:ByteArray)).toArray.size=n:=by simp;omega
    simp only[cq];rw[if_pos ⟨eR _,by rw[cX,hsz];omega⟩];simp only[strs,aw,al hjl,cq,Nat.sub_zero]
    congr 2
    rw[getElem!_pos (l'++de (n-l'.length) (⟨#[]⟩:ByteArray)).toArray j (by rw[hsz];omega)];simp[List.getElem_append_left hjl]
   .rw[if_neg hj,List.getElem?_eq_none (by simp[strs];omega)]
  .show w.heap.size<=(w.heap.modify g _).size;simp
  .show((w.heap.modify g _)[k]?)=_;rw[dd,if_neg (dg hne)]
def fT(w:af)(T:Nat->Prop)(bs b:Nat)(tp:ByteArray)(nx:Nat):Prop:=
 ∃(a:Addr) (c:Nat) (l:List ByteArray),St w bs 304 (Xn b tp nx (.slice (some a) l.length c))∧w.ownsRow 0 9 1 (.slice (some a) l.length c) l.length (strs l)∧l.length<=nx∧T bs∧T a.block∧bs≠a.block∧∀k,T k->k<w.heap.size
theorem fT.keep{w w':af}{S T:Nat->Prop}{bs b:Nat}{tp:ByteArray}{nx:Nat}(h:fT w T bs b tp nx)(hk:Keeps S w w')(hS:∀k,T k->¬S k):fT w' T bs b tp nx:=by
 obtain⟨a,c,l,h1,h2,h3,h4,h5,h6,h7⟩:=h;obtain⟨g,rfl,_⟩:=dZ h2;exact⟨_,c,l,h1.keep hk (hS _ h4),hk.own h2 fun k e=>by have e:=(by simpa[ao]using e);subst e;exact hS _ h5,h3,h4,h5,h6,fun k hk'=>aa (h7 k hk') hk.size⟩
abbrev nf(tp:ByteArray)(k:Nat):Nm:=nm (rn tp k)
def qZ(w:af)(tp:ByteArray)(gn on:Nat)(ks:List Nat):Prop:=∀j k,ks[j]? =some k->w.cell? ⟨gn,on+j,none⟩=some (.string (rn tp k))
variable {D D' T T':Nat->Prop}{F F':Files}{out tp:ByteArray}
theorem Zk{part rest:List (Nat×List Rc)}(hD:aV w D b room F' c)(hS:fT w T bs b tp nx)(iI:∀k,T k->¬D k)(hR:qY (nf tp) F F' (part++rest))(hF:∀p∈part,F (nf tp p.1)=none)(hsz:∀p∈part,(rn tp p.1).size<=maxLen)(hN:qZ w tp gn on (part.map (·.1)))(hn:part.length=n)(hgn:gn<w.heap.size∧¬D gn∧¬T gn)(hnl:n<1000)(hnx:nx<1000):
 bb ae 211 #[.pointer (some ⟨bs,0,none⟩),.slice (some ⟨gn,on,none⟩) n cn] w fun e w'=>e=.returned (.int .i64 0)∧∃sQ c',aV w' D b room sQ c'∧qY (nf tp) F sQ rest∧fT w' T bs b tp nx∧Keeps (jC D T) w w':=by
 have HW:=Y5 hF hsz hN iI hgn;have H0:=Y3 hD hS hR;clear hF hsz hN hD hS hR iI hgn;have HN:=Y1 hn;clear hn;go_enter func211,ntmps211
 go_wp2_with fail
 go_loopg [10] n (fun kq v10 wr=>∃k:Nat,kq+k=n∧v10=.int .i64 (k:Nat)∧aG (∃F1 c1,aV wr D b room F1 c1∧qY (nf tp) F F1 (part.drop k++rest)∧fT wr T bs b tp nx∧Keeps (jC D T) w wr))
 case atStart=>exact⟨0,by omega,rfl,⟨F',c,H0.out.1,H0.out.2.2,H0.out.2.1,Keeps.refl _ _⟩⟩
 case round=>
  obtain⟨k,hk,rfl,hA⟩:=hrel;by_cases hlt:k<n
  .have hlt':(k:Int)<n:=by omega
   obtain⟨F1,c1,hD,hR,hS,hK⟩:=hA.out;obtain⟨hF,hsz,hN,iI,hgn⟩:=HW.out;obtain⟨p,hp⟩:∃p,part[k]? =some p:=⟨_,al (by have:=HN.out;omega)⟩
   have hpm:=cm hp;have hdr:part.drop k=p::part.drop (k+1):=by rw[cJ (by have:=HN.out;omega)];rw[al (by have:=HN.out;omega)]at hp;injection hp with hp;rw[hp]
   have cn:=hK.cell (a:=⟨gn,on+k,none⟩) (hN k p.1 (by rw[aw,hp];rfl)) fun h=>h.elim hgn.2.1 hgn.2.2
   obtain⟨a,cs,l,s1,s2,s3,s4,s5,s6,s7⟩:=id hS;have c0:=s1.cell 0 rfl;have ahR:=s1.lt;obtain⟨V,hV⟩:=ex (wr.alloc (.cells #[.string (rn tp p.1)] 9 (0,0)))
   have v1:St V wr.heap.size 9 [.string (rn tp p.1)]:=by rw[hV];exact St.new _ _ _
   have kv:Keeps (fun _=>False) wr V:=by rw[hV];exact(Keeps.refl _ wr).alloc _
   have v0:=kv.cell (a:=⟨bs,0,none⟩) c0 id;have v2:=v1.cell 0 rfl;have HZ:=Y9 hD hR hS hK v1 kv hdr hpm hV;clear hD hR hS hK v1 kv hdr hp hF hsz hN iI hgn s1 s2 s3 s4 s5 s6 s7 hA c0;generalize uF:rn tp p.1=lU at*;have Zl:=Y1 uF;clear uF
   go_wp2_with fail
   rw[<-hV];have HVV:=Y1 hV;clear hV cn;refine dG [0] [1,2,3,4] [5,6] (by kernel_rfl) (fun _ _ x _ _ h=>by cases x<;>exact h) (by kernel_rfl) ?_;simp only[aJ,List.filterMap_cons,List.filterMap_nil,List.getElem?_cons_succ,List.getElem?_cons_zero];refine aI (fun K hK=>?_);go_simp;refine hK _ ?_;clear hK K;refine au ?_
   repeat quiet_step (fail)
   refine wpQuiet_nil ?_;rintro _ ⟨n3,rfl⟩
   go_wp2_with fail
   obtain⟨hD,hR,hS,hK,v1,kv,hdr,hpm,-⟩:=HZ.out;obtain⟨hF,hsz,hN,iI,hgn⟩:=HW.out;have kv3:=kv.drewN n3;rw[hdr,List.cons_append]at hR;have hx:F1 (nm lU)=some (fileOf p.2):=by rw[<-Zl.out];exact hR.at_ p (by simp)
   have hR2:qY (nf tp) F (upd F1 (nm lU) none) (part.drop (k+1)++rest):=by rw[<-Zl.out];exact qY.drop (rs:=[]) hR (hF p hpm)
   have hD3:=hD.keep kv3 fun _ _=>id
   have Sd:=hS.keep kv3 fun _ _=>id
   have hDl:∀j,D j->j<wr.heap.size:=fun j hj=>hD.lt hj
   refine(qI hD3 lU (by rw[<-Zl.out];exact hsz p hpm) hx).mono ?_;rintro e w2 ⟨rfl,hD4,hk4⟩;have hS4:=Sd.keep hk4.1 iI;obtain⟨a',cs',l2,s1,s2,s3,s4,s5,s6,s7⟩:=id hS4;have b2:=(show St (V.drewN n3) wr.heap.size 9 [.string lU]from v1).keep hk4.1 fun h=>by have:=hDl _ h;omega
   have d5:=s1.cell 5 rfl;have f5:=s1.frozen 5;obtain⟨g,rfl,hcl,hfr⟩:=dZ s2;have iy:∀j,T j->j<wr.heap.size:=by obtain⟨_,_,_,_,_,_,_,_,_,q⟩:=hS;exact q
   have hgT:=iy g s5;have hdel:=acY s2 rfl (by omega) (b2.cell 0 rfl) (fun e=>by have e:wr.heap.size=g:=e;omega);have hK2:=(hK.trans kv3 (fun i h=>h.elim)).trans hk4.1 fun i h=>.inl (.inl h)
   have HY:=Wo hD4 hR2 s1 s4 s5 s6 s7 s3 hK2 iI;clear hD hR hS hK v1 kv hdr hpm hF hsz hN iI hgn kv3 hx hR2 hD3 Sd hDl hD4 hk4 hS4 s1 s2 s3 s4 s5 s6 s7 b2 hcl hfr iy hK2 v0 v2
   go_wp2_with fail
   refine hdel.mono ?_;rintro e w3 ⟨l3,rfl,ho3,hl3,hk3⟩;obtain⟨hD4,hR2,s1,s4,s5,s6,s7,s3,hK2,iI⟩:=HY.out;have t1:=s1.keep hk3 s6;have e5:=t1.cell 5 rfl;have g5:=t1.frozen 5;have HX:=Y1 (show ∃F1 c1,aV (w3.setCell ⟨bs,5,none⟩ (.slice (some ⟨g,0,none⟩) l3.length cs')) D b room F1 c1∧qY (nf tp) F F1 (part.drop (k+1)++rest)∧fT (w3.setCell ⟨bs,5,none⟩ (.slice (some ⟨g,0,none⟩) l3.length cs')) T bs b tp nx∧Keeps (jC D T) w (w3.setCell ⟨bs,5,none⟩ (.slice (some ⟨g,0,none⟩) l3.length cs')) by
    have kz:Keeps T w2 (w3.setCell ⟨bs,5,none⟩ (.slice (some ⟨g,0,none⟩) l3.length cs')):=(hk3.mono (S':=T) fun i _ h=>by have h:=h;subst h;exact s5).setCell (a:=⟨bs,5,none⟩) (.inl s4) _;have hzz:(w3.setCell ⟨bs,5,none⟩ (.slice (some ⟨g,0,none⟩) l3.length cs')).heap.size=w3.heap.size:=by simp
    exact⟨_,_,hD4.keep kz fun i hi h=>iI i h hi,hR2,⟨_,cs',l3,t1.set 5 _,b_ (p:=⟨bs,5,none⟩) ho3 (fun e=>t1.own_ne ho3 (by decide) _ e.symm rfl) _,by omega,s4,s5,s6,fun i hi=>by rw[hzz];exact aa (s7 i hi) hk3.size⟩,hK2.trans kz fun i h=>.inl (.inr h)⟩)
   clear hD4 hR2 s1 s4 s5 s6 s7 s3 hK2 iI t1 ho3 hk3 hdel d5 f5
   go_wp2_with fail
   obtain⟨k1,rfl⟩:∃k1,gk=k1+1:=⟨gk-1,by omega⟩
   go_roundg k1
   case measure=>omega
   case rel=>exact⟨k+1,by omega,by simp,HX⟩
  .have hkn:k=n:=by omega
   subst hkn;have hlt':¬(k:Int)<k:=by omega
   go_wp2_with fail
   obtain⟨F1,c1,hD,hR,hS,hK⟩:=hA.out;rw[cY (by have:=HN.out;omega),dE]at hR;go_ret;exact⟨rfl,F1,⟨c1,hD⟩,hR,hS,hK⟩
theorem Qw:ae.info? 9=some fb:=rfl
theorem Qx:fb.zero=some (.string ⟨#[]⟩):=rfl
variable {p v:ar}
theorem kN{l:List ByteArray}(s:ByteArray)(ho:w.ownsRow 0 9 1 v l.length (strs l))(hl:l.length<1000000):
 ∃v' w',(aE #[86,86] 86 #[v,.slice (some ⟨w.heap.size,0,none⟩) 1 1]).run ae (w.alloc (.cells #[.string s] 9 (0,0)))=.ok v' w'∧
  w'.ownsRow 0 9 1 v' (l++[s]).length (strs (l++[s]))∧Keeps (fun k=>v.ownBlock=some k) w w'∧(∀k,v'.ownBlock=some k->v.ownBlock=some k∨w.heap.size<=k)∧∃a c,v'=.slice (some a) (l.length+1) c:=by
 have hnew:=St.new w 9 #[.string s];obtain⟨v',w',h1,h2,h3,h4⟩:=iB (P:=ae) (w.alloc (.cells #[.string s] 9 (0,0))) 0 86 86 9 fb (.string ⟨#[]⟩) 1 16 dq Qw Qx rfl rfl rfl (by decide) v l.length (strs l) (ho.alloc _)
  ⟨w.heap.size,0,none⟩ 1 1 [.string s] rfl (fun j u hj=>by
   match j,hj with
   |0,hj=>cases hj;simp[Addr.add]) (fun u hu=>by simp at hu;subst hu;rfl) (by unfold maxLen;omega) (by omega) (eR _)
 have h2':w'.ownsRow 0 9 1 v' (l++[s]).length (strs (l++[s])):=by simpa[strs]using h2
 refine⟨v',w',h1,h2',((Keeps.refl _ w).alloc _).grown h3 fun m e=>.inl e,fun k hk=>(h4 k hk).imp id fun h=>by simp at h;omega,?_⟩;rcases h2.2 with⟨_,h⟩|⟨g,cap,cur,h,_⟩
 .omega
 .exact⟨_,_,h⟩
theorem gq.LQ(h:fT w T bs b tp nx):∃l:List ByteArray,l.length<=nx∧gq w T bs b tp nx l:=by
 obtain⟨a,c,l,h1,h2,h3,h4,h5,h6,h7⟩:=h;obtain⟨g,rfl,_⟩:=dZ h2;exact⟨l,h3,_,h1,h2,h4,fun k e=>(by have e:=(by simpa[ao]using e);subst e;exact h5),h7⟩
variable {cur lr tk zs:List Rc}
theorem acZ{l:List ByteArray}(hD:aV w D b room F c)(hS:gq w T bs b tp nx l)(hl:l.length<=nx)(iI:∀k,T k->¬D k)(hv:jD w.heap.size w v zs)(hz:zs.length<=49)(hnx:nx+1<100)(htp:tp.size<1000)(Qy:(rn tp (nx+1)).size<=24)(hs0:0<(rn tp (nx+1)).size)(hx:F (nf tp (nx+1))=none)(hroom:c+(zs.length+2)<=room)(hc:c<100000):
 bb ae 252 #[.pointer (some ⟨bs,0,none⟩),v] w fun e w'=>e=.returned (.tuple #[.string (rn tp (nx+1)),.int .i64 0])∧∃D' T' c' zs',aV w' D' b room (upd F (nf tp (nx+1)) (some (fileOf zs'))) c'∧zs'.Perm zs∧fT w' T' bs b tp (nx+1)∧Stp (jC D T) (jC D' T') w w'∧∀k,T' k->¬D' k:=by
 obtain⟨A,cap,rfl⟩:∃A cap,v=.slice A zs.length cap:=by obtain⟨A,cap,h,_⟩:=hv;exact⟨A,cap,h⟩
 have c3:=hS.choose_spec.1.cell 3 rfl;have hbl:=hS.choose_spec.1.lt;have hSo:=ER hv (by omega);have HH:=Y4 hD hS iI hx;clear hD hS iI hv hx;obtain⟨lU,uF⟩:=ex (rn tp (nx+1))
 have HNM:=Y1 uF;rw[<-uF]at Qy hs0⊢;clear uF;go_enter func252,ntmps252
 go_wp2_with fail
 refine hSo.mono ?_;rintro e w1 ⟨v1,rfl,l1,ho1,hp1,-,hb1⟩;obtain⟨A1,cp1,rfl⟩:=aW ho1;have hS1:=HH.out.2.1.keep (Keeps.of_below (S:=fun _=>False) hb1) fun _ _=>id
 have HO:=Y4 ho1 hp1 hb1 hS1;clear ho1 hp1 hb1 hSo c3
 go_wp2_with fail
 refine(Qv hS1 hnx htp).mono ?_;clear hS1;rintro e w2 ⟨rfl,hS2,hk2⟩;rw[<-HNM.out];obtain⟨v2,s1,s2,s3,s4,s5⟩:=hS2;have c5:=s1.cell 5 rfl;have f5:=s1.frozen 5;obtain⟨v3,w3,hrun,ho3,hk3,zA,a3,wm,rfl⟩:=kN lU s2 (by omega);obtain⟨g3,rfl,_⟩:=dZ (show w3.ownsRow 0 9 1 (.slice (some a3) (l++[lU]).length wm) (l++[lU]).length (strs (l++[lU])) by simpa using ho3);have hT0:v2.ownBlock≠some bs:=fun e=>s1.own_ne s2 (by decide) bs e rfl
 have t1:=s1.keep hk3 hT0;have d5:=t1.cell 5 rfl;have d0:=t1.cell 0 rfl;have g5:=t1.frozen 5;obtain⟨A2,cp2,hv2⟩:=aW s2;subst hv2;have HT:=Y9 t1 ho3 hk3 zA s3 s4 s5 hk2 s1;clear s1 s2 s3 s4 s5 hk2 t1 ho3 hk3 zA hT0
 go_wp2_with (at_builtin;refine dh rfl _ _ 86 86 rfl (by simp[df]) (by simp[df]) hrun ?_;clear hrun)
 obtain⟨W4,Ce⟩:=ex (w3.setCell ⟨bs,5,none⟩ (.slice (some ⟨g3,0,none⟩) (l.length+1) wm))
 rw[<-Ce];obtain⟨hD,hS,iI,hx⟩:=HH.out;obtain⟨ho1,hp1,hb1,hS1⟩:=HO.out;obtain⟨t1,ho3,hk3,zA,s3,s4,s5,hk2,s1⟩:=HT.out;have iy:∀k,T k->k<w.heap.size:=by obtain⟨_,_,_,_,_,q⟩:=hS;exact q
 have k14:Keeps T w1 W4:=by
  rw[Ce];exact(hk2.trans hk3 fun i hi=>.inl (s4 i hi)).setCell (a:=⟨bs,5,none⟩) (.inl s3) _
 have Nn:=(Keeps.of_below (S:=T) hb1).trans k14 fun i hi=>.inl hi
 have hD4:=hD.keep Nn fun k hk h=>iI k h hk
 have hA1:∀a,A1=some a->w.heap.size<=a.block∧a.block<w1.heap.size:=fun a e=>by
  subst e;obtain⟨g,rfl,_⟩:=dZ ho1;exact⟨gB ho1 g rfl,bJ ho1 g rfl⟩
 have ac0:=(Cls.own ho1).move fun a e=>k14.at_ (hA1 a e).2 fun h=>by have:=iy _ h;have:=(hA1 a e).1;omega
 have hcp1:zs.length<=cp1:=by
  rcases ho1.2 with⟨h,h0⟩|⟨g,cap,cur,h,h2,h3,h4,_⟩
  .omega
  .injection h with _ _ h;omega
 have hl1:=hp1.length_eq;refine(Ct hD4 hs0 Qy (by rw[HNM.out];exact hx) hl1 hcp1 ac0 (fun a e=>⟨aa (hA1 a e).2 k14.size,fun h=>by have:=hD.lt h;have:=(hA1 a e).1;omega⟩) (by omega) (by omega) hc).mono ?_;rintro e w5 ⟨rfl,D',c',hD5,Qz,hk5⟩;have hg3:(T g3∨w.heap.size<=g3)∧g3<w3.heap.size:=⟨(zA g3 rfl).imp (s4 g3) fun h=>cC hb1.size (cC hk2.size h),bJ ho3 g3 rfl⟩
 have ac1:¬D g3:=fun h=>hg3.1.elim (fun ht=>iI _ ht h) fun hh=>by have:=hD.lt h;omega
 have hzz:W4.heap.size=w3.heap.size:=by rw[Ce];simp
 have hbg:bs≠g3:=fun e=>t1.own_ne ho3 (by decide) g3 rfl e.symm
 have el:(l++[lU]).length=l.length+1:=by simp
 have u1:St W4 bs 304 (Xn b tp (nx+1) (.slice (some ⟨g3,0,none⟩) (l.length+1) wm)):=by rw[Ce];exact t1.set 5 _
 have u2:W4.ownsRow 0 9 1 (.slice (some ⟨g3,0,none⟩) (l.length+1) wm) (l++[lU]).length (strs (l++[lU])):=by rw[Ce];exact b_ (p:=⟨bs,5,none⟩) ho3 (fun e=>t1.own_ne ho3 (by decide) _ e.symm rfl) _
 rw[el]at u2;have hSN:fT W4 (fun k=>T k∨k=g3) bs b tp (nx+1):=⟨⟨g3,0,none⟩,wm,l++[lU],by rw[el];exact u1,by rw[el];exact u2,by rw[el];omega,.inl s3,.inr rfl,hbg,fun k hk=>by rw[hzz];exact hk.elim (fun h=>aa (iy k h) (by have:=Nn.size;omega)) fun h=>h▸hg3.2⟩
 have Zm:∀k,(T k∨k=g3)->¬D k:=fun k hk h=>hk.elim (fun ht=>iI k ht h) fun e=>ac1 (e▸h)
 have Xp:∀k,(T k∨k=g3)->¬D' k:=fun k hk h=>(hk5.2 k h).elim (Zm k hk) fun hh=>by
  rcases hk with hk|rfl
  .have:=iy k hk;have:=Nn.size;omega
  .have:=hg3.2;omega
 have HF:=Y1 (show ∃D' T' c' zs',aV w5 D' b room (upd F (nf tp (nx+1)) (some (fileOf zs'))) c'∧zs'.Perm zs∧fT w5 T' bs b tp (nx+1)∧Stp (jC D T) (jC D' T') w w5∧∀k,T' k->¬D' k from
  ⟨D',fun k=>T k∨k=g3,c',l1,by rw[HNM.out]at hD5;exact hD5,hp1,hSN.keep hk5.1 fun k hk h=>Zm k hk h,⟨(Nn.mono fun k _ h=>Or.inr h).trans hk5.1 fun i h=>.inl (.inl h),fun k hk=>by
   rcases hk with hk|hk|rfl
   .exact(hk5.2 k hk).elim (fun h=>.inl (.inl h)) fun h=>.inr (cC Nn.size h)
   .exact .inl (.inr hk)
   .exact hg3.1.elim (fun h=>.inl (.inr h)) .inr⟩,Xp⟩)
 clear hD hS iI hx ho1 hp1 hb1 hS1 t1 ho3 hk3 zA s3 s4 s5 hk2 s1 iy k14 Nn hD4 hA1 ac0 hcp1 hl1 hD5 Qz hk5 hg3 ac1 hzz hbg el u1 u2 hSN Zm Xp Ce
 go_wp2
 exact bodyPost_ret (results_tmp2 rfl _ _ _) rfl ⟨rfl,HF.out⟩
structure Ip (w:af) (X:Nat->Prop) (b:Nat) (t e:dy) (size n:Nat) (xs:List ar) (v:ar):Prop where
 st:St w b t [v]
 own:w.ownsRow 0 e size v n xs
 xb:X b
 xo:∀k,v.ownBlock=some k->X k
theorem Ip.keep{w w':af}{S X:Nat->Prop}{b:Nat}{t e:dy}{size n:Nat}{xs:List ar}{v:ar}(h:Ip w X b t e size n xs v)(hk:Keeps S w w')(hS:∀k,X k->¬S k):Ip w' X b t e size n xs v:=
 ⟨h.st.keep hk (hS _ h.xb),hk.own h.own fun k e=>hS k (h.xo k e),h.xb,h.xo⟩
theorem UR{b1 b2 e1 e2 s1 s2 n1 n2:Nat}{v1 v2:ar}{x1 x2:List ar}(h1:w.ownsRow b1 e1 s1 v1 n1 x1)(h2:w.ownsRow b2 e2 s2 v2 n2 x2)(hne:e1≠e2):∀k,v1.ownBlock=some k->v2.ownBlock≠some k:=fun k hk hk'=>by
 obtain⟨c1,e1'⟩:=gG h1 k hk;obtain⟨c2,e2'⟩:=gG h2 k hk';rw[e1']at e2';injection e2' with e2';injection e2' with _ e2';exact hne e2'
structure LU (w:af) (X:Nat->Prop) (b3 b9 b6 bs:Nat) (cur:List Rc) (ns:List ByteArray):Prop where
 s3:St w b3 302 [.pointer (some ⟨bs,0,none⟩)]∧X b3
 r9:∃v,Ip w X b9 279 283 2 cur.length (recs cur) v
 n6:∃v,Ip w X b6 86 9 1 ns.length (strs ns) v
 lt:∀k,X k->k<w.heap.size
theorem LU.keep{w w':af}{S X:Nat->Prop}{b3 b9 b6 bs:Nat}{cur:List Rc}{ns:List ByteArray}(h:LU w X b3 b9 b6 bs cur ns)(hk:Keeps S w w')(hS:∀k,X k->¬S k):LU w' X b3 b9 b6 bs cur ns:=by
 obtain⟨a1,⟨v,a2⟩,⟨u,a3⟩,a4⟩:=h;exact⟨⟨a1.1.keep hk (hS _ a1.2),a1.2⟩,⟨v,a2.keep hk hS⟩,⟨u,a3.keep hk hS⟩,fun k hx=>aa (a4 k hx) hk.size⟩
theorem QA{X:Nat->Prop}{ns l:List ByteArray}(hD:aV w D b room F c)(hS:gq w T bs b tp nx l)(hl:l.length<=nx)(iI:∀k,T k->¬D k)(hB:LU w X b3 b9 b6 bs cur ns)(QB:∀k,X k->¬D k∧¬T k)(hns:ns.length<1000)(hz:cur.length<=49)(hnx:nx+1<100)(htp:tp.size<1000)(Qy:(rn tp (nx+1)).size<=24)(hs0:0<(rn tp (nx+1)).size)(hx:F (nf tp (nx+1))=none)(hroom:c+(cur.length+2)<=room)(hc:c<100000):
 bb ae 251 #[.pointer (some ⟨b3,0,none⟩),.pointer (some ⟨b9,0,none⟩),.pointer (some ⟨b6,0,none⟩)] w fun e w'=>e=.returned (.int .i64 0)∧∃D' T' X' c' zs',aV w' D' b room (upd F (nf tp (nx+1)) (some (fileOf zs'))) c'∧zs'.Perm cur∧fT w' T' bs b tp (nx+1)∧(∀k,T' k->¬D' k)∧
  LU w' X' b3 b9 b6 bs [] (ns++[rn tp (nx+1)])∧(∀k,X' k->¬D' k∧¬T' k)∧Keeps (fun k=>D k∨T k∨X k) w w'∧(∀k,D' k->D k∨T k∨w.heap.size<=k)∧(∀k,T' k->D k∨T k∨w.heap.size<=k)∧∀k,X' k->X k∨w.heap.size<=k:=by
 obtain⟨⟨s3,x3⟩,⟨v9,r9⟩,⟨v6,n6⟩,wL⟩:=hB;have c3:=s3.cell 0 rfl;have c9:=r9.st.cell 0 rfl;obtain⟨A9,QC,rfl⟩:=aW r9.own;have hR:=jD.own r9.own rfl (fun k e=>bJ r9.own k e);have Zn:=acZ hD hS hl iI hR hz hnx htp Qy hs0 hx hroom hc;obtain⟨lU,uF⟩:=ex (rn tp (nx+1))
 have HNM:=Y1 uF;rw[<-uF]at Zn Qy hs0⊢;have iy:∀k,T k->k<w.heap.size:=by obtain⟨_,_,_,_,_,q⟩:=hS;exact q
 have HH:=Y1 (cE s3 (cE x3 (cE r9 (cE n6 (cE wL (cE QB (cE iy fun k (h:D k)=>hD.lt h)))))));clear s3 x3 r9 n6 wL QB iy hD hS iI hR hx uF;go_enter func251,ntmps251
 go_wp2_with fail
 refine Zn.mono ?_;rintro e w1 ⟨rfl,D',T',c',zs',hD1,hp1,hS1,hk1,hT1⟩;obtain⟨s3,x3,r9,n6,wL,QB,iy,hDl⟩:=HH.out;have hXn:∀k,X k->¬jC D T k:=fun k hx h=>h.elim (QB k hx).1 (QB k hx).2
 have s3':=s3.keep hk1.1 (hXn _ x3);have Sg:=r9.keep hk1.1 hXn;have n6':=n6.keep hk1.1 hXn;have c6:=n6'.st.cell 0 rfl;have f6:=n6'.st.frozen 0;have e9:=Sg.st.cell 0 rfl;have f9:=Sg.st.frozen 0;obtain⟨v3,w3,hrun,ho3,hk3,zA,a3,wm,rfl⟩:=kN lU n6'.own (by omega);obtain⟨A6,Bj,hv6⟩:=aW n6'.own;subst hv6;have h96:=Sg.st.ne n6'.st (by decide);have k9:=fun k hk=>Sg.st.own_ne n6'.own (by decide) k hk
 have k6:=fun k hk=>n6'.st.own_ne n6'.own (by decide) k hk
 have k3:=fun k hk=>s3'.own_ne n6'.own (by decide) k hk
 have t6:=n6'.st.keep hk3 fun e=>k6 _ e rfl
 have t9:=Sg.st.keep hk3 fun e=>k9 _ e rfl
 have t3:=s3'.keep hk3 fun e=>k3 _ e rfl
 have d6:=t6.cell 0 rfl;have g6:=t6.frozen 0;have d9:=t9.cell 0 rfl;have g9:=t9.frozen 0;have HT:=Y13 hD1 hp1 hS1 hk1 hT1 t6 t9 t3 ho3 hk3 zA n6' Sg;clear hD1 hp1 hS1 hk1 hT1 t6 t9 t3 ho3 hk3 zA n6' Sg s3' s3 x3 r9 n6 wL QB iy hDl hXn c3 c9 k9 k6 k3 Zn
 go_wp2_with (at_builtin;refine dh rfl _ _ 86 86 rfl (by simp[df]) (by simp[df]) hrun ?_;clear hrun)
 obtain⟨hD1,hp1,hS1,hk1,hT1,t6,t9,t3,ho3,hk3,zA,n6',Sg⟩:=HT.out;obtain⟨s3,x3,r9,n6,wL,QB,iy,hDl⟩:=HH.out;have el:(ns++[lU]).length=ns.length+1:=by simp
 obtain⟨g3,rfl,_⟩:=dZ (show w3.ownsRow 0 9 1 (.slice (some a3) (ns.length+1) wm) (ns.length+1) (strs (ns++[lU])) by rw[el]at ho3;exact ho3);rw[el]at ho3;obtain⟨w4,hw4⟩:∃w4,w4=(w3.setCell ⟨b6,0,none⟩ (.slice (some ⟨g3,0,none⟩) (ns.length+1) wm)).setCell ⟨b9,0,none⟩ (.slice none 0 0):=⟨_,rfl⟩
 rw[<-hw4];have UU:w4.heap.size=w3.heap.size:=by rw[hw4];simp
 have kx:Keeps X w1 w4:=by
  rw[hw4];exact((hk3.mono (S':=X) fun k _ h=>n6'.xo k h).setCell (a:=⟨b6,0,none⟩) (.inl n6'.xb) _).setCell (a:=⟨b9,0,none⟩) (.inl Sg.xb) _
 have UW:∀k,X k->¬D' k∧¬T' k:=fun k hx=>by
  have:=wL k hx;exact⟨fun h=>(hk1.2 k (.inl h)).elim (fun h=>h.elim (QB k hx).1 (QB k hx).2) (by omega),fun h=>(hk1.2 k (.inr h)).elim (fun h=>h.elim (QB k hx).1 (QB k hx).2) (by omega)⟩
 have hg3:=(zA g3 rfl).imp (n6'.xo g3) id;have af3:∀k,T' k->k<w1.heap.size:=by obtain⟨_,_,_,_,_,_,_,_,_,q⟩:=hS1;exact q
 have af4:∀k,D' k->k<w1.heap.size:=fun k h=>hD1.lt h
 have hw1:=hk1.1.size;have h36:=t3.ne t6 (by decide);have h39:=t3.ne t9 (by decide);have ac2:=t6.ne t9 (by decide);have Zo:=t6.own_ne ho3 (by decide) g3 rfl;have hg9:=t9.own_ne ho3 (by decide) g3 rfl;have u3:St w4 b3 302 [.pointer (some ⟨bs,0,none⟩)]:=by rw[hw4];exact(t3.other h36 _).other h39 _
 have u6:St w4 b6 86 [.slice (some ⟨g3,0,none⟩) (ns.length+1) wm]:=by rw[hw4];exact(t6.set 0 _).other ac2 _
 have u9:St w4 b9 279 [.slice none 0 0]:=by rw[hw4];exact(t9.other ac2.symm _).set 0 _
 have q6:(cM (some ⟨g3,0,none⟩) (ns.length+1) wm).ownBlock≠some b6:=fun e=>Zo (by simpa[ao]using e)
 have q9:(cM (some ⟨g3,0,none⟩) (ns.length+1) wm).ownBlock≠some b9:=fun e=>hg9 (by simpa[ao]using e)
 have uo:w4.ownsRow 0 9 1 (.slice (some ⟨g3,0,none⟩) (ns.length+1) wm) (ns.length+1) (strs (ns++[lU])):=by
  rw[hw4];exact b_ (p:=⟨b9,0,none⟩) (b_ (p:=⟨b6,0,none⟩) ho3 (fun e=>q6 e.symm) _) (fun e=>q9 e.symm) _
 go_ret;refine⟨rfl,D',T',fun k=>X k∨k=g3,c',zs',hD1.keep kx fun k hk h=>(UW k h).1 hk,hp1,hS1.keep kx fun k hk h=>(UW k h).2 hk,hT1,
  ⟨⟨u3,.inl x3⟩,⟨_,u9,bz _ _ 283 2,.inl Sg.xb,fun k e=>(by cases e)⟩,⟨_,u6,by rw[el];exact uo,.inl n6'.xb,fun k e=>.inr (by simpa[ao]using e.symm)⟩,fun k hk=>?_⟩,fun k hk=>?_,?_,fun k h=>?_,fun k h=>?_,fun k hk=>?_⟩
 .have h0:=bJ ho3 g3 rfl;have h1:=kx.size;rcases hk with hk|rfl
  .have:=wL k hk;omega
  .omega
 .rcases hk with hk|rfl
  .exact UW k hk
  .rcases hg3 with h|h
   .exact UW k h
   .exact⟨fun hh=>by have:=af4 k hh;omega,fun hh=>by have:=af3 k hh;omega⟩
 .exact(hk1.1.mono (S':=fun k=>D k∨T k∨X k) fun k _ h=>h.elim .inl fun h=>.inr (.inl h)).trans kx fun k h=>.inl (.inr (.inr h))
 .exact(hk1.2 k (.inl h)).elim (fun h=>h.elim .inl fun h=>.inr (.inl h)) fun h=>.inr (.inr h)
 .exact(hk1.2 k (.inr h)).elim (fun h=>h.elim .inl fun h=>.inr (.inl h)) fun h=>.inr (.inr h)
 .rcases hk with hk|rfl
  .exact .inl hk
  .exact hg3.imp id fun h=>cC hw1 h
def fU(w:af)(T:Nat->Prop)(bs b:Nat)(tp:ByteArray)(k:Nat):Prop:=
 (∃l:List ByteArray,l.length<=k∧gq w T bs b tp k l)∧(0<k->fT w T bs b tp k)
theorem fU.keep{w w':af}{S T:Nat->Prop}{bs b k:Nat}{tp:ByteArray}(h:fU w T bs b tp k)(hk:Keeps S w w')(hS:∀k,T k->¬S k):fU w' T bs b tp k:=by
 obtain⟨⟨l,h1,h2⟩,h3⟩:=h;exact⟨⟨l,h1,h2.keep hk hS⟩,fun h=>(h3 h).keep hk hS⟩
theorem fU.LQ{w:af}{T:Nat->Prop}{bs b k:Nat}{tp:ByteArray}(h:fT w T bs b tp k):fU w T bs b tp k:=⟨gq.LQ h,fun _=>h⟩
theorem fU.lt(h:fU w T bs b tp k):∀k,T k->k<w.heap.size:=by
 obtain⟨⟨l,h1,_,_,_,_,_,q⟩,h3⟩:=h;exact q
variable {is ld:Bool}
theorem Reader.lt{s:ByteArray}{l:List Rc}(h:Reader w T br b s l ld):∀k,T k->k<w.heap.size:=h.2.1
structure iY (tp:ByteArray) (F:Files):Prop where
 none:∀j,1<=j->j<100->F (nf tp j)=none
 le:tp.size<=20
theorem iY.size{tp:ByteArray}{F:Files}(h:iY tp F){j:Nat}(hj:j<100):(rn tp j).size<=24∧0<(rn tp j).size:=by
 have h1:=nL j hj;have h2:=h.le;have e:(rn tp j).size=tp.size+1+(itoa j).size:=by
  unfold rn;rw[ByteArray.size_append,ByteArray.size_append];rfl
 omega
theorem Iq(hi:i<100)(hj:j<100)(h:nf tp i=nf tp j):i=j:=by
 unfold nf rn at h;rw[eT,eT (tp++_) (itoa j)]at h;exact qX hi hj (List.append_cancel_left h)
structure nY (w wr:af) (D T R:Nat->Prop) (bs b br b3 b9 b6 room:Nat) (tp s:ByteArray) (F:Files) (tk cur:List Rc) (rs:List (Nat×List Rc)) (lr:List Rc) (ld:Bool):Prop where
 ex:∃(D' T' X' R':Nat->Prop) (F':Files) (c':Nat),(aV wr D' b room F' c'∧fU wr T' bs b tp rs.length∧LU wr X' b3 b9 b6 bs cur (rs.map fun p=>rn tp p.1)∧Reader wr R' br b s lr ld)∧qY (nf tp) F F' rs∧
  ((∀k,T' k->¬D' k)∧(∀k,X' k->¬D' k∧¬T' k)∧∀k,R' k->¬D' k∧¬T' k∧¬X' k)∧
  Keeps (fun k=>D k∨T k∨R k) w wr∧(∀k,D' k->D k∨T k∨w.heap.size<=k)∧(∀k,T' k->D k∨T k∨w.heap.size<=k)∧(∀k,X' k->w.heap.size<=k)∧∀k,R' k->R k∨w.heap.size<=k
 keys:rs.map (·.1)=eS 1 rs.length
 full:∀p∈rs,p.2≠[]
 perm:(rs.flatMap (·.2)++cur).Perm tk
 ld:ld=false->rs=[]
theorem ru:∀(rs:List (Nat×List Rc)),(∀p∈rs,p.2≠[])->rs.length<=(rs.flatMap (·.2)).length∧(rs.map fun p=>yQ p.2).sum<=3*(rs.flatMap (·.2)).length
 | [],_=>by simp
 |p::rs,h=>by
  have ih:=ru rs fun q hq=>h q (by simp[hq])
  have h1:=h p (by simp);have h2:=cy.2 h1;have h3:yQ p.2<=p.2.length+2:=by
   unfold yQ sec;rw[iT,if_neg h1];omega
  simp only[ax,dr,ab,dj,List.sum_cons];omega
variable {outs rs:List (Nat×List Rc)}
theorem nY.flush{R:Nat->Prop}{s:ByteArray}(h:nY w wr D T R bs b br b3 b9 b6 room tp s F tk cur rs lr ld)(hN:iY tp F)(hc0:rF F c)(hcur:cur≠[])(hld:ld=true)(htk:tk.length<=49)(hroom:c+3*tk.length<=room)(hc:c+3*tk.length<100000):
 bb ae 251 #[.pointer (some ⟨b3,0,none⟩),.pointer (some ⟨b9,0,none⟩),.pointer (some ⟨b6,0,none⟩)] wr fun e w'=>e=.returned (.int .i64 0)∧∃rs',nY w w' D T R bs b br b3 b9 b6 room tp s F tk [] rs' lr ld:=by
 obtain⟨⟨D',T',X',R',F',c',⟨hD,hS,hB,hR⟩,hI,⟨z1,z2,z3⟩,hk,f1,f2,f3,f4⟩,hkeys,hfull,hperm,_⟩:=h;obtain⟨q1,q2⟩:=ru rs hfull;have hlen:=hperm.length_eq;rw[ab]at hlen;have hcl:=cy.2 hcur;have hkm:∀p∈rs,p.1<1+rs.length∧1<=p.1:=fun p hp=>by
  have:p.1∈rs.map (·.1):=cz hp;rw[hkeys,dt]at this;omega
 have hFn:=fun p hp=>hN.none p.1 (hkm p hp).2 (by have:=(hkm p hp).1;omega)
 have hne:∀p∈rs,nf tp p.1≠nf tp (rs.length+1):=fun p hp e=>by
  have:=Iq (by have:=(hkm p hp).1;omega) (by omega) e;have:=(hkm p hp).1;omega
 have hx:F' (nf tp (rs.length+1))=none:=by rw[hI.other _ hne];exact hN.none _ (by omega) (by omega)
 have hcc:=hD.cost.unique (qY.cost hc0 rs F' hI hFn);obtain⟨⟨l,hl,hSA⟩,_⟩:=hS;have hsz:=hN.size (j:=rs.length+1) (by omega);have htp:=hN.le;refine(QA hD hSA hl z1 hB z2 (by simpa using Nat.lt_of_le_of_lt q1 (by omega)) (by omega) (by omega) (by omega) hsz.1 hsz.2 hx (by omega) (by omega)).mono ?_;rintro e w' ⟨rfl,D2,T2,X2,c2,zs,hD2,hp2,hS2,y1,hB2,y2,hk2,g1,g2,g3⟩;have hRX:∀k,R' k->¬(D' k∨T' k∨X' k):=fun k hr hh=>by
  have:=z3 k hr;rcases hh with h|h|h
  .exact this.1 h
  .exact this.2.1 h
  .exact this.2.2 h
 have hRl:=hR.lt;have hsz0:=hk.size;refine⟨rfl,rs++[(rs.length+1,zs)],⟨D2,T2,X2,R',_,c2,⟨hD2,?_,?_,hR.keep hk2 hRX⟩,hI.add _ zs hne,⟨y1,y2,fun k hr=>⟨fun h=>?_,fun h=>?_,fun h=>?_⟩⟩,hk.trans hk2 ?_,fun k h=>?_,fun k h=>?_,fun k h=>?_,f4⟩,?_,?_,?_,fun h=>by rw[hld]at h;cases h⟩
 .rw[ab];exact fU.LQ hS2
 .simpa using hB2
 .have:=hRl k hr;exact(g1 k h).elim (z3 k hr).1 fun h=>h.elim (z3 k hr).2.1 fun h=>by omega
 .have:=hRl k hr;exact(g2 k h).elim (z3 k hr).1 fun h=>h.elim (z3 k hr).2.1 fun h=>by omega
 .have:=hRl k hr;exact(g3 k h).elim (z3 k hr).2.2 fun h=>by omega
 .rintro k (h|h|h)
  .exact(f1 k h).elim (fun h=>.inl (.inl h)) fun h=>h.elim (fun h=>.inl (.inr (.inl h))) .inr
  .exact(f2 k h).elim (fun h=>.inl (.inl h)) fun h=>h.elim (fun h=>.inl (.inr (.inl h))) .inr
  .exact .inr (f3 k h)
 .exact(g1 k h).elim (f1 k) fun h=>h.elim (f2 k) fun h=>.inr (.inr (by omega))
 .exact(g2 k h).elim (f1 k) fun h=>h.elim (f2 k) fun h=>.inr (.inr (by omega))
 .exact(g3 k h).elim (f3 k) fun h=>by omega
 .rw[List.map_append,hkeys,ab,ca,List.range'_concat];simp[Nat.add_comm]
 .intro p hp;rcases cx.1 hp with hp|hp
  .exact hfull p hp
  .obtain rfl:p=(rs.length+1,zs):=by simpa using hp
   intro e;have e:zs=[]:=e;have:=hp2.length_eq;rw[e]at this;simp at this;omega
 .rw[List.append_nil,an];refine bk ?_ hperm;exact aq _ (by simpa using hp2)
variable {r:Rc}
theorem nY.next{R:Nat->Prop}{s:ByteArray}(h:nY w wr D T R bs b br b3 b9 b6 room tp s F tk cur rs (r::lr) ld)(hs:s.size<=maxLen)(hx:ld=false->F (nm s)=some (fileOf (r::lr)))(hl2:(r::lr).length<=49)(hw:Wf r):
 bb ae 253 #[.pointer (some ⟨br,0,none⟩)] wr fun e w'=>e=.returned (.tuple #[.agg #[.int .u64 r.1,.int .u64 r.2],.bool true,.int .i64 0])∧nY w w' D T R bs b br b3 b9 b6 room tp s F tk cur rs lr true:=by
 obtain⟨⟨D',T',X',R',F',c',⟨hD,hS,hB,hR⟩,hI,⟨z1,z2,z3⟩,hk,f1,f2,f3,f4⟩,hkeys,hfull,hperm,hld⟩:=h;refine(vg hD hR (fun k h=>(z3 k h).1) hs (fun e=>by
  have:=hld e;subst this;rw[hI.done];exact hx e) hl2 hw).mono ?_
 rintro e w' ⟨rfl,R2,hD2,hR2,hst,y1⟩;have hsz0:=hk.size;have iy:=hS.lt;have wL:=hB.lt;have Zp:∀k,R2 k->R' k∨wr.heap.size<=k:=fun k h=>(hst.2 k (.inr h)).elim (fun h2=>h2.elim (fun h2=>(y1 k h h2).elim) .inl) .inr
 exact⟨rfl,⟨D',T',X',R2,F',c',⟨hD2,hS.keep hst.1 fun k h hh=>hh.elim (z1 k h) fun hh=>(z3 k hh).2.1 h,hB.keep hst.1 fun k h hh=>hh.elim (z2 k h).1 fun hh=>(z3 k hh).2.2 h,hR2⟩,hI,⟨z1,z2,fun k h=>⟨y1 k h,fun ht=>(Zp k h).elim (fun h=>(z3 k h).2.1 ht) fun h=>by have:=iy k ht;omega,fun ht=>(Zp k h).elim (fun h=>(z3 k h).2.2 ht) fun h=>by have:=wL k ht;omega⟩⟩,
  hk.trans hst.1 (fun k h=>h.elim (fun h=>(f1 k h).elim (fun h=>.inl (.inl h)) fun h=>h.elim (fun h=>.inl (.inr (.inl h))) .inr) fun h=>(f4 k h).elim (fun h=>.inl (.inr (.inr h))) .inr),f1,f2,f3,fun k h=>(Zp k h).elim (f4 k) fun h=>.inr (by omega)⟩,hkeys,hfull,hperm,fun e=>by cases e⟩
theorem nY.below{R:Nat->Prop}{s:ByteArray}(h:nY w wr D T R bs b br b3 b9 b6 room tp s F tk cur rs lr ld)(hb:Below wr.heap.size wr w'):nY w w' D T R bs b br b3 b9 b6 room tp s F tk cur rs lr ld:=by
 obtain⟨⟨D',T',X',R',F',c',⟨hD,hS,hB,hR⟩,hI,hz,hk,hf⟩,hr⟩:=h;have k0:Keeps (fun _=>False) wr w':=Keeps.of_below hb;exact⟨⟨D',T',X',R',F',c',⟨hD.keep k0 fun _ _=>id,hS.keep k0 fun _ _=>id,hB.keep k0 fun _ _=>id,hR.keep k0 fun _ _=>id⟩,hI,hz,hk.trans k0 fun _ h=>h.elim,hf⟩,by assumption,by assumption,by assumption,by assumption⟩
theorem nY.app{R:Nat->Prop}{s:ByteArray}(h:nY w wr D T R bs b br b3 b9 b6 room tp s F tk cur rs lr ld)(r:Rc)(hl:cur.length<1000):
 ∃A9 QC a' cp' w',wr.cell? ⟨b9,0,none⟩=some (.slice A9 cur.length QC)∧(aE #[279,279] 279 #[.slice A9 cur.length QC,.slice (some ⟨wr.heap.size,0,none⟩) 1 1]).run ae (wr.alloc (.cells #[.int .u64 r.1,.int .u64 r.2] 283 (0,0)))=.ok (.slice (some a') (cur.length+1) cp') w'∧
  w'.frozen? ⟨b9,0,none⟩=false∧(∃u,w'.cell? ⟨b9,0,none⟩=some u)∧nY w (w'.setCell ⟨b9,0,none⟩ (.slice (some a') (cur.length+1) cp')) D T R bs b br b3 b9 b6 room tp s F (tk++[r]) (cur++[r]) rs lr ld:=by
 obtain⟨⟨D',T',X',R',F',c',⟨hD,hS,⟨⟨s3,x3⟩,⟨v9,r9⟩,⟨v6,n6⟩,wL⟩,hR⟩,hI,⟨z1,z2,z3⟩,hk,f1,f2,f3,f4⟩,hkeys,hfull,hperm,hld⟩:=h;obtain⟨A9,QC,rfl⟩:=aW r9.own;obtain⟨v',w',hrun,ho,hk1,hn1⟩:=mH r r9.own (by omega);have el:(cur++[r]).length=cur.length+1:=by simp
 rw[el]at ho;obtain⟨a',cp',rfl⟩:∃a' cp',v'=.slice (some a') (cur.length+1) cp':=by
  rcases ho.2 with⟨_,h⟩|⟨g,cap,cc,h,_⟩
  .omega
  .exact⟨_,_,h⟩
 obtain⟨g,rfl,_⟩:=dZ ho;have hSX:=r9.xo;have kX:=hk1.mono fun k _ h=>hSX k h
 have d9:=r9.st.keep hk1 fun e=>r9.st.own_ne r9.own (by decide) _ e rfl
 have d6:=n6.st.keep hk1 fun e=>n6.st.own_ne r9.own (by decide) _ e rfl
 have d3:=s3.keep hk1 fun e=>s3.own_ne r9.own (by decide) _ e rfl
 have o6:=hk1.own n6.own fun k e h=>UR n6.own r9.own (by decide) k e h
 have hg9:=d9.own_ne ho (by decide) g rfl;have h39:=d3.ne d9 (by decide);have h69:=d6.ne d9 (by decide);have UY:Keeps X' wr (w'.setCell ⟨b9,0,none⟩ (.slice (some ⟨g,0,none⟩) (cur.length+1) cp')):=kX.setCell (a:=⟨b9,0,none⟩) (.inl r9.xb) _;have q9:(cM (some ⟨g,0,none⟩) (cur.length+1) cp').ownBlock≠some b9:=fun e=>hg9 (by simpa[ao]using e)
 have q6:v6.ownBlock≠some b9:=fun e=>d9.own_ne o6 (by decide) _ e rfl
 have hgl:=bJ ho g rfl;have Nh:=(hn1 g rfl).imp (hSX g) id;have iy:=hS.lt;have hRl:=hR.lt;have hDl:∀k,D' k->k<wr.heap.size:=fun k h=>hD.lt h
 have hsz0:=hk.size;have hsz1:=UY.size;refine⟨A9,QC,⟨g,0,none⟩,cp',w',r9.st.cell 0 rfl,hrun,d9.frozen 0,⟨_,d9.cell 0 rfl⟩,⟨D',T',fun k=>X' k∨k=g,R',F',c',⟨hD.keep UY fun k h hx=>(z2 k hx).1 h,hS.keep UY fun k h hx=>(z2 k hx).2 h,
  ⟨⟨d3.other h39 _,.inl x3⟩,⟨_,d9.set 0 _,by rw[el];exact b_ (p:=⟨b9,0,none⟩) ho (fun e=>q9 e.symm) _,.inl r9.xb,fun k e=>.inr (by simpa[ao]using e.symm)⟩,⟨v6,d6.other h69 _,b_ (p:=⟨b9,0,none⟩) o6 (fun e=>q6 e.symm) _,.inl n6.xb,fun k e=>.inl (n6.xo k e)⟩,fun k hk'=>?_⟩,hR.keep UY fun k h=>(z3 k h).2.2⟩,hI,
  ⟨z1,fun k hk'=>?_,fun k h=>⟨(z3 k h).1,(z3 k h).2.1,fun hh=>?_⟩⟩,hk.trans UY fun k h=>.inr (f3 k h),f1,f2,fun k hk'=>?_,f4⟩,hkeys,hfull,?_,hld⟩
 .rcases hk' with h|rfl
  .have:=wL k h;omega
  .simpa using hgl
 .rcases hk' with h|rfl
  .exact z2 k h
  .rcases Nh with h|h
   .exact z2 k h
   .exact⟨fun hh=>by have:=hDl k hh;omega,fun hh=>by have:=iy k hh;omega⟩
 .rcases hh with hh|rfl
  .exact(z3 k h).2.2 hh
  .rcases Nh with hh|hh
   .exact(z3 k h).2.2 hh
   .have:=hRl k h;omega
 .rcases hk' with h|rfl
  .exact f3 k h
  .rcases Nh with h|h
   .exact f3 k h
   .omega
 .rw[<-ba];exact hperm.append_right _
theorem nY.Zq{R:Nat->Prop}{s:ByteArray}(h:nY w wr D T R bs b br b3 b9 b6 room tp s F tk cur rs lr ld):
 ∃A9 QC,wr.cell? ⟨b9,0,none⟩=some (.slice A9 cur.length QC):=by
 obtain⟨⟨D',T',X',R',F',c',⟨hD,hS,⟨⟨s3,x3⟩,⟨v9,r9⟩,⟨v6,n6⟩,wL⟩,hR⟩,_⟩,_⟩:=h;obtain⟨A9,QC,rfl⟩:=aW r9.own;exact⟨A9,QC,r9.st.cell 0 rfl⟩
def Zr(w w':af)(D T R:Nat->Prop)(bs b room:Nat)(tp:ByteArray)(F:Files)(l:List Rc)(v:ar):Prop:=
 ∃(D' T' X':Nat->Prop) (F':Files) (c':Nat) (rs:List (Nat×List Rc)),aV w' D' b room F' c'∧fU w' T' bs b tp rs.length∧(w'.ownsRow 0 9 1 v rs.length (strs (rs.map fun p=>rn tp p.1))∧∀k,v.ownBlock=some k->X' k)∧qY (nf tp) F F' rs∧
  ((∀k,T' k->¬D' k)∧∀k,X' k->¬D' k∧¬T' k)∧(Keeps (fun k=>D k∨T k∨R k) w w'∧(∀k,D' k->D k∨T k∨w.heap.size<=k)∧(∀k,T' k->D k∨T k∨w.heap.size<=k)∧∀k,X' k->w.heap.size<=k)∧
  rs.map (·.1)=eS 1 rs.length∧(∀p∈rs,p.2≠[])∧(rs.flatMap (·.2)).Perm l
theorem nY.last{R:Nat->Prop}{s:ByteArray}(h:nY w wr D T R bs b br b3 b9 b6 room tp s F tk [] rs lr ld):
 ∃A6 Bj,wr.cell? ⟨b6,0,none⟩=some (.slice A6 rs.length Bj)∧wr.frozen? ⟨b6,0,none⟩=false∧Zr w (wr.setCell ⟨b6,0,none⟩ (.slice A6 rs.length Bj)) D T R bs b room tp F tk (.slice A6 rs.length Bj):=by
 obtain⟨⟨D',T',X',R',F',c',⟨hD,hS,⟨⟨s3,x3⟩,⟨v9,r9⟩,⟨v6,n6⟩,wL⟩,hR⟩,hI,⟨z1,z2,z3⟩,hk,f1,f2,f3,f4⟩,hkeys,hfull,hperm,hld⟩:=h;have hn6:=n6;rw[bt]at hn6;obtain⟨A6,Bj,rfl⟩:=aW hn6.own;have UY:Keeps X' wr (wr.setCell ⟨b6,0,none⟩ (.slice A6 rs.length Bj)):=(Keeps.refl _ wr).setCell (a:=⟨b6,0,none⟩) (.inl n6.xb) _;have q6:(cM A6 rs.length Bj).ownBlock≠some b6:=fun e=>n6.st.own_ne n6.own (by decide) _ e rfl
 refine⟨A6,Bj,n6.st.cell 0 rfl,n6.st.frozen 0,D',T',X',F',c',rs,hD.keep UY fun k h hx=>(z2 k hx).1 h,hS.keep UY fun k h hx=>(z2 k hx).2 h,⟨b_ (p:=⟨b6,0,none⟩) hn6.own (fun e=>q6 e.symm) _,hn6.xo⟩,hI,⟨z1,z2⟩,⟨hk.trans UY fun k h=>.inr (f3 k h),f1,f2,f3⟩,hkeys,hfull,by simpa using hperm⟩
theorem nY.start{R:Nat->Prop}{s:ByteArray}{l:List Rc}(hD:aV w D b room F c)(hS:fU w T bs b tp 0)(iI:∀k,T k->¬D k)(hR:Reader w R br b s l false)(QE:∀k,R k->¬D k∧¬T k):
 nY w (((w.alloc (.cells #[.pointer (some ⟨bs,0,none⟩)] 302 (0,0))).alloc (.cells #[.slice none 0 0] 86 (0,0))).alloc (.cells #[.slice none 0 0] 279 (0,0))) D T R bs b br w.heap.size (w.heap.size+1+1) (w.heap.size+1) room tp s F [] [] [] l false:=by
 generalize hW:((w.alloc (.cells #[.pointer (some ⟨bs,0,none⟩)] 302 (0,0))).alloc (.cells #[.slice none 0 0] 86 (0,0))).alloc (.cells #[.slice none 0 0] 279 (0,0))=W;have s3:St W w.heap.size 302 [.pointer (some ⟨bs,0,none⟩)]:=by rw[<-hW];exact((St.new w 302 #[.pointer (some ⟨bs,0,none⟩)]).alloc _).alloc _
 have s6:St W (w.heap.size+1) 86 [.slice none 0 0]:=by
  have:=(St.new (w.alloc (.cells #[.pointer (some ⟨bs,0,none⟩)] 302 (0,0))) 86 #[.slice none 0 0]).alloc (.cells #[.slice none 0 0] 279 (0,0));rw[hW]at this;simpa using this
 have s9:St W (w.heap.size+1+1) 279 [.slice none 0 0]:=by
  have:=St.new ((w.alloc (.cells #[.pointer (some ⟨bs,0,none⟩)] 302 (0,0))).alloc (.cells #[.slice none 0 0] 86 (0,0))) 279 #[.slice none 0 0];rw[hW]at this;simpa using this
 have k0:Keeps (fun _=>False) w W:=by rw[<-hW];exact(((Keeps.refl _ w).alloc _).alloc _).alloc _
 have hsz:W.heap.size=w.heap.size+3:=by rw[<-hW];simp
 have iy:=hS.lt;have hRl:=hR.lt;refine⟨⟨D,T,fun k=>w.heap.size<=k∧k<w.heap.size+3,R,F,c,⟨hD.keep k0 fun _ _=>id,hS.keep k0 fun _ _=>id,⟨⟨s3,by omega,by omega⟩,⟨_,s9,bz _ _ 283 2,⟨by omega,by omega⟩,fun k e=>(by cases e)⟩,⟨_,s6,bz _ _ 9 1,⟨by omega,by omega⟩,fun k e=>(by cases e)⟩,fun k h=>by omega⟩,hR.keep k0 fun _ _=>id⟩,qY.nil _ _,
  ⟨iI,fun k h=>⟨fun hh=>by have:=hD.lt hh;omega,fun hh=>by have:=iy k hh;omega⟩,fun k h=>⟨(QE k h).1,(QE k h).2,fun hh=>by have:=hRl k h;omega⟩⟩,k0.mono fun _ _ h=>h.elim,fun k h=>.inl h,fun k h=>.inr (.inl h),fun k h=>h.1,fun k h=>.inl h⟩,rfl,fun p h=>(by cases h),cG _,fun _=>rfl⟩
variable {P:Program}{fn:Func}{ty:dy}
theorem wo{p u v:Tmp}(h:fn.results= #[.cell p ty,.tmp u,.tmp v])(tmps:Array ar)(w:af)(g:Nat)(x:ar)(e:dy)(hp:tmps.getD p undef=.pointer (some ⟨g,0,none⟩))(hg:w.cell? ⟨g,0,none⟩=some x)(hu:P.underlying ty=some (.slice e)):
 (results fn tmps).run P w=.ok (.tuple #[x,tmps.getD u undef,tmps.getD v undef]) w:=by
 have hp':tmps[p]?.getD undef=.pointer (some ⟨g,0,none⟩):=by simpa using hp
 have hagg:(isAgg ty).run P w=.ok false w:=by
  unfold isAgg;rw[cD,run_underlying hu w];simp
 have hl:(loadVar ty ⟨g,0,none⟩).run P w=.ok x w:=by
  simp[loadVar,cD,hagg,hg]
 simp[results,h,hp',asAddr,hl]
theorem wu{u:ar}(h:w.cell? a=some u):(w.setCell a v).cell? a=some v:=World.cell?_setCell_same _ _ _ h
theorem ac3{R:Nat->Prop}{bF:Nat}{s:ByteArray}{l:List Rc}(hD:aV w D b room F c)(hS:fU w T bs b tp 0)(iI:∀k,T k->¬D k)(hR:Reader w R br b s l false)(QE:∀k,R k->¬D k∧¬T k)(hN:iY tp F)(hs:s.size<=maxLen)(hx:F (nm s)=some (fileOf l))(hn:l.length=n)(hl2:l.length<=49)(hw:∀r∈l,Wf r)(hb:1<=bF)(hroom:c+3*n<=room)(hc:c+3*n<100000):
 bb ae 235 #[.pointer (some ⟨bs,0,none⟩),.pointer (some ⟨br,0,none⟩),.int .i64 (bF:Nat)] w fun e w'=>∃v,e=.returned (.tuple #[v,.int .i64 (n:Nat),.int .i64 0])∧Zr w w' D T R bs b room tp F l v:=by
 have h0:=nY.start (s:=s) hD hS iI hR QE;have HW:=Y5 hN hx hw hD.cost hn;have H0:=Y1 h0;clear hD hS iI hR QE hN hx hw h0 hn;generalize hb3:w.heap.size=b3 at*;go_enter func235,ntmps235
 go_wp2_with fail
 go_loopg [7] n (fun kq v7 wr=>∃k:Nat,kq+k=n∧v7=.int .i64 (k:Nat)∧aG (∃cur rs ld,nY w wr D T R bs b br b3 (b3+1+1) (b3+1) room tp s F (l.take k) cur rs (l.drop k) ld∧(ld=false->k=0)))
 case atStart=>exact⟨0,by omega,rfl,⟨[],[],false,H0.out,fun _=>rfl⟩⟩
 case round=>
  obtain⟨k,hk,rfl,hA⟩:=hrel;obtain⟨hN,hx,hw,nM,hn⟩:=HW.out;obtain⟨cur,rs,ld,hC,hld⟩:=hA.out;have htl:(l.take k).length<=k:=List.length_take_le _ _;have htk:cur.length<=k:=by have:=hC.perm.length_eq;rw[ab]at this;omega
  have ahS:n<=49:=by omega
  by_cases hlt:k<n
  .have hlt':(k:Int)<n:=by omega
   obtain⟨r,hr⟩:∃r,l[k]? =some r:=⟨_,al (by omega)⟩
   have hdr:l.drop k=r::l.drop (k+1):=by rw[cJ (by omega)];rw[al (by omega)]at hr;injection hr with hr;rw[hr]
   have hwr:=hw r (cm hr);have hNx:=(hdr▸hC).next hs (fun e=>by have:=hld e;subst this;rw[hx,<-hdr];rfl) (by rw[<-hdr,List.length_drop];omega) hwr;have HT:=Y1 (show l.take k++[r]=l.take (k+1) by rw[du,hr];rfl);clear hC hr hdr hwr hN hx hw nM hn htl hld hA
   go_wp2_with fail
   refine hNx.mono ?_;clear hNx;rintro e w2 ⟨rfl,hC2⟩;obtain⟨W3,hW3⟩:=ex (w2.alloc (.cells #[.int .u64 r.1,.int .u64 r.2] 283 (0,0)))
   have wX:=hC2.below (w':=W3) (by rw[hW3];exact(cH _ w2).alloc (cN _) _);clear hC2;obtain⟨A9,QC,a',cp',w4,c9,hrun,f9,⟨u9,e9⟩,Xq⟩:=wX.app r (by omega);have ac4:=Y1 Xq;rw[hW3]at c9 hrun;clear wX Xq hW3
   go_wp2_with (at_builtin;refine dh rfl _ _ 279 279 rfl (by simp[df]) (by simp[df]) hrun ?_;clear hrun)
   .have hfl:=ac4.out.flush HW.out.1 HW.out.2.2.2.1 (by simp) rfl (by rw[HT.out,cU];omega) (by rw[HT.out,cU];omega) (by rw[HT.out,cU];omega);refine hfl.mono ?_;clear hfl;rintro e w5 ⟨rfl,rs5,LV⟩;rw[HT.out]at LV;have Nk:=Y1 (show ∃cur rs ld,nY w w5 D T R bs b br b3 (b3+1+1) (b3+1) room tp s F (l.take (k+1)) cur rs (l.drop (k+1)) ld∧(ld=false->k+1=0)from⟨[],rs5,true,LV,fun e=>(by cases e)⟩);clear LV;obtain⟨k1,hk1⟩:∃k1,k1+(k+1)=n:=⟨n-(k+1),by omega⟩
    go_wp2_with fail
    go_roundg k1
    case measure=>omega
    case rel=>exact⟨k+1,by omega,by simp,Nk⟩
   .obtain⟨k1,hk1⟩:∃k1,k1+(k+1)=n:=⟨n-(k+1),by omega⟩
    go_roundg k1
    case measure=>omega
    case rel=>exact⟨k+1,by omega,by simp,⟨cur++[r],rs,true,by rw[<-HT.out];exact ac4.out,fun e=>(by cases e)⟩⟩
  .have hkn:k=n:=by omega
   subst hkn;have hnx:bb ae 253 #[.pointer (some ⟨br,0,none⟩)] wr fun e w'=>e=.returned (.tuple #[.agg #[.int .u64 0,.int .u64 0],.bool false,.int .i64 0])∧Below wr.heap.size wr w':=by
    obtain⟨⟨D',T',X',R',F',c',⟨hD,hS,hB,hR⟩,_⟩,_⟩:=hC;rw[cY (by omega)]at hR;exact t_ hR
   have ac5:ld=false->cur=[]:=fun e=>by have:=hld e;subst this;exact List.eq_nil_of_length_eq_zero (by omega)
   rw[az (by omega)]at hC;have HC:=Y2 hC ac5;clear hC hN hx hw nM hn htl hld hA ac5
   go_wp2_with fail
   refine hnx.mono ?_;clear hnx;rintro e w2 ⟨rfl,hb2⟩;obtain⟨W3,hW3⟩:=ex (w2.alloc (.cells #[.int .u64 0,.int .u64 0] 283 (0,0)))
   have wX:=HC.out.1.below (w':=W3) (by rw[hW3];exact hb2.alloc hb2.size _);obtain⟨A9,QC,c9⟩:=wX.Zq;by_cases hcur:cur=[]
   .subst hcur;obtain⟨A6,Bj,c6,f6,hE⟩:=wX.last;have H3:=Y1 hE;rw[hW3]at c6 f6 c9 H3;have z0:((0:Int)==(bF:Int))=false:=by rw[beq_eq_false_iff_ne];omega
    have z1:¬((0:Int)=(bF:Int)):=by omega
    rw[dT]at c9;clear wX hb2 hE HC hW3
    go_wp2_with fail
    exact bodyPost_ret (wo rfl _ _ _ _ 9 rfl (wu c6) rfl) rfl ⟨_,rfl,H3.out⟩
   .have hpos:=cy.2 hcur;have ac6:ld=true:=by
     cases ld with
     |true=>rfl
     |false=>exact(hcur (HC.out.2 rfl)).elim
    have hfl:=wX.flush HW.out.1 HW.out.2.2.2.1 hcur ac6 (by omega) (by rw[HW.out.2.2.2.2];omega) (by rw[HW.out.2.2.2.2];omega);rw[hW3]at c9 hfl;clear wX hb2 HC hcur ac6 hW3;have hpos':(0:Int)<cur.length:=by omega
    go_wp2_with fail
    all_goals
     refine hfl.mono ?_;clear hfl;rintro e w5 ⟨rfl,rs5,LV⟩;obtain⟨A6,Bj,c6,f6,hE⟩:=LV.last;have H5:=Y1 hE;clear LV hE
     go_wp2_with fail
     exact bodyPost_ret (wo rfl _ _ _ _ 9 rfl (wu c6) rfl) rfl ⟨_,rfl,H5.out⟩
noncomputable def dR(lab:Nat->Nat)(i:Nat)(S:Nat->Prop):Nat->Nat:=fun k=>
 haveI:=Classical.propDecidable (S k)
 if S k then i else if lab k=i then 0 else lab k
theorem fC{lab:Nat->Nat}{S:Nat->Prop}(hi:i≠0):(fun k=>dR lab i S k=i)=S:=by
 funext k
 unfold dR;by_cases h:S k
 .simp[h]
 .by_cases h2:lab k=i
  .simp[h,h2,dg hi]
  .simp[h,h2]
theorem eY{lab:Nat->Nat}{S:Nat->Prop}(hS:∀k,S k->lab k=i∨lab k=0)(hj:j≠0)(hji:j≠i):(fun k=>dR lab i S k=j)=fun k=>lab k=j:=by
 funext k
 unfold dR;by_cases h:S k
 .rcases hS k h with e|e
  .simp[h,e,dg hji]
  .simp[h,e,dg hji,dg hj]
 .by_cases h2:lab k=i
  .simp[h,h2,dg hj,dg hji]
  .simp[h,h2]
theorem dU{lab:Nat->Nat}{S:Nat->Prop}(h:dR lab i S k≠0):(S k∧dR lab i S k=i)∨(lab k≠0∧dR lab i S k=lab k):=by
 unfold dR at*;by_cases h1:S k
 .left;simp[h1]
 .by_cases h2:lab k=i
  .simp[h1,h2]at h
  .right;simp[h1,h2]at h⊢;exact h
abbrev Ptr:Nat->ar:=fun n=>ew (some ⟨n,0,none⟩)
def cont(qs:List Hd)(rest:Nat->List Rc):List Rc:=qs.flatMap fun x=>x.1::rest x.2
variable {qs yR:List Hd}
theorem Bl(h:qs.Perm yR)(rest:Nat->List Rc):(cont qs rest).Perm (cont yR rest):=List.Perm.flatMap_right _ h
variable {rest:Nat->List Rc}
theorem Ir{rest':Nat->List Rc}(h:∀x∈qs,rest x.2=rest' x.2):cont qs rest=cont qs rest':=by
 unfold cont;rw[dC,dC,List.map_congr_left fun x hx=>by rw[h x hx]]
theorem EZ(qs:List Hd)(rest:Nat->List Rc):qs.length<=(cont qs rest).length:=by
 induction qs with
 |nil=>simp
 |cons x qs ih=>
  simp only[cont,dr,ab,ax]at*;omega
structure MS (w wr:af) (D:Nat->Prop) (b bh room c:Nat) (F:Files) (lab:Nat->Nat) (qs:List Hd) (rest:Nat->List Rc):Prop where
 disk:aV wr (fun k=>lab k=1) b room F c
 heap:iK 366 363 Ptr wr (fun k=>lab k=3) bh qs
 hp:HP slt hd0 qs
 mR:(qs.map (·.2)).Nodup
 rd:∀x∈qs,∃s,Reader wr (fun k=>lab k=x.2+4) x.2 b s (rest x.2) true∧s.size<=maxLen
 wf:∀r∈cont qs rest,Wf r
 bd:∀k,lab k≠0->k<wr.heap.size
 keep:Keeps D w wr
 Bo:∀k,lab k=1->D k∨w.heap.size<=k
 fr:∀k,lab k≠0->lab k≠1->w.heap.size<=k
theorem MS.below{lab:Nat->Nat}(h:MS w wr D b bh room c F lab qs rest)(hb:Below wr.heap.size wr w'):MS w w' D b bh room c F lab qs rest:=by
 have k0:Keeps (fun _=>False) wr w':=Keeps.of_below hb;exact⟨h.disk.keep k0 fun _ _=>id,h.heap.keep k0 fun _ _=>id,h.hp,h.mR,fun x hx=>by obtain⟨s,h1,h2⟩:=h.rd x hx;exact⟨s,h1.keep k0 fun _ _=>id,h2⟩,h.wf,fun k hk=>aa (h.bd k hk) k0.size,h.keep.trans k0 fun _ h=>h.elim,h.Bo,h.fr⟩
theorem MS.next{R':Nat->Prop}{lab:Nat->Nat}(h:MS w wr D b bh room c F lab qs rest)(hbr:br∉qs.map (·.2))(hD:aV w' (fun k=>lab k=1) b room F c)(hst:Stp (jC (fun k=>lab k=1) (fun k=>lab k=br+4)) (jC (fun k=>lab k=1) R') wr w')(af5:∀k,R' k->k<w'.heap.size)(hR':∀k,R' k->¬lab k=1):
 MS w w' D b bh room c F (dR lab (br+4) R') qs rest∧(fun k=>dR lab (br+4) R' k=br+4)=R'∧∀j,j≠0->j≠br+4->(fun k=>dR lab (br+4) R' k=j)=fun k=>lab k=j:=by
 have hS:∀k,R' k->lab k=br+4∨lab k=0:=fun k hk=>(hst.2 k (.inr hk)).elim (fun h2=>h2.elim (fun h2=>(hR' k hk h2).elim) .inl) fun h2=>.inr (ai fun h3=>by have:=h.bd k h3;omega)
 have e0:=fC (lab:=lab) (i:=br+4) (S:=R') (by omega);have ej:=fun j (h1:j≠0) (h2:j≠br+4)=>eY (lab:=lab) hS h1 h2
 have hsz:=h.keep.size;refine⟨⟨?_,?_,h.hp,h.mR,fun x hx=>?_,h.wf,fun k hk=>?_,h.keep.trans hst.1 fun k hk=>?_,fun k hk=>?_,fun k h1 h2=>?_⟩,e0,ej⟩
 .rw[ej 1 (by omega) (by omega)];exact hD
 .rw[ej 3 (by omega) (by omega)];exact h.heap.keep hst.1 fun k hk hh=>by rcases hh with hh|hh<;>omega
 .have hne:x.2≠br:=fun e=>hbr (c_.2 ⟨x,hx,e⟩)
  obtain⟨s,h1,h2⟩:=h.rd x hx;refine⟨s,?_,h2⟩;rw[ej (x.2+4) (by omega) (by omega)];exact h1.keep hst.1 fun k hk hh=>by rcases hh with hh|hh<;>omega
 .rcases dU hk with⟨h1,_⟩|⟨h1,_⟩
  .exact af5 k h1
  .exact aa (h.bd k h1) hst.1.size
 .rcases hk with hk|hk
  .exact h.Bo k hk
  .exact .inr (h.fr k (by omega) (by omega))
 .have:=congrFun (ej 1 (by omega) (by omega)) k;exact h.Bo k (this.mp hk)
 .rcases dU h1 with⟨h3,_⟩|⟨h3,h4⟩
  .rcases hst.2 k (.inr h3)with h5|h5
   .rcases h5 with h5|h5
    .exact(hR' k h3 h5).elim
    .exact h.fr k (by omega) (by omega)
   .omega
  .exact h.fr k h3 (by rw[<-h4];exact h2)
theorem MS.push{H':Nat->Prop}{lab:Nat->Nat}{s:ByteArray}(h:MS w wr D b bh room c F lab qs rest)(hbr:br∉qs.map (·.2))(hR:Reader wr (fun k=>lab k=br+4) br b s lr true)(hs:s.size<=maxLen)(hwf:∀x∈r::lr,Wf x)(hH:iK 366 363 Ptr w' H' bh yR)(hp:HP slt hd0 yR)(hq:yR.Perm ((r,br)::qs))(hst:Stp (fun k=>lab k=3) H' wr w'):
 MS w w' D b bh room c F (dR lab 3 H') yR (fun n=>if n=br then lr else rest n)∧(fun k=>dR lab 3 H' k=3)=H'∧(∀j,j≠0->j≠3->(fun k=>dR lab 3 H' k=j)=fun k=>lab k=j)∧(cont yR (fun n=>if n=br then lr else rest n)).Perm (r::lr++cont qs rest):=by
 have hS:∀k,H' k->lab k=3∨lab k=0:=fun k hk=>(hst.2 k hk).elim .inl fun h2=>.inr (ai fun h3=>by have:=h.bd k h3;omega)
 have e0:=fC (lab:=lab) (i:=3) (S:=H') (by omega);have ej:=fun j (h1:j≠0) (h2:j≠3)=>eY (lab:=lab) hS h1 h2
 have hsz:=h.keep.size;have af6:∀k,H' k->k<w'.heap.size:=by obtain⟨_,_,_,_,_,q⟩:=hH;exact q
 have hc:(cont yR (fun n=>if n=br then lr else rest n)).Perm (r::lr++cont qs rest):=by
  refine(Bl hq _).trans ?_;have e:cont ((r,br)::qs) (fun n=>if n=br then lr else rest n)=r::lr++cont qs (fun n=>if n=br then lr else rest n):=by simp[cont]
  rw[e,Ir (qs:=qs) (rest':=rest) fun x hx=>if_neg fun e=>hbr (c_.2 ⟨x,hx,e⟩)]
 refine⟨⟨?_,?_,hp,?_,fun x hx=>?_,fun x hx=>?_,fun k hk=>?_,h.keep.trans hst.1 fun k hk=>.inr (h.fr k (by omega) (by omega)),fun k hk=>?_,fun k h1 h2=>?_⟩,e0,ej,hc⟩
 .rw[ej 1 (by omega) (by omega)];exact h.disk.keep hst.1 fun k hk hh=>by omega
 .rw[e0];exact hH
 .exact(hq.map (·.2)).nodup_iff.2 (a_.2 ⟨hbr,h.mR⟩)
 .rcases ey.1 (hq.subset hx)with rfl|hx
  .refine⟨s,?_,hs⟩;rw[ej (br+4) (by omega) (by omega)];simp only[if_true];exact hR.keep hst.1 fun k hk hh=>by omega
  .have hne:x.2≠br:=fun e=>hbr (c_.2 ⟨x,hx,e⟩)
   obtain⟨s,h1,h2⟩:=h.rd x hx;refine⟨s,?_,h2⟩;rw[ej (x.2+4) (by omega) (by omega),if_neg hne];exact h1.keep hst.1 fun k hk hh=>by omega
 .rcases cx.1 (hc.subset hx)with hx|hx
  .exact hwf x hx
  .exact h.wf x hx
 .rcases dU hk with⟨h1,_⟩|⟨h1,_⟩
  .exact af6 k h1
  .exact aa (h.bd k h1) hst.1.size
 .have:=congrFun (ej 1 (by omega) (by omega)) k;exact h.Bo k (this.mp hk)
 .rcases dU h1 with⟨h3,_⟩|⟨h3,h4⟩
  .rcases hst.2 k h3 with h5|h5
   .exact h.fr k (by omega) (by omega)
   .omega
  .exact h.fr k h3 (by rw[<-h4];exact h2)
theorem iL{lab:Nat->Nat}{S:Nat->Prop}(h:lab k=0)(hS:¬S k):dR lab i S k=0:=by
 unfold dR;simp[h,hS]
def ac7(w wr w':af)(D:Nat->Prop)(b bh room c:Nat)(F:Files)(lab:Nat->Nat)(qs:List Hd)(rest:Nat->List Rc)(br:Nat)(l:List Rc):Prop:=
 ∃lab' yR rest',MS w w' D b bh room c F lab' yR rest'∧(cont yR rest').Perm (l++cont qs rest)∧((fun k=>lab' k=2)=fun k=>lab k=2)∧Keeps (fun k=>lab k=1∨lab k=3∨lab k=br+4) wr w'∧∀k,k<wr.heap.size->lab k=0->lab' k=0
theorem QF{lab:Nat->Nat}{l:List Rc}{s:ByteArray}(h:MS w wr D b bh room c F lab qs rest)(hbr:br∉qs.map (·.2))(hR:Reader wr (fun k=>lab k=br+4) br b s l ld)(hs:s.size<=maxLen)(hx:ld=false->F (nm s)=some (fileOf l))(hwf:∀x∈l,Wf x)(hl2:l.length<=49)(SB:qs.length<1000):
 bb ae 255 #[.pointer (some ⟨br,0,none⟩),.pointer (some ⟨bh,0,none⟩)] wr fun e w'=>e=.returned (.int .i64 0)∧ac7 w wr w' D b bh room c F lab qs rest br l:=by
 cases l with
 |nil=>
  have hnx:=t_ hR;have HM:=Y1 h;clear h hbr hR hx hwf;go_enter eK,ez
  go_wp2_with fail
  refine hnx.mono ?_;clear hnx;rintro e w2 ⟨rfl,hb⟩;have HB:=Y1 hb;clear hb
  go_wp2_with fail
  have hb3:Below wr.heap.size wr (w2.alloc (.cells #[.int .u64 0,.int .u64 0] 283 (0,0))):=HB.out.alloc HB.out.size _;go_ret;exact⟨rfl,lab,qs,rest,HM.out.below hb3,cG _,rfl,Keeps.of_below hb3,fun _ _ h=>h⟩
 |cons r l=>
  have hwr:=hwf r (by simp);have hnx:=vg h.disk hR (fun k hk hh=>by omega) hs hx hl2 hwr;have HM:=Y3 h hbr hwf;clear h hbr hR hx hwf hwr;go_enter eK,ez
  go_wp2_with fail
  refine hnx.mono ?_;clear hnx;rintro e w2 ⟨rfl,R2,hD2,hR2,hst,QE⟩;obtain⟨h,hbr,hwf⟩:=HM.out;obtain⟨n1,n2,n3⟩:=h.next hbr hD2 hst hR2.lt QE;have hz:∀k,k<wr.heap.size->lab k=0->dR lab (br+4) R2 k=0:=fun k hk h0=>iL h0 fun hh=>(hst.2 k (.inr hh)).elim (fun hh=>by rcases hh with hh|hh<;>omega) fun hh=>by omega
  have LK:Reader w2 (fun k=>dR lab (br+4) R2 k=br+4) br b s l true:=by rw[n2];exact hR2
  generalize dR lab (br+4) R2=Da at n1 n2 n3 LK hz;obtain⟨W3,hW3⟩:=ex (w2.alloc (.cells #[.int .u64 r.1,.int .u64 r.2] 283 (0,0)))
  have hb3:Below w2.heap.size w2 W3:=by rw[hW3];exact(cH _ w2).alloc (cN _) _
  have m3:=n1.below hb3;have r3:=LK.keep (Keeps.of_below (S:=fun _=>False) hb3) fun _ _=>id
  have Iu:=acO m3.heap m3.hp SB (r,br);have HM2:=Y7 m3 r3 hst n2 n3 hb3 hz;rw[hW3]at Iu;clear h hbr hwf n1 n2 n3 LK hb3 hz m3 r3 hD2 hR2 hst QE
  go_wp2_with fail
  refine Iu.mono ?_;clear Iu;rintro e w4 ⟨rfl,H',yR,hH,hp,hq,d_⟩;have H4:=Y4 hH hp hq d_;clear hH hp hq d_
  go_wp2_with fail
  obtain⟨h,hbr,hwf⟩:=HM.out;obtain⟨m3,r3,hst,n2,n3,hb3,hz⟩:=HM2.out;obtain⟨hH,hp,hq,d_⟩:=H4.out;rw[<-hW3]at d_;obtain⟨p1,p2,p3,p4⟩:=m3.push hbr r3 hs hwf hH hp hq d_;go_ret;refine⟨rfl,_,_,_,p1,p4,(p3 2 (by omega) (by omega)).trans (n3 2 (by omega) (by omega)),?_,fun k hk h0=>iL (hz k hk h0) fun hh=>(d_.2 k hh).elim (fun hh=>by have:=hz k hk h0;omega) fun hh=>by have:=hst.1.size;have:=hb3.size;omega⟩;refine((hst.1.mono (S':=fun k=>lab k=1∨lab k=3∨lab k=br+4) fun k _ hh=>hh.elim .inl fun hh=>.inr (.inr hh)).below hb3).trans d_.1 fun k hk=>?_
  exact .inl (.inr (.inl ((congrFun (n3 3 (by omega) (by omega)) k).mp hk)))
def Np(wr:af)(b:Nat)(lab:Nat->Nat)(qs:List Hd)(is:Bool)(r:Rc)(p:ar)(cur:List Rc):Prop:=
 (is=false∧cur=[]∧qs=[])∨(is=true∧∃br s lr,p=Ptr br∧cur=r::lr∧br∉qs.map (·.2)∧Reader wr (fun k=>lab k=br+4) br b s lr true∧s.size<=maxLen∧∀x∈lr,Wf x)
theorem Np.keep{wr w':af}{S:Nat->Prop}{b:Nat}{lab:Nat->Nat}{qs:List Hd}{is:Bool}{r:Rc}{p:ar}{cur:List Rc}(h:Np wr b lab qs is r p cur)(hk:Keeps S wr w')(hS:∀k,4<=lab k->¬S k):Np w' b lab qs is r p cur:=by
 rcases h with h|⟨h,br,s,lr,h1,h2,h3,h4,h5⟩
 .exact .inl h
 .exact .inr ⟨h,br,s,lr,h1,h2,h3,h4.keep hk fun k hk=>hS k (by omega),h5⟩
variable {lab' Db:Nat->Nat}
theorem Np.lab{lab:Nat->Nat}(h:Np wr b lab qs is r p cur)(hl:∀j,4<=j->(fun k=>lab' k=j)=fun k=>lab k=j):Np wr b lab' qs is r p cur:=by
 rcases h with h|⟨h,br,s,lr,h1,h2,h3,h4,h5⟩
 .exact .inl h
 .exact .inr ⟨h,br,s,lr,h1,h2,h3,by rw[hl (br+4) (by omega)];exact h4,h5⟩
def af7(w wr w':af)(D:Nat->Prop)(b bh room c:Nat)(F:Files)(lab:Nat->Nat)(qs:List Hd)(rest:Nat->List Rc)(is:Bool)(r:Rc)(p:ar):Prop:=
 ∃yR cur,MS w w' D b bh room c F lab yR rest∧Np w' b lab yR is r p cur∧(cur++cont yR rest).Perm (cont qs rest)∧Keeps (fun k=>lab k=3) wr w'
theorem Xr{lab:Nat->Nat}(h:MS w wr D b bh room c F lab qs rest)(SB:qs.length<1000):
 bb ae 257 #[.pointer (some ⟨bh,0,none⟩)] wr fun e w'=>∃(is:Bool) (r:Rc) (p:Option Addr),e=.returned (.tuple #[.agg #[.int .u64 r.1,.int .u64 r.2,.pointer p],.bool is])∧af7 w wr w' D b bh room c F lab qs rest is r (.pointer p):=by
 cases qs with
 |nil=>
  refine(acT h.heap).mono ?_;rintro e w' ⟨rfl,hb⟩;exact⟨false,(0,0),none,rfl,[],[],h.below hb,.inl ⟨rfl,rfl,rfl⟩,cG _,Keeps.of_below hb⟩
 |cons q qs=>
  refine(afW h.heap h.hp (by simp) SB).mono ?_;rintro e w' ⟨rfl,l',hH,hp,hq,hst⟩;have hq:(q::l').Perm (q::qs):=hq;have hk:=hst.1;have hnd:(q.2::l'.map (·.2)).Nodup:=show((q::l').map (·.2)).Nodup from(hq.map (·.2)).nodup_iff.2 h.mR
  have hc:(q.1::rest q.2++cont l' rest).Perm (cont (q::qs) rest):=Bl hq rest;obtain⟨s,h1,h2⟩:=h.rd q (by simp);refine⟨true,q.1,some ⟨q.2,0,none⟩,rfl,l',q.1::rest q.2,⟨h.disk.keep hk fun k hk hh=>by omega,hH,hp,(a_.1 hnd).2,fun x hx=>?_,fun x hx=>h.wf x (hc.subset (List.mem_append_right _ hx)),fun k hk'=>aa (h.bd k hk') hk.size,h.keep.trans hk fun k hk=>.inr (h.fr k (by omega) (by omega)),h.Bo,h.fr⟩,
   .inr ⟨rfl,q.2,s,rest q.2,rfl,rfl,(a_.1 hnd).1,h1.keep hk fun k hk hh=>by omega,h2,fun x hx=>h.wf x (hc.subset (by simp[hx]))⟩,hc,hk⟩
  obtain⟨s,h1,h2⟩:=h.rd x (hq.subset (List.mem_cons_of_mem _ hx));exact⟨s,h1.keep hk fun k hk hh=>by omega,h2⟩
theorem MS.wrote{lab:Nat->Nat}(h:MS w wr D b bh room c F lab qs rest)(hst:Stp (fun k=>lab k=2) T' wr w')(iy:∀k,T' k->k<w'.heap.size):
 MS w w' D b bh room c F (dR lab 2 T') qs rest∧(fun k=>dR lab 2 T' k=2)=T'∧∀j,j≠0->j≠2->(fun k=>dR lab 2 T' k=j)=fun k=>lab k=j:=by
 have hS:∀k,T' k->lab k=2∨lab k=0:=fun k hk=>(hst.2 k hk).elim .inl fun h2=>.inr (ai fun h3=>by have:=h.bd k h3;omega)
 have e0:=fC (lab:=lab) (i:=2) (S:=T') (by omega);have ej:=fun j (h1:j≠0) (h2:j≠2)=>eY (lab:=lab) hS h1 h2
 have hsz:=h.keep.size;refine⟨⟨?_,?_,h.hp,h.mR,fun x hx=>?_,h.wf,fun k hk=>?_,h.keep.trans hst.1 fun k hk=>.inr (h.fr k (by omega) (by omega)),fun k hk=>?_,fun k h1 h2=>?_⟩,e0,ej⟩
 .rw[ej 1 (by omega) (by omega)];exact h.disk.keep hst.1 fun k hk hh=>by omega
 .rw[ej 3 (by omega) (by omega)];exact h.heap.keep hst.1 fun k hk hh=>by omega
 .obtain⟨s,h1,h2⟩:=h.rd x hx;refine⟨s,?_,h2⟩;rw[ej (x.2+4) (by omega) (by omega)];exact h1.keep hst.1 fun k hk hh=>by omega
 .rcases dU hk with⟨h1,_⟩|⟨h1,_⟩
  .exact iy k h1
  .exact aa (h.bd k h1) hst.1.size
 .have:=congrFun (ej 1 (by omega) (by omega)) k;exact h.Bo k (this.mp hk)
 .rcases dU h1 with⟨h3,_⟩|⟨h3,h4⟩
  .rcases hst.2 k h3 with h5|h5
   .exact h.fr k (by omega) (by omega)
   .omega
  .exact h.fr k h3 (by rw[<-h4];exact h2)
def BoxM(w wr:af)(lab:Nat->Nat)(g:Nat)(r:Rc)(p:ar):Prop:=St wr g 366 [.int .u64 r.1,.int .u64 r.2,p]∧lab g=0∧w.heap.size<=g
theorem BoxM.keep{w wr w':af}{S:Nat->Prop}{lab:Nat->Nat}{g:Nat}{r:Rc}{p:ar}(h:BoxM w wr lab g r p)(hk:Keeps S wr w')(hS:∀k,lab k=0->¬S k):BoxM w w' lab g r p:=⟨h.1.keep hk (hS _ h.2.1),h.2⟩
theorem Np.rP{S:Nat->Prop}{lab:Nat->Nat}(h:Np wr b lab qs is r p cur)(_h0:Np wr b Db qs is r p cur)(hk:Keeps S wr w')(hl:∀j,4<=j->(fun k=>lab k=j)=fun k=>Db k=j)(hS:∀k,4<=Db k->¬S k):Np w' b lab qs is r p cur:=
 h.keep hk fun k hk hh=>by
  have:=(congrFun (hl (lab k) hk) k).mp rfl;exact hS k (by omega) hh
theorem MS.box{lab:Nat->Nat}(h:MS w wr D b bh room c F lab qs rest)(hk:Keeps (fun k=>k=g) wr w')(hg:lab g=0)(hgw:w.heap.size<=g):MS w w' D b bh room c F lab qs rest:=
 ⟨h.disk.keep hk fun k h1 h2=>by subst h2;omega,h.heap.keep hk fun k h1 h2=>by subst h2;omega,h.hp,h.mR,fun x hx=>by obtain⟨s,h1,h2⟩:=h.rd x hx;exact⟨s,h1.keep hk fun k h1 h2=>by subst h2;omega,h2⟩,h.wf,fun k hk'=>aa (h.bd k hk') hk.size,h.keep.trans hk fun k hk=>.inr (by omega),h.Bo,h.fr⟩
def Nq(w wr:af)(lab:Nat->Nat)(bl:Option Nat)(b16:Nat)(l:List Rc):Prop:=
 match bl with
 |none=>l=[]
 |some g=>∃x q,l=[x]∧BoxM w wr lab g x q∧g≠b16
theorem Nq.keep{w wr w':af}{S:Nat->Prop}{lab:Nat->Nat}{bl:Option Nat}{b16:Nat}{l:List Rc}(h:Nq w wr lab bl b16 l)(hk:Keeps S wr w')(hS:∀k,lab k=0->¬S k):Nq w w' lab bl b16 l:=by
 cases bl with
 |none=>exact h
 |some g=>
  obtain⟨x,q,h1,h2,h3⟩:=h;exact⟨x,q,h1,h2.keep hk hS,h3⟩
theorem BoxM.lab{lab:Nat->Nat}(h:BoxM w wr lab g r p)(hl:∀k,k<wr.heap.size->lab k=0->lab' k=0):BoxM w wr lab' g r p:=⟨h.1,hl _ h.1.lt h.2.1,h.2.2⟩
theorem Nq.lab{w wr:af}{lab lab':Nat->Nat}{bl:Option Nat}{b16:Nat}{l:List Rc}(h:Nq w wr lab bl b16 l)(hl:∀k,k<wr.heap.size->lab k=0->lab' k=0):Nq w wr lab' bl b16 l:=by
 cases bl with
 |none=>exact h
 |some g=>
  obtain⟨x,q,h1,h2,h3⟩:=h;exact⟨x,q,h1,h2.lab hl,h3⟩
theorem BoxM.rP{S:Nat->Prop}{lab:Nat->Nat}(h:BoxM w wr lab g r p)(h0:BoxM w wr Db g r p)(hk:Keeps S wr w')(hS:∀k,Db k=0->¬S k):BoxM w w' lab g r p:=⟨h.1.keep hk (hS _ h0.2.1),h.2⟩
variable {bl:Option Nat}
theorem Nq.rP{S:Nat->Prop}{lab:Nat->Nat}{l:List Rc}(h:Nq w wr lab bl b16 l)(h0:Nq w wr Db bl b16 l)(hk:Keeps S wr w')(hS:∀k,Db k=0->¬S k):Nq w w' lab bl b16 l:=by
 cases bl with
 |none=>exact h
 |some g=>
  obtain⟨x,q,h1,h2,h3⟩:=h;obtain⟨x',q',h1',h2',h3'⟩:=h0;exact⟨x,q,h1,⟨h2.1.keep hk (hS _ h2'.2.1),h2.2⟩,h3⟩
def M2(w wr:af)(D:Nat->Prop)(b bh bw room c:Nat)(F:Files)(out:ByteArray)(all:List Rc)(b16:Nat)(bl:Option Nat)(is:Bool)(n:Nat):Prop:=
 ∃(lab:Nat->Nat) (qs:List Hd) (rest:Nat->List Rc) (ws cur FY:List Rc) (r:Rc) (p:ar),MS w wr D b bh room c F lab qs rest∧Writer wr (fun k=>lab k=2) bw b out ws∧Np wr b lab qs is r p cur∧BoxM w wr lab b16 r p∧
  Nq w wr lab bl b16 FY∧(ws++(FY++(cur++cont qs rest))).Perm all∧n=cur.length+(cont qs rest).length
def M3(w wr:af)(D:Nat->Prop)(b bh bw room c:Nat)(F:Files)(out:ByteArray)(all:List Rc)(b16:Nat)(bl:Option Nat)(r:Rc)(p:ar)(n:Nat):Prop:=
 ∃(lab:Nat->Nat) (qs:List Hd) (rest:Nat->List Rc) (ws FY:List Rc),MS w wr D b bh room c F lab qs rest∧Writer wr (fun k=>lab k=2) bw b out ws∧BoxM w wr lab b16 r p∧
  Nq w wr lab bl b16 FY∧(ws++(FY++(r::cont qs rest))).Perm all∧n=1+(cont qs rest).length
theorem sK(hl:(cont qs rest).length<=49):qs.length<1000:=by
 have:=EZ qs rest;omega
theorem M2.push{all:List Rc}(h:M2 w wr D b bh bw room c F out all b16 bl true n)(ha:all.length<=49):
 ∃r br,wr.cell? ⟨b16,2,none⟩=some (Ptr br)∧bb ae 255 #[.pointer (some ⟨br,0,none⟩),.pointer (some ⟨bh,0,none⟩)] wr fun e w'=>e=.returned (.int .i64 0)∧M3 w w' D b bh bw room c F out all b16 bl r (Ptr br) n:=by
 obtain⟨lab,qs,rest,ws,cur,FY,r,p,hM,hW,hC,hB,hL,hP,hn⟩:=h;rcases hC with⟨e,_⟩|⟨_,br,s,lr,rfl,rfl,h3,h4,h5,h6⟩
 .cases e
 have hlen:=hP.length_eq;simp only[ab,ax]at hlen hn;refine⟨r,br,hB.1.cell 2 rfl,(QF hM h3 h4 h5 (fun e=>by cases e) h6 (by omega) (by have:=EZ qs rest;omega)).mono ?_⟩;rintro e w' ⟨rfl,lab',yR,rest',p1,p2,p3,p4,p5⟩;refine⟨rfl,lab',yR,rest',ws,FY,p1,?_,(hB.lab p5).rP hB p4 (fun k hk hh=>by omega),(hL.lab p5).rP hL p4 (fun k hk hh=>by omega),?_,?_⟩
 .rw[p3];exact hW.keep p4 fun k hk hh=>by omega
 .refine bk ?_ hP;exact aq _ (aq _ (ek _ p2))
 .have:=p2.length_eq;rw[ab]at this;omega
theorem M3.below{w wr w':af}{D:Nat->Prop}{b bh bw room c b16 n:Nat}{F:Files}{out:ByteArray}{all:List Rc}{bl:Option Nat}{r:Rc}{p:ar}(h:M3 w wr D b bh bw room c F out all b16 bl r p n)(hb:Below wr.heap.size wr w'):M3 w w' D b bh bw room c F out all b16 bl r p n:=by
 obtain⟨lab,qs,rest,ws,FY,hM,hW,hB,hL,hP,hn⟩:=h;have k0:Keeps (fun _=>False) wr w':=Keeps.of_below hb;exact⟨lab,qs,rest,ws,FY,hM.below hb,hW.keep k0 fun _ _=>id,hB.keep k0 fun _ _=>id,hL.keep k0 fun _ _=>id,hP,hn⟩
theorem M3.put{all:List Rc}(h:M3 w wr D b bh bw room c F out all b16 (some g) r p n)(ha:all.length<=49):
 ∃x:Rc,wr.cell? ⟨g,0,none⟩=some (.int .u64 x.1)∧wr.cell? ⟨g,1,none⟩=some (.int .u64 x.2)∧bb ae 205 #[.pointer (some ⟨bw,0,none⟩),.agg #[.int .u64 x.1,.int .u64 x.2]] wr fun e w'=>e=.returned (.int .i64 0)∧M3 w w' D b bh bw room c F out all b16 none r p n:=by
 obtain⟨lab,qs,rest,ws,FY,hM,hW,hB,⟨x,q,rfl,hG,hne⟩,hP,hn⟩:=h;have hlen:=hP.length_eq;simp only[ab,ax]at hlen;refine⟨x,hG.1.cell 0 rfl,hG.1.cell 1 rfl,(wY hW (by omega) x).mono ?_⟩;rintro e w' ⟨rfl,T',hW',hst⟩;obtain⟨m1,m2,m3⟩:=hM.wrote hst (by obtain⟨_,_,_,_,_,_,_,q⟩:=hW';exact q);refine⟨rfl,_,qs,rest,ws++[x],[],m1,by rw[m2];exact hW',(hB.lab fun k hk h0=>iL h0 fun hh=>(hst.2 k hh).elim (fun hh=>by omega) fun hh=>by omega).rP hB hst.1 (fun k hk hh=>by omega),rfl,?_,hn⟩;simpa using hP
theorem M2.put{all:List Rc}(h:M2 w wr D b bh bw room c F out all b16 (some g) false n)(ha:all.length<=49):
 ∃x:Rc,wr.cell? ⟨g,0,none⟩=some (.int .u64 x.1)∧wr.cell? ⟨g,1,none⟩=some (.int .u64 x.2)∧bb ae 205 #[.pointer (some ⟨bw,0,none⟩),.agg #[.int .u64 x.1,.int .u64 x.2]] wr fun e w'=>e=.returned (.int .i64 0)∧M2 w w' D b bh bw room c F out all b16 none false n:=by
 obtain⟨lab,qs,rest,ws,cur,FY,r,p,hM,hW,hC,hB,⟨x,q,rfl,hG,hne⟩,hP,hn⟩:=h;have hlen:=hP.length_eq;simp only[ab,ax]at hlen;refine⟨x,hG.1.cell 0 rfl,hG.1.cell 1 rfl,(wY hW (by omega) x).mono ?_⟩;rintro e w' ⟨rfl,T',hW',hst⟩;obtain⟨m1,m2,m3⟩:=hM.wrote hst (by obtain⟨_,_,_,_,_,_,_,q⟩:=hW';exact q);refine⟨rfl,_,qs,rest,ws++[x],cur,[],r,p,m1,by rw[m2];exact hW',?_,(hB.lab fun k hk h0=>iL h0 fun hh=>(hst.2 k hh).elim (fun hh=>by omega) fun hh=>by omega).rP hB hst.1 (fun k hk hh=>by omega),rfl,?_,hn⟩
 .exact(hC.lab fun j hj=>m3 j (by omega) (by omega)).rP hC hst.1 (fun j hj=>m3 j (by omega) (by omega)) fun k hk hh=>by omega
 .simpa using hP
theorem M2.done{all:List Rc}(h:M2 w wr D b bh bw room c F out all b16 none false n)(ho:out.size<=maxLen)(hx:F (nm out)=some [])(ha:all.length<=49)(hroom:c+(all.length+1)<=room):
 bb ae 207 #[.pointer (some ⟨bw,0,none⟩)] wr fun e w'=>e=.returned (.int .i64 0)∧∃D' c' zs,aV w' D' b room (upd F (nm out) (some (fileOf zs))) c'∧zs.Perm all∧Stp D D' w w':=by
 obtain⟨lab,qs,rest,ws,cur,FY,r,p,hM,hW,hC,hB,hL,hP,hn⟩:=h;rcases hC with⟨_,rfl,rfl⟩|⟨e,_⟩
 .obtain rfl:FY=[]:=hL;have hP:ws.Perm all:=by simpa[cont]using hP
  have hlen:=hP.length_eq;refine(Cr hM.disk hW (fun k hk hh=>by omega) ho hx (by omega) (by omega)).mono ?_;rintro e w' ⟨rfl,D',c',hD,hc,hst⟩;refine⟨rfl,D',c',ws,hD,hP,hM.keep.trans hst.1 fun k hk=>?_,fun k hk=>?_⟩
  .exact hk.elim (hM.Bo k) fun hk=>.inr (hM.fr k (by omega) (by omega))
  .have:=hM.keep.size;exact(hst.2 k hk).elim (fun hk=>hk.elim (hM.Bo k) fun hk=>.inr (hM.fr k (by omega) (by omega))) fun hk=>.inr (by omega)
 .cases e
def af8(w:af)(D:Nat->Prop)(b bh bw room c:Nat)(F:Files)(out:ByteArray)(all:List Rc)(g:Nat)(bl:Option Nat)(n:Nat)(w':af)(is:Bool)(r:Rc)(p:ar):Prop:=
 ((∃u,w'.cell? ⟨g,0,none⟩=some u)∧(∃u,w'.cell? ⟨g,1,none⟩=some u)∧(∃u,w'.cell? ⟨g,2,none⟩=some u))∧(∀i,w'.frozen? ⟨g,i,none⟩=false)∧M2 w (((w'.setCell ⟨g,0,none⟩ (.int .u64 r.1)).setCell ⟨g,1,none⟩ (.int .u64 r.2)).setCell ⟨g,2,none⟩ p) D b bh bw room c F out all g bl is n
theorem M3.pop{all:List Rc}(h:M3 w wr D b bh bw room c F out all b16 none r p n)(ha:all.length<=49):
 wr.cell? ⟨b16,0,none⟩=some (.int .u64 r.1)∧wr.cell? ⟨b16,1,none⟩=some (.int .u64 r.2)∧wr.cell? ⟨b16,2,none⟩=some p∧∃n',n=n'+1∧bb ae 257 #[.pointer (some ⟨bh,0,none⟩)] (wr.alloc (.cells #[.int .u64 r.1,.int .u64 r.2,p] 366 (0,0))) fun e w'=>∃(is:Bool) (r':Rc) (p':Option Addr),e=.returned (.tuple #[.agg #[.int .u64 r'.1,.int .u64 r'.2,.pointer p'],.bool is])∧
  af8 w D b bh bw room c F out all wr.heap.size (some b16) n' w' is r' (.pointer p'):=by
 obtain⟨lab,qs,rest,ws,FY,hM,hW,hB,hL,hP,hn⟩:=h;obtain rfl:FY=[]:=hL;have hlen:=hP.length_eq;simp only[ab,ax,dE]at hlen;have hbW:Below wr.heap.size wr (wr.alloc (.cells #[.int .u64 r.1,.int .u64 r.2,p] 366 (0,0))):=(cH _ wr).alloc (cN _) _;have hN:=St.new wr 366 #[.int .u64 r.1,.int .u64 r.2,p];have hlN:=ai fun h=>dp _ (hM.bd _ h)
 have hk0:=hM.keep.size;generalize wr.alloc (.cells #[.int .u64 r.1,.int .u64 r.2,p] 366 (0,0))=W at hbW hN;refine⟨hB.1.cell 0 rfl,hB.1.cell 1 rfl,hB.1.cell 2 rfl,(cont qs rest).length,by omega,(Xr (hM.below hbW) (sK (rest:=rest) (by omega))).mono ?_⟩;rintro e w' ⟨is,r',p0,rfl,yR,cur,hM',hC,hPc,hk⟩;have hk1:=(Keeps.of_below (S:=fun k=>lab k=3) hbW).trans hk fun k hk=>.inl hk
 have hN1:=hN.keep hk (by omega);have hg:=Nat.ne_of_lt hB.1.lt;refine⟨is,r',p0,rfl,⟨⟨_,hN1.cell 0 rfl⟩,⟨_,hN1.cell 1 rfl⟩,⟨_,hN1.cell 2 rfl⟩⟩,hN1.frozen,?_⟩;generalize hp':ew p0=p' at*;generalize wr.heap.size=g at*;have kS:Keeps (fun k=>k=g) w' (((w'.setCell ⟨g,0,none⟩ (.int .u64 r'.1)).setCell ⟨g,1,none⟩ (.int .u64 r'.2)).setCell ⟨g,2,none⟩ p'):=(((Keeps.refl (fun k=>k=g) w').setCell (a:=⟨g,0,none⟩) (.inl rfl) _).setCell (a:=⟨g,1,none⟩) (.inl rfl) _).setCell (a:=⟨g,2,none⟩) (.inl rfl) _;have hS:St (((w'.setCell ⟨g,0,none⟩ (.int .u64 r'.1)).setCell ⟨g,1,none⟩ (.int .u64 r'.2)).setCell ⟨g,2,none⟩ p') g 366 [.int .u64 r'.1,.int .u64 r'.2,p']:=((hN1.set 0 _).set 1 _).set 2 _;generalize ((w'.setCell ⟨g,0,none⟩ (.int .u64 r'.1)).setCell ⟨g,1,none⟩ (.int .u64 r'.2)).setCell ⟨g,2,none⟩ p'=w2 at kS hS;have hkk:Keeps (fun k=>lab k=3∨k=g) wr w2:=(hk1.mono fun k _ h=>.inl h).trans kS fun k h=>.inl (.inr h)
 refine⟨lab,yR,rest,ws,cur,[r],r',p',hM'.box kS hlN (by omega),hW.keep hkk fun k h1 h2=>?_,hC.keep kS fun k h1 h2=>?_,⟨hS,hlN,by omega⟩,⟨r,p,rfl,⟨hB.1.keep hkk fun hh=>?_,hB.2⟩,hg⟩,?_,?_⟩
 .rcases h2 with h2|rfl<;>omega
 .subst h2;omega
 .have:=hB.2.1;rcases hh with hh|hh
  .omega
  .exact hg hh
 .refine bk ?_ hP;exact aq _ (ek _ hPc)
 .have:=hPc.length_eq;rw[ab]at this;omega
theorem M3.keeps{all:List Rc}(h:M3 w wr D b bh bw room c F out all b16 bl r p n):Keeps D w wr:=by
 obtain⟨lab,qs,rest,ws,FY,hM,_⟩:=h;exact hM.keep
theorem MS.start(hD:aV w D b room F c):
 ∃lab,MS w (w.alloc (.cells #[.slice none 0 0] 363 (0,0))) D b w.heap.size room c F lab [] (fun _=>[]):=by
 have hN:=St.new w 363 #[.slice none 0 0];have k0:Keeps (fun _=>False) w (w.alloc (.cells #[.slice none 0 0] 363 (0,0))):=(Keeps.refl _ w).alloc _;have hsz:(w.alloc (.cells #[.slice none 0 0] 363 (0,0))).heap.size=w.heap.size+1:=by simp
 generalize w.alloc (.cells #[.slice none 0 0] 363 (0,0))=W at*;have e1:(fun k=>dR (dR (fun _=>0) 1 D) 3 (fun k=>k=w.heap.size) k=1)=D:=by
  rw[eY (fun k hk=>?_) (by omega) (by omega),fC (by omega)];obtain rfl:k=w.heap.size:=hk;exact .inr (iL rfl fun h=>dp _ (hD.lt h))
 have e3:(fun k=>dR (dR (fun _=>0) 1 D) 3 (fun k=>k=w.heap.size) k=3)=fun k=>k=w.heap.size:=fC (by omega)
 have hb:∀k,dR (dR (fun _=>0) 1 D) 3 (fun k=>k=w.heap.size) k≠0->D k∨k=w.heap.size:=fun k hk=>by
  rcases dU hk with⟨h,_⟩|⟨h,_⟩
  .exact .inr h
  .rcases dU h with⟨h,_⟩|⟨h,_⟩
   .exact .inl h
   .exact(h rfl).elim
 refine⟨dR (dR (fun _=>0) 1 D) 3 (fun k=>k=w.heap.size),by rw[e1];exact hD.keep k0 fun _ _=>id,by rw[e3];exact⟨_,hN,bz _ _ 366 3,rfl,fun k e=>(by cases e),fun k hk=>by omega⟩,fun j _ hj=>(by simp at hj),eo,fun _ h=>(by cases h),fun _ h=>(by cases h),fun k hk=>?_,k0.mono fun _ _ h=>h.elim,fun k hk=>.inl ((congrFun e1 k).mp hk),fun k h1 h2=>?_⟩
 .rcases hb k hk with h|h
  .have:=hD.lt h;omega
  .omega
 .rcases hb k h1 with h|h
  .exact(h2 ((congrFun e1 k).mpr h)).elim
  .omega
theorem MS.reader{lab:Nat->Nat}{s:ByteArray}{l:List Rc}(h:MS w wr D b bh room c F lab qs rest)(hD:aV w' (fun k=>lab k=1) b room F c)(hR:Reader w' T br b s l false)(hst:Stp (fun k=>lab k=1) (fun k=>lab k=1) wr w')(hT:∀k,T k->wr.heap.size<=k∧¬lab k=1):
 ∃lab',MS w w' D b bh room c F lab' qs rest∧Reader w' (fun k=>lab' k=br+4) br b s l false∧br∉qs.map (·.2):=by
 have hbr:br∉qs.map (·.2):=fun hh=>by
  obtain⟨x,hx,e⟩:=c_.1 hh;obtain⟨s,h1,_⟩:=h.rd x hx;have h2:=h.bd x.2 (by have:lab x.2=x.2+4:=h1.1;omega);have:=(hT br hR.1).1;omega
 obtain⟨m1,m2,m3⟩:=h.next (R':=T) hbr hD ⟨hst.1.mono fun k _ h=>.inl h,fun k hk=>hk.elim (fun hk=>.inl (.inl hk)) fun hk=>.inr (hT k hk).1⟩ hR.lt fun k hk=>(hT k hk).2
 exact⟨_,m1,by rw[m2];exact hR,hbr⟩
theorem MS.file{lab:Nat->Nat}{s:ByteArray}{l:List Rc}(h:MS w wr D b bh room c F lab qs rest)(hD:aV w' D' b room F' c')(hW:Writer w' T bw b s l)(hst:Stp (fun k=>lab k=1) D' wr w')(hT:∀k,T k->wr.heap.size<=k∧¬D' k):
 ∃lab',MS w w' D b bh room c' F' lab' qs rest∧Writer w' (fun k=>lab' k=2) bw b s l:=by
 have hS:∀k,D' k->lab k=1∨lab k=0:=fun k hk=>(hst.2 k hk).elim .inl fun h2=>.inr (ai fun h3=>by have:=h.bd k h3;omega)
 have e0:=fC (lab:=lab) (i:=1) (S:=D') (by omega);have ej:=fun j (h1:j≠0) (h2:j≠1)=>eY (lab:=lab) hS h1 h2
 have hS2:∀k,T k->dR lab 1 D' k=2∨dR lab 1 D' k=0:=fun k hk=>.inr (iL (ai fun h3=>by have:=h.bd k h3;have:=(hT k hk).1;omega) (hT k hk).2)
 have f0:=fC (lab:=dR lab 1 D') (i:=2) (S:=T) (by omega);have fj:=fun j (h1:j≠0) (h2:j≠2)=>eY (lab:=dR lab 1 D') hS2 h1 h2
 have iy:∀k,T k->k<w'.heap.size:=by obtain⟨_,_,_,_,_,_,_,q⟩:=hW;exact q
 have hsz:=h.keep.size;refine⟨dR (dR lab 1 D') 2 T,⟨?_,?_,h.hp,h.mR,fun x hx=>?_,h.wf,fun k hk=>?_,h.keep.trans hst.1 h.Bo,fun k hk=>?_,fun k h1 h2=>?_⟩,by rw[f0];exact hW⟩
 .rw[fj 1 (by omega) (by omega),e0];exact hD
 .rw[fj 3 (by omega) (by omega),ej 3 (by omega) (by omega)];exact h.heap.keep hst.1 fun k hk hh=>by omega
 .obtain⟨s,h1,h2⟩:=h.rd x hx;refine⟨s,?_,h2⟩;rw[fj (x.2+4) (by omega) (by omega),ej (x.2+4) (by omega) (by omega)];exact h1.keep hst.1 fun k hk hh=>by omega
 .rcases dU hk with⟨h1,_⟩|⟨h1,_⟩
  .exact iy k h1
  .rcases dU h1 with⟨h1,_⟩|⟨h1,_⟩
   .exact hD.lt h1
   .exact aa (h.bd k h1) hst.1.size
 .have h1:=(congrFun ((fj 1 (by omega) (by omega)).trans e0) k).mp hk;exact(hst.2 k h1).elim (h.Bo k) fun h=>.inr (by omega)
 .rcases dU h1 with⟨h3,_⟩|⟨h3,h4⟩
  .have:=(hT k h3).1;omega
  .rcases dU h3 with⟨h5,h6⟩|⟨h5,h6⟩
   .omega
   .exact h.fr k h5 (by omega)
theorem MS.first{lab:Nat->Nat}{all:List Rc}(h:MS w wr D b bh room c F lab qs rest)(hW:Writer wr (fun k=>lab k=2) bw b out [])(hp:(cont qs rest).Perm all)(ha:all.length<=49):
 bb ae 257 #[.pointer (some ⟨bh,0,none⟩)] wr fun e w'=>∃(is:Bool) (r:Rc) (p:Option Addr),e=.returned (.tuple #[.agg #[.int .u64 r.1,.int .u64 r.2,.pointer p],.bool is])∧∃n,n<=49∧M2 w (w'.alloc (.cells #[.int .u64 r.1,.int .u64 r.2,.pointer p] 366 (0,0))) D b bh bw room c F out all w'.heap.size none is n:=by
 have hlen:=hp.length_eq;refine(Xr h (sK (rest:=rest) (by omega))).mono ?_;rintro e w' ⟨is,r,p0,rfl,yR,cur,hM',hC,hPc,hk⟩;have hbW:Below w'.heap.size w' (w'.alloc (.cells #[.int .u64 r.1,.int .u64 r.2,.pointer p0] 366 (0,0))):=(cH _ w').alloc (cN _) _;have hN:=St.new w' 366 #[.int .u64 r.1,.int .u64 r.2,.pointer p0];have hlN:=ai fun h=>dp _ (hM'.bd _ h)
 have hk0:=hM'.keep.size;have hl:=hPc.length_eq;rw[ab]at hl;refine⟨is,r,p0,rfl,cur.length+(cont yR rest).length,by omega,?_⟩;generalize w'.alloc (.cells #[.int .u64 r.1,.int .u64 r.2,.pointer p0] 366 (0,0))=W at hbW hN;have kk:=hk.below hbW;exact⟨lab,yR,rest,[],cur,[],r,.pointer p0,hM'.below hbW,hW.keep kk fun k h1 h2=>by omega,hC.keep (Keeps.of_below (S:=fun _=>False) hbW) fun _ _=>id,⟨hN,hlN,hk0⟩,rfl,by simpa using hPc.trans hp,rfl⟩
theorem QG{part:List (Nat×List Rc)}(hD:aV w D b room F c)(hs:St w bs 304 (Xn b tp nx v))(Si:¬D bs)(hN:qZ w tp gn on (part.map (·.1)))(hn:part.length=n)(hgn:gn<w.heap.size∧¬D gn)(hF:∀p∈part,F (nf tp p.1)=some (fileOf p.2)∧(rn tp p.1).size<=maxLen∧∀x∈p.2,Wf x)(hall:(part.flatMap (·.2)).length<=49)(ho:0<out.size)(Iw:out.size<=24)(hx:F (nm out)=none)(hroom:c+((part.flatMap (·.2)).length+2)<=room)(hc:c<100000)(hnl:n<1000):
 bb ae 238 #[.pointer (some ⟨bs,0,none⟩),.slice (some ⟨gn,on,none⟩) n cn,.string out] w fun e w'=>e=.returned (.int .i64 0)∧∃D' c' zs,aV w' D' b room (upd F (nm out) (some (fileOf zs))) c'∧zs.Perm (part.flatMap (·.2))∧Stp D D' w w':=by
 obtain⟨Db,h0⟩:=MS.start hD;obtain⟨all,hal⟩:=ex (part.flatMap (·.2))
 have HW:=Y7 hs Si hN hgn hF hx hal;rw[<-hal]at hall hroom⊢;have HN:=Y1 hn;have H0:=Y1 h0;generalize hbh:w.heap.size=bh at*;clear hD hs Si hN hgn hF hx h0 hn hal;go_enter eM,eI
 go_wp2_with fail
 go_loopg [24] n (fun kq v24 wr=>∃k:Nat,kq+k=n∧v24=.int .i64 (k:Nat)∧aG (∃lab qs rest,MS w wr D b bh room c F lab qs rest∧(cont qs rest).Perm ((part.take k).flatMap (·.2))))
 case atStart=>exact⟨0,by omega,rfl,⟨Db,[],fun _=>[],H0.out,cG _⟩⟩
 case round=>
  obtain⟨k,hk,rfl,hA⟩:=hrel;obtain⟨lab,qs,rest,hM,hP⟩:=hA.out;obtain⟨hs,Si,hN,hgn,hF,hx,hal⟩:=HW.out;by_cases hlt:k<n
  .have hlt':(k:Int)<n:=by omega
   obtain⟨p,hp⟩:∃p,part[k]? =some p:=⟨_,al (by have:=HN.out;omega)⟩
   have hpm:=cm hp;obtain⟨f1,f2,f3⟩:=hF p hpm;have htk:(part.take (k+1)).flatMap (·.2)=(part.take k).flatMap (·.2)++p.2:=by
    rw[du,hp];simp
   have hle:((part.take (k+1)).flatMap (·.2)).length<=all.length:=by
    rw[hal];have e:=congrArg (fun l:List (Nat×List Rc)=>(l.flatMap (·.2)).length) (List.take_append_drop (k+1) part);simp only[an,ab]at e;omega
   have cn:=hM.keep.cell (a:=⟨gn,on+k,none⟩) (hN k p.1 (by rw[aw,hp];rfl)) hgn.2;have c0:=hM.keep.cell (a:=⟨bs,0,none⟩) (hs.cell 0 rfl) Si;have hnr:=ng hM.disk (rn tp p.1) f2 f1;have HM:=Y7 hM hP f1 f2 f3 htk hle;clear hM hP f1 f2 f3 htk hle hs Si hN hgn hF hx hal hpm hp
   go_wp2_with fail
   refine hnr.mono ?_;clear hnr;rintro e w1 ⟨br,T1,rfl,hD1,Sj,kI,hT1⟩;obtain⟨hM,hP,f1,f2,f3,htk,hle⟩:=HM.out;obtain⟨af9,m1,r1,hbr⟩:=hM.reader hD1 Sj kI hT1;have hcl:=hP.length_eq;have hpl:p.2.length<=49∧((part.take k).flatMap (·.2)).length<=49:=by rw[htk,ab]at hle;omega
   have Iu:=QF m1 hbr r1 f2 (fun _=>f1) f3 hpl.1 (sK (rest:=rest) (by omega));have HP:=Y2 hP htk;clear hM hP f1 f2 f3 htk hle hD1 Sj kI hT1 m1 r1 hbr hcl hpl HM
   go_wp2_with fail
   refine Iu.mono ?_;clear Iu;rintro e w2 ⟨rfl,Da,qs2,ac8,p1,p2,p3,p4,p5⟩;have HX:=Y1 (show ∃lab qs rest,MS w w2 D b bh room c F lab qs rest∧(cont qs rest).Perm ((part.take (k+1)).flatMap (·.2))from⟨Da,qs2,ac8,p1,by
    rw[HP.out.2];exact(p2.trans cd).trans (HP.out.1.append_right _)⟩)
   clear p1 p2 p3 p4 p5;obtain⟨k1,hk1⟩:∃k1,k1+(k+1)=n:=⟨n-(k+1),by omega⟩
   have hw:IntKind.i64.wrap ((k:Int)+1)=(k+1:Nat):=by rw[IntKind.wrap_i64];omega
   go_wp2_with fail
   go_roundg k1
   case measure=>omega
   case rel=>exact⟨k+1,by omega,by simp,HX⟩
  .have hkn:k=n:=by omega
   subst hkn;have hlt':¬(k:Int)<k:=by omega
   rw[az (by have:=HN.out;omega),<-hal]at hP;have c0:wr.cell? ⟨bs,0,none⟩=some (.pointer (some ⟨b,0,none⟩)):=hM.keep.cell (a:=⟨bs,0,none⟩) (hs.cell 0 rfl) Si;have hnw:=qo hM.disk out ho Iw hx (by omega);have HM:=Y2 hM hP;have HS:=Y2 hs Si;have HX:=Y1 hx;clear hM hP hs Si hN hgn hF hx hal hA HW
   go_wp2_with fail
   refine hnw.mono ?_;clear hnw;rintro e w1 ⟨bw,D1,T1,rfl,hD1,hW1,kI,hT1⟩;obtain⟨af9,m1,hW1'⟩:=HM.out.1.file hD1 hW1 kI hT1;have hfi:=m1.first hW1' HM.out.2 hall;have hk1:=m1.keep;have HK:=Y1 hk1;clear hD1 hW1 kI hT1 m1 hW1' hk1 c0
   go_wp2_with fail
   refine hfi.mono ?_;clear hfi;rintro e w2 ⟨is,r,p,rfl,n2,hn2,hM2⟩;have H2:=Y1 hM2;clear hM2
   go_wp2_with fail
   generalize hg2:w2.heap.size=g2 at*
   go_loopg [15,16,17] n2 (fun kq v15 v16 v17 wr=>∃(b16:Nat) (bl:Option Nat) (is:Bool),v15=.pointer (bl.map fun g=>⟨g,0,none⟩)∧v16=.pointer (some ⟨b16,0,none⟩)∧v17=.bool is∧aG (M2 w wr D b bh bw room (c+1) (upd F (nm out) (some [])) out all b16 bl is kq))
   case atStart=>exact⟨g2,none,is,rfl,rfl,rfl,H2⟩
   case round=>
    obtain⟨b16,bl,is,rfl,rfl,rfl,hM⟩:=hrel;cases is with
    |true=>
     obtain⟨r1,br,c16,Iu⟩:=hM.out.push hall;clear hM
     go_wp2_with fail
     refine Iu.mono ?_;clear Iu c16;rintro e w3 ⟨rfl,Dx⟩;have c3:=Dx.keeps.cell (a:=⟨bs,3,none⟩) (HS.out.1.cell 3 rfl) HS.out.2;have H3:=Y1 Dx;clear Dx;cases bl with
     |none=>
      simp only[ef]
      go_wp2_with fail
      go_quiet (fail)
      have HMQ:=Y1 (H3.out.below (below_drewN (cH _ w3) nq));generalize w3.drewN nq=w5 at*;obtain⟨d0,d1,d2,n3,zA,hpo⟩:=HMQ.out.pop hall;clear H3 HMQ c3
      go_wp2_with fail
      refine hpo.mono ?_;clear hpo d0 d1 d2;rintro e w6 ⟨is6,r6,p6,rfl,⟨⟨u0,e0⟩,⟨u1,e1⟩,⟨u2,e2⟩⟩,f6,hM6⟩;have H6:=Y1 hM6;have f60:=f6 0;have f61:=f6 1;have f62:=f6 2;clear hM6 f6
      go_wp2_with fail
      go_roundg n3
      case measure=>omega
      case rel=>exact⟨_,some b16,is6,rfl,rfl,rfl,H6⟩
     |some g=>
      simp only[cq]
      go_wp2_with fail
      go_quiet (fail)
      obtain⟨x4,g0,g1,hpt⟩:=(H3.out.below (below_drewN (cH _ w3) nq)).put hall;generalize w3.drewN nq=w4 at*;clear H3 c3
      go_wp2_with fail
      refine hpt.mono ?_;clear hpt g0 g1;rintro e w5 ⟨rfl,hM5⟩;have HMQ:=Y1 hM5;clear hM5;obtain⟨d0,d1,d2,n3,zA,hpo⟩:=HMQ.out.pop hall;clear HMQ
      go_wp2_with fail
      refine hpo.mono ?_;clear hpo d0 d1 d2;rintro e w6 ⟨is6,r6,p6,rfl,⟨⟨u0,e0⟩,⟨u1,e1⟩,⟨u2,e2⟩⟩,f6,hM6⟩;have H6:=Y1 hM6;have f60:=f6 0;have f61:=f6 1;have f62:=f6 2;clear hM6 f6
      go_wp2_with fail
      go_roundg n3
      case measure=>omega
      case rel=>exact⟨_,some b16,is6,rfl,rfl,rfl,H6⟩
    |false=>
     cases bl with
     |none=>
      simp only[ef];have hdn:=hM.out.done (by unfold maxLen;omega) (by rw[upd_same]) hall (by omega);clear hM
      go_wp2_with fail
      refine hdn.mono ?_;clear hdn;rintro e w5 ⟨rfl,D',c',zs,q1,q2,q3⟩;rw[qH]at q1;have HQ:=Y3 q1 q2 q3;clear q1 q2 q3
      go_wp2_with fail
      go_ret;exact⟨rfl,D',c',zs,HQ.out.1,HQ.out.2.1,HQ.out.2.2⟩
     |some g=>
      simp only[cq];obtain⟨x4,g0,g1,hpt⟩:=hM.out.put hall;clear hM
      go_wp2_with fail
      refine hpt.mono ?_;clear hpt g0 g1;rintro e w4 ⟨rfl,hM5⟩;have hdn:=hM5.done (by unfold maxLen;omega) (by rw[upd_same]) hall (by omega);clear hM5
      go_wp2_with fail
      refine hdn.mono ?_;clear hdn;rintro e w5 ⟨rfl,D',c',zs,q1,q2,q3⟩;rw[qH]at q1;have HQ:=Y3 q1 q2 q3;clear q1 q2 q3
      go_wp2_with fail
      go_ret;exact⟨rfl,D',c',zs,HQ.out.1,HQ.out.2.1,HQ.out.2.2⟩
theorem yS(h:aV w D b room F c)(s:ByteArray)(hs:s.size<=maxLen)(hx:F (nm s)=none):
 bb ae 208 #[.pointer (some ⟨b,0,none⟩),.string s] w fun e w'=>e=.returned (.tuple #[.pointer none,.int .i64 4])∧aV w' D b room F c∧Stp D D w w':=by
 go_enter func208,ntmps208
 go_wp2_with (first|(go_at_call 72;refine(DW h s hs hx).mono ?_;rintro e w1 ⟨rfl,hd,hk⟩;have HH:=Y2 hd hk;clear hd hk))
 refine bodyPost_ret (results_tmp2 rfl _ _ _) rfl ⟨rfl,HH.out⟩
theorem QH{s:ByteArray}(hD:aV w D b room F c)(hs:St w bs 304 (Xn b tp nx v))(Si:¬D bs)(hg:w.cell? ⟨gn,on,none⟩=some (.string s))(hgn:gn<w.heap.size∧¬D gn)(hss:s.size<=maxLen)(hx:F (nm s)=none)(hn:0<n)(hn2:n<1000):
 bb ae 238 #[.pointer (some ⟨bs,0,none⟩),.slice (some ⟨gn,on,none⟩) n cn,.string out] w fun e w'=>e=.returned (.int .i64 4)∧Keeps D w w':=by
 have k0:Keeps (fun _=>False) w (w.alloc (.cells #[.slice none 0 0] 363 (0,0))):=(Keeps.refl _ w).alloc _;have hD1:=hD.keep k0 fun _ _=>id
 have c0:=k0.cell (a:=⟨bs,0,none⟩) (hs.cell 0 rfl) id;have cg:=k0.cell (a:=⟨gn,on,none⟩) hg id;have HK:=Y1 k0;have hnr:=yS hD1 s hss hx;have HN:(0:Int)<n:=by omega
 clear hD hs Si hgn k0 hD1 hg;obtain⟨W,hW⟩:=ex (w.alloc (.cells #[.slice none 0 0] 363 (0,0)))
 rw[<-hW]at c0 cg hnr HK;go_enter eM,eI
 go_wp2_with fail
 rw[<-hW];clear hW
 go_loopg [24] 0 (fun kq v24 wr=>v24=.int .i64 0∧wr=W)
 case atStart=>exact⟨rfl,rfl⟩
 case round=>
  obtain⟨rfl,rfl⟩:=hrel
  go_wp2_with fail
  refine hnr.mono ?_;clear hnr;rintro e w2 ⟨rfl,hd,hst⟩;have HS:=Y1 hst.1;clear hd hst
  go_wp2_with fail
  go_ret;exact⟨rfl,(HK.out.mono fun _ _ h=>h.elim).trans HS.out fun _ h=>.inl h⟩
theorem aV.shrink(h:aV w D b room F c):∃D0,aV w D0 b room F c∧(∀k,D0 k->D k)∧∀k,D0 k->k<b∨∃cs t fr,w.heap[k]? =some (.cells cs t fr):=by
 obtain⟨m,L,g,v,s,G,R,hc,hF⟩:=h;refine⟨fun k=>k=b∨k=m∨∃x∈L,k=g x∨(v x).ownBlock=some k,⟨m,L,g,v,s,G,⟨R.st,R.le,R.rm,.inl rfl,.inr (.inl rfl),R.map,R.mR,fun x hx=>⟨(R.file x hx).1,(R.file x hx).2.1,.inr (.inr ⟨x,hx,.inl rfl⟩),fun k hk=>.inr (.inr ⟨x,hx,.inr hk⟩)⟩,R.inj,fun k hk=>?_⟩,hc,hF⟩,fun k hk=>?_,fun k hk=>?_⟩
 .rcases hk with rfl|rfl|⟨x,hx,rfl|hk⟩
  .exact R.lt _ R.db
  .exact R.lt _ R.dm
  .exact R.lt _ (R.file x hx).2.2.1
  .exact R.lt _ ((R.file x hx).2.2.2 k hk)
 .rcases hk with rfl|rfl|⟨x,hx,rfl|hk⟩
  .exact R.db
  .exact R.dm
  .exact(R.file x hx).2.2.1
  .exact(R.file x hx).2.2.2 k hk
 .rcases hk with rfl|rfl|⟨x,hx,rfl|hk⟩
  .obtain⟨_,_,hst⟩:=R.st;exact .inr ⟨_,_,_,hst⟩
  .exact .inl R.rm.2
  .exact .inr ⟨_,_,_,(R.file x hx).1⟩
  .obtain⟨c1,e1⟩:=gG (R.file x hx).2.1 k hk;exact .inr ⟨_,_,_,e1⟩
variable {Q:Exit->Act->af->Prop}
theorem zP{r id:Nat}{a:Act}{l:List Oper}(hL:¬LetsOut Q)(hd:∀(i:Nat) (o:Oper) (c:Call),l.toArray[i]? =some o->o.op≠.defer c)(C:af->Prop)(fs rs gs ps ts:List Nat)(hm:P.follows .mixedOrders=true)(hQ:∀c a x v w,Q (.panic c) (a.put x v) w->Q (.panic c) a w)(hC:C w.drew)(hB:(Region.noSelect l.toArray&&l9 .any l.toArray (rs++(gs++ps)) ts&&jA .any l.toArray ts&&decide (fs.length+(rs.length+(gs.length+(ps.length+ts.length)))=l.length)&&((gs++ts).all fun t=>decide (t<l.length))&&KU .any l.toArray rs gs ps ts fs (Array.replicate l.length false))=true)(h:cB P l.toArray (dS P l.toArray C (fun a'=>∀w',C w'->dO P l.toArray Q C (fun a w=>cB P l.toArray (fun a'=>wpList P l.toArray Q (aJ l ts) a' w) (aJ l ps) a) (aJ l gs) a' w') (aJ l rs)) (aJ l fs) a):(Code.region id l.toArray true).wpIn (Fence.wide.inRound r) n P Q a w:=by
 simp only[Bool.and_eq_true,decide_eq_true_eq]at hB;obtain⟨⟨⟨⟨⟨h1,h2⟩,h3⟩,h4⟩,h6⟩,h5⟩:=hB;refine RgI.Aq (S:=C) (ds:=ts) hL hd hm hC fun _=>?_
 have:=Gz (P:=P) (md:=.any) hQ h1 h2 h3 (fun t ht=>by
  have:=List.all_eq_true.1 h6 t ht;exact⟨_,cI (by simpa using this)⟩) fs _ a w.drew hC (fun j oj _ hl=>by rw[getD_replicate_false]at hl;cases hl) h5 h
 rw[h4]at this;simpa using this
def Zt(B:Nat)(w:af)(k:Nat):Prop:=k<B∨∃cs t fr,w.heap[k]? =some (.cells cs t fr)
def fH(rs:List (Nat×List Rc))(j:Nat):List (Nat×List Rc):=(rs.drop (4*j)).take 4
def left(rs:List (Nat×List Rc))(m:Nat)(pre:List (Fin m)):List (Nat×List Rc):=((bj m).filter (fun j=>decide (j∉pre))).flatMap fun j=>fH rs j.1
theorem wD(rs:List (Nat×List Rc)):∀m,(et m).flatMap (fH rs)=rs.take (4*m)
 |0=>by simp
 |m+1=>by
  rw[List.range_succ,an,wD rs m,da,show 4*(m+1)=4*m+4 by omega,List.take_add];rfl
theorem E5(rs:List (Nat×List Rc))(hm:rs.length<=4*m):left rs m []=rs:=by
 unfold left;rw[List.filter_eq_self.2 fun _ _=>by simp];have e:(bj m).flatMap (fun j=>fH rs j.1)=(et m).flatMap (fH rs):=by
  have e0:et m=(bj m).map (·.1):=List.ext_getElem (by simp) fun i h1 h2=>by simp
  rw[e0,List.flatMap_map]
 rw[e,wD,az hm]
theorem left_step(rs:List (Nat×List Rc))(pre:List (Fin m))(x:Fin m)(hx:x∉pre):(left rs m pre).Perm (fH rs x.1++left rs m (pre++[x])):=by
 have h:((bj m).filter (fun j=>decide (j∉pre))).Perm (x::(bj m).filter (fun j=>decide (j∉pre++[x]))):=by
  refine(List.perm_ext_iff_of_nodup ((di m).filter _) (a_.2 ⟨by simp,(di m).filter _⟩)).2 fun y=>?_
  simp only[eh,List.mem_finRange,true_and,decide_eq_true_eq,ey,cx,List.mem_singleton,not_or];constructor
  .intro h;by_cases e:y=x
   .exact .inl e
   .exact .inr ⟨h,by simpa using e⟩
  .rintro(rfl|h)
   .exact hx
   .exact h.1
 exact(h.flatMap_right _).trans (by simp[left])
theorem QI(rs:List (Nat×List Rc))(m:Nat):left rs m (sG.come m m)=[]:=by
 have e:sG.come m m=bj m:=by
  unfold sG.come;exact az (by simp)
 unfold left;rw[e,List.filter_eq_nil_iff.2 fun y _=>by simp];rfl
theorem qY.perm{nf:Nat->Nm}{ts:List (Nat×List Rc)}(h:qY nf F F' rs)(hp:rs.Perm ts):qY nf F F' ts:=
 ⟨fun x hx=>h.other x fun p hp'=>hx p (hp.subset hp'),fun p hp'=>h.at_ p (hp.symm.subset hp'),hp.pairwise h.mR fun h=>h.symm⟩
theorem Zu{l:List ByteArray}(lU:ByteArray)(hS:gq w T bs b tp nx l)(hl:l.length+1<=nx)(hnx:nx<1000):
 ∃A cp a' cp' w',w.cell? ⟨bs,5,none⟩=some (.slice A l.length cp)∧w.cell? ⟨bs,0,none⟩=some (.pointer (some ⟨b,0,none⟩))∧
  (aE #[86,86] 86 #[.slice A l.length cp,.slice (some ⟨w.heap.size,0,none⟩) 1 1]).run ae (w.alloc (.cells #[.string lU] 9 (0,0)))=.ok (.slice (some a') (l.length+1) cp') w'∧
  (∃u,w'.cell? ⟨bs,5,none⟩=some u)∧w'.frozen? ⟨bs,5,none⟩=false∧
  ∃T',fT (w'.setCell ⟨bs,5,none⟩ (.slice (some a') (l.length+1) cp')) T' bs b tp nx∧Stp T T' w (w'.setCell ⟨bs,5,none⟩ (.slice (some a') (l.length+1) cp')):=by
 obtain⟨v2,s1,s2,s3,s4,s5⟩:=hS;obtain⟨v3,w3,hrun,ho3,hk3,zA,a3,wm,rfl⟩:=kN lU s2 (by omega);have el:(l++[lU]).length=l.length+1:=by simp
 obtain⟨g3,rfl,_⟩:=dZ (show w3.ownsRow 0 9 1 (.slice (some a3) (l++[lU]).length wm) (l++[lU]).length (strs (l++[lU])) by rw[el]at ho3 ⊢; exact ho3);have hT0:v2.ownBlock≠some bs:=fun e=>s1.own_ne s2 (by decide) bs e rfl
 have t1:=s1.keep hk3 hT0;obtain⟨A2,cp2,rfl⟩:=aW s2;have hbg:bs≠g3:=fun e=>t1.own_ne ho3 (by decide) g3 rfl e.symm
 have k14:Keeps T w (w3.setCell ⟨bs,5,none⟩ (.slice (some ⟨g3,0,none⟩) (l.length+1) wm)):=(hk3.mono (S':=T) fun k _ h=>s4 k h).setCell (a:=⟨bs,5,none⟩) (.inl s3) _;have u1:St (w3.setCell ⟨bs,5,none⟩ (.slice (some ⟨g3,0,none⟩) (l.length+1) wm)) bs 304 (Xn b tp nx (.slice (some ⟨g3,0,none⟩) (l.length+1) wm)):=t1.set 5 _;rw[el]at ho3;have u2:(w3.setCell ⟨bs,5,none⟩ (.slice (some ⟨g3,0,none⟩) (l.length+1) wm)).ownsRow 0 9 1 (.slice (some ⟨g3,0,none⟩) (l.length+1) wm) (l.length+1) (strs (l++[lU])):=b_ (p:=⟨bs,5,none⟩) ho3 (fun e=>t1.own_ne ho3 (by decide) _ e.symm rfl) _;have hg3:=(zA g3 rfl).imp (s4 g3) id;refine⟨A2,cp2,⟨g3,0,none⟩,wm,w3,s1.cell 5 rfl,s1.cell 0 rfl,hrun,⟨_,t1.cell 5 rfl⟩,t1.frozen 5,fun k=>T k∨k=g3,⟨⟨g3,0,none⟩,wm,l++[lU],by rw[el];exact u1,by rw[el];exact u2,by rw[el];omega,.inl s3,.inr rfl,hbg,fun k hk=>?_⟩,k14,fun k hk=>?_⟩
 .rcases hk with hk|rfl
  .exact aa (s5 k hk) k14.size
  .simpa using bJ ho3 _ rfl
 .rcases hk with hk|rfl
  .exact .inl hk
  .exact hg3
def uG(w:af)(k:Nat):Prop:=∃cs t fr,w.heap[k]? =some (.cells cs t fr)
theorem St.QJ{t:Nat}{vs:List ar}(h:St w b t vs):uG w b:=⟨_,_,_,h⟩
theorem oC{base e size:Nat}{xs:List ar}(h:w.ownsRow base e size v n xs)(hk:v.ownBlock=some k):uG w k:=by
 obtain⟨c,e⟩:=gG h k hk;exact⟨_,_,_,e⟩
def E8(bs b:Nat)(tp:ByteArray)(k:Nat)(w:af)(T:Nat->Prop):Prop:=∃l:List ByteArray,l.length+1<=k∧gq w T bs b tp k l
def pQ(bs b:Nat)(tp:ByteArray)(k:Nat)(w:af)(T:Nat->Prop):Prop:=fT w T bs b tp k
structure E9 (P:af->(Nat->Prop)->Prop):Prop where
 keep:∀{w w':af} {S T:Nat->Prop},P w T->Keeps S w w'->(∀k,T k->¬S k)->P w' T
 shrink:∀{w:af} {T:Nat->Prop},P w T->∃T0,P w T0∧(∀k,T0 k->T k)∧∀k,T0 k->uG w k
 lt:∀{w:af} {T:Nat->Prop},P w T->∀k,T k->k<w.heap.size
theorem Dc(bs b:Nat)(tp:ByteArray)(k:Nat):E9 (E8 bs b tp k) where
 keep h hk hS:=by
  obtain⟨l,h1,h2⟩:=h;exact⟨l,h1,h2.keep hk hS⟩
 shrink h:=by
  obtain⟨l,h1,v,h2,h3,h4,h5,h6⟩:=h;refine⟨fun j=>j=bs∨v.ownBlock=some j,⟨l,h1,v,h2,h3,.inl rfl,fun j e=>.inr e,fun j hj=>?_⟩,fun j hj=>?_,fun j hj=>?_⟩
  .rcases hj with rfl|hj
   .exact h6 _ h4
   .exact h6 _ (h5 _ hj)
  .rcases hj with rfl|hj
   .exact h4
   .exact h5 _ hj
  .rcases hj with rfl|hj
   .exact h2.QJ
   .exact oC h3 hj
 lt h:=by
  obtain⟨l,h1,v,h2,h3,h4,h5,h6⟩:=h;exact h6
theorem lW(bs b:Nat)(tp:ByteArray)(k:Nat):E9 (pQ bs b tp k) where
 keep h hk hS:=fT.keep h hk hS
 shrink h:=by
  obtain⟨a,c,l,h1,h2,h3,h4,h5,h6,h7⟩:=h;refine⟨fun j=>j=bs∨j=a.block,⟨a,c,l,h1,h2,h3,.inl rfl,.inr rfl,h6,fun j hj=>?_⟩,fun j hj=>?_,fun j hj=>?_⟩
  .rcases hj with rfl|rfl
   .exact h7 _ h4
   .exact h7 _ h5
  .rcases hj with rfl|rfl
   .exact h4
   .exact h5
  .rcases hj with rfl|rfl
   .exact h1.QJ
   .obtain⟨g,rfl,_⟩:=dZ h2;exact oC h2 rfl
 lt h:=by
  obtain⟨a,c,l,h1,h2,h3,h4,h5,h6,h7⟩:=h;exact h7
structure Env where
 w1:af
 Z:Nat->Prop
 B:Nat
 bs:Nat
 b:Nat
 room:Nat
 b12:Nat
 gn:Nat
 bS:Nat
 bN:Nat
 tp:ByteArray
 F:Files
 ks:List Nat
def Env.ok(E:Env)(k:Nat):Prop:=k≠E.gn∧k≠E.bS∧k≠E.bN∧(E.Z k∨E.w1.heap.size<=k)
structure Core (E:Env) (P:af->(Nat->Prop)->Prop) (W:af) (files box:List (Nat×List Rc)):Prop where
 ex:∃(D' T' X':Nat->Prop) (F':Files) (c':Nat) (v:ar),(aV W D' E.b E.room F' c'∧P W T'∧Ip W X' E.b12 86 9 1 box.length (strs (box.map fun p=>rn E.tp p.1)) v∧∀k,X' k->k<W.heap.size)∧qY (nf E.tp) E.F F' files∧
  ((∀k,T' k->¬D' k)∧∀k,X' k->¬D' k∧¬T' k)∧∀k,D' k∨T' k∨X' k->Zt E.B W k∧E.ok k
 keep:Keeps E.Z E.w1 W
 names:qZ W E.tp E.gn 0 E.ks
 lt:E.gn<W.heap.size∧E.bS<W.heap.size∧E.bN<W.heap.size∧E.b<E.B
variable {E:Env}
theorem Core.make{P:af->(Nat->Prop)->Prop}(hP:E9 P){files box:List (Nat×List Rc)}{X':Nat->Prop}(hD:aV W D' E.b E.room F' c')(hT:P W T')(hX:Ip W X' E.b12 86 9 1 box.length (strs (box.map fun p=>rn E.tp p.1)) v)(hI:qY (nf E.tp) E.F F' files)(z1:∀k,T' k->¬D' k)(z2:∀k,X' k->¬D' k∧¬T' k)(hz:∀k,D' k∨T' k∨X' k->E.ok k)(hk:Keeps E.Z E.w1 W)(hn:qZ W E.tp E.gn 0 E.ks)(hl:E.gn<W.heap.size∧E.bS<W.heap.size∧E.bN<W.heap.size∧E.b<E.B):Core E P W files box:=by
 obtain⟨D0,d1,d2,d3⟩:=hD.shrink;obtain⟨T0,t1,t2,t3⟩:=hP.shrink hT;have hxs:∀k,(k=E.b12∨v.ownBlock=some k)->X' k∧uG W k:=fun k h=>by
  rcases h with rfl|h
  .exact⟨hX.xb,hX.st.QJ⟩
  .exact⟨hX.xo k h,oC hX.own h⟩
 refine⟨⟨D0,T0,fun k=>k=E.b12∨v.ownBlock=some k,F',c',v,⟨d1,t1,⟨hX.st,hX.own,.inl rfl,fun k e=>.inr e⟩,fun k h=>?_⟩,hI,⟨fun k h h2=>z1 k (t2 k h) (d2 k h2),fun k h=>⟨fun h2=>(z2 k (hxs k h).1).1 (d2 k h2),fun h2=>(z2 k (hxs k h).1).2 (t2 k h2)⟩⟩,fun k h=>?_⟩,hk,hn,hl⟩
 .obtain⟨_,_,_,e⟩:=(hxs k h).2;exact(ag.1 e).1
 .rcases h with h|h|h
  .refine⟨?_,hz k (.inl (d2 k h))⟩;rcases d3 k h with h|h
   .exact .inl (eN h hl.2.2.2)
   .exact .inr h
  .exact⟨.inr (t3 k h),hz k (.inr (.inl (t2 k h)))⟩
  .exact⟨.inr (hxs k h).2,hz k (.inr (.inr (hxs k h).1))⟩
theorem Core.own{P:af->(Nat->Prop)->Prop}(hP:E9 P){files box:List (Nat×List Rc)}{row:Option Nat}(h:Core E P W files box)(hg:W.grownBy W' row)(hr:∀r,row=some r->E.B<=r∧∃o:Obj,W.heap[r]? =some o∧o.isCells=false)(hw1:E.w1.heap.size<=E.B)(hgn:uG W E.gn):Core E P W' files box:=by
 obtain⟨⟨D',T',X',F',c',v,⟨hD,hT,hX,wL⟩,hI,⟨z1,z2⟩,hz⟩,hk,hn,hl⟩:=h;have hK:=(Keeps.refl _ W).grown hg fun m e=>.inl e
 have hne:∀k,Zt E.B W k->¬row=some k:=fun k hc e=>by
  obtain⟨h1,o,h2,h3⟩:=hr k e;rcases hc with h|⟨cs,t,fr,h⟩
  .omega
  .rw[h]at h2;cases h2;cases h3
 have hc:=fun k h=>hne k (hz k h).1
 refine⟨⟨D',T',X',F',c',v,⟨hD.keep hK fun k h=>hc k (.inl h),hP.keep hT hK fun k h=>hc k (.inr (.inl h)),hX.keep hK fun k h=>hc k (.inr (.inr h)),fun k h=>aa (wL k h) hK.size⟩,hI,⟨z1,z2⟩,fun k h=>⟨?_,(hz k h).2⟩⟩,
  hk.trans hK fun k e=>.inr (cC hw1 (hr k e).1),fun j k h=>hK.cell (hn j k h) (hne _ (.inr hgn)),aa hl.1 hK.size,aa hl.2.1 hK.size,aa hl.2.2.1 hK.size,hl.2.2.2⟩
 rcases(hz k h).1 with h1|⟨cs,t,fr,h1⟩
 .exact .inl h1
 .exact .inr ⟨cs,t,fr,(hK.at_ (ag.1 h1).1 (hc k h)).trans h1⟩
def gT(E:Env)(W W':af):Prop:=KeepsFrom E.B W W'∧sG.Kp E.bS E.bN W W'
theorem gT.trans{E:Env}{X Y Z:af}(h:gT E X Y)(k:gT E Y Z):gT E X Z:=⟨h.1.trans k.1,sG.Cn h.2 k.2⟩
theorem gT.of{S:Nat->Prop}(hk:Keeps S W W')(hS:∀k,k<W.heap.size->S k->Zt E.B W k∧E.ok k)(hl:E.bS<W.heap.size∧E.bN<W.heap.size):gT E W W':=by
 refine⟨⟨hk.size,fun k o hB ho hc=>?_⟩,fun v hv=>hk.cell hv fun h=>?_,fun v hv=>hk.cell hv fun h=>?_⟩
 .refine(hk.at_ (ag.1 ho).1 fun h=>?_).trans ho;rcases(hS k (ag.1 ho).1 h).1 with h1|⟨cs,t,fr,h1⟩
  .omega
  .rw[h1]at ho;cases ho;cases hc
 .exact(hS _ hl.1 h).2.2.1 rfl
 .exact(hS _ hl.2 h).2.2.2.1 rfl
theorem QK{P:af->(Nat->Prop)->Prop}{files box:List (Nat×List Rc)}(h:Core E P W files box)(hk:W.heap.size<=k):E.ok k:=by
 obtain⟨h1,h2,h3,_⟩:=h.lt;have:=h.keep.size;exact⟨by omega,by omega,by omega,.inr (by omega)⟩
theorem Core.name{files box:List (Nat×List Rc)}(h:Core E (pQ E.bs E.b E.tp k) W files box)(hk:k+1<100)(htp:E.tp.size<1000):
 bb ae 237 #[.pointer (some ⟨E.bs,0,none⟩)] W fun e W'=>e=.returned (.string (rn E.tp (k+1)))∧Core E (E8 E.bs E.b E.tp (k+1)) W' files box∧gT E W W':=by
 obtain⟨⟨D',T',X',F',c',v,⟨hD,hT,hX,wL⟩,hI,⟨z1,z2⟩,hz⟩,hkp,hn,hl⟩:=id h;obtain⟨l,h1,h2⟩:=gq.LQ hT;refine(Qv h2 hk htp).mono ?_;rintro e W' ⟨rfl,hS,hK⟩;refine⟨rfl,Core.make (Dc _ _ _ _) (hD.keep hK fun k h h2=>z1 k h2 h) ⟨l,by omega,hS⟩ (hX.keep hK fun k h h2=>(z2 k h).2 h2) hI z1 z2 (fun k h=>(hz k h).2) (hkp.trans hK fun k h=>(hz k (.inr (.inl h))).2.2.2.2) (fun j k h=>hK.cell (hn j k h) fun h=>(hz _ (.inr (.inl h))).2.1 rfl) ⟨aa hl.1 hK.size,aa hl.2.1 hK.size,aa hl.2.2.1 hK.size,hl.2.2.2⟩,
  gT.of hK (fun k _ h=>hz k (.inr (.inl h))) ⟨hl.2.1,hl.2.2.1⟩⟩
theorem Core.made{files box:List (Nat×List Rc)}(h:Core E (E8 E.bs E.b E.tp k) W files box)(hk:k<1000)(lU:ByteArray):
 ∃n A cp a' cp' w',W.cell? ⟨E.bs,5,none⟩=some (.slice A n cp)∧
  (aE #[86,86] 86 #[.slice A n cp,.slice (some ⟨W.heap.size,0,none⟩) 1 1]).run ae (W.alloc (.cells #[.string lU] 9 (0,0)))=.ok (.slice (some a') (n+1) cp') w'∧
  (∃u,w'.cell? ⟨E.bs,5,none⟩=some u)∧w'.frozen? ⟨E.bs,5,none⟩=false∧Core E (pQ E.bs E.b E.tp k) (w'.setCell ⟨E.bs,5,none⟩ (.slice (some a') (n+1) cp')) files box∧gT E W (w'.setCell ⟨E.bs,5,none⟩ (.slice (some a') (n+1) cp')):=by
 obtain⟨⟨D',T',X',F',c',v,⟨hD,hT,hX,wL⟩,hI,⟨z1,z2⟩,hz⟩,hkp,hn,hl⟩:=id h;obtain⟨l,h1,h2⟩:=hT;obtain⟨A,cp,a',cp',w',q1,_,q2,q3,q4,T2,q5,q6⟩:=Zu lU h2 h1 hk;have hK:=q6.1;have rM:=q6.2;have hDl:∀k,D' k->k<W.heap.size:=fun k h=>hD.lt h
 refine⟨l.length,A,cp,a',cp',w',q1,q2,q3,q4,Core.make (lW _ _ _ _) (hD.keep hK fun k h h2=>z1 k h2 h) q5 (hX.keep hK fun k h h2=>(z2 k h).2 h2) hI (fun k h hd=>?_) (fun k h=>⟨(z2 k h).1,fun h2=>?_⟩) (fun k h=>?_) (hkp.trans hK fun k h=>(hz k (.inr (.inl h))).2.2.2.2) (fun j k h=>hK.cell (hn j k h) fun h=>(hz _ (.inr (.inl h))).2.1 rfl) ⟨aa hl.1 hK.size,aa hl.2.1 hK.size,aa hl.2.2.1 hK.size,hl.2.2.2⟩,
  gT.of hK (fun k _ h=>hz k (.inr (.inl h))) ⟨hl.2.1,hl.2.2.1⟩⟩
 .exact(rM k h).elim (fun h=>z1 k h hd) fun h=>by have:=hDl k hd;omega
 .exact(rM k h2).elim (z2 k h).2 fun h2=>by have:=wL k h;omega
 .rcases h with h|h|h
  .exact(hz k (.inl h)).2
  .rcases rM k h with h|hh
   .exact(hz k (.inr (.inl h))).2
   .refine⟨?_,?_,?_,?_⟩<;>have:=hl.1<;>have:=hl.2.1<;>have:=hl.2.2.1<;>have:=hkp.size
    .omega
    .omega
    .omega
    .exact .inr (by omega)
  .exact(hz k (.inr (.inr h))).2
theorem Core.merge{c0:Nat}{part rest box:List (Nat×List Rc)}(h:Core E (pQ E.bs E.b E.tp k) W (part++rest) box)(hN:iY E.tp E.F)(hc0:rF E.F c0)(hk:k<100)(hk1:1<=k)(hks:∀p∈part++rest,1<=p.1∧p.1<k)(hfull:∀p∈part++rest,p.2≠[])(hwf:∀p∈part,∀x∈p.2,Wf x)(hpn:∀j p,part[j]? =some p->E.ks[on+j]? =some p.1)(hn:part.length=n)(hall:((part++rest).flatMap (·.2)).length<=49)(hroom:c0+4*((part++rest).flatMap (·.2)).length+2<=E.room)(hc:c0<90000)(Xf:n<1000):
 bb ae 238 #[.pointer (some ⟨E.bs,0,none⟩),.slice (some ⟨E.gn,on,none⟩) n cn,.string (rn E.tp k)] W fun e W'=>e=.returned (.int .i64 0)∧∃zs,zs.Perm (part.flatMap (·.2))∧Core E (pQ E.bs E.b E.tp k) W' ((part++rest)++[(k,zs)]) box∧gT E W W':=by
 obtain⟨⟨D',T',X',F',c',v,⟨hD,hT,hX,wL⟩,hI,⟨z1,z2⟩,hz⟩,hkp,hnm,hl⟩:=id h;obtain⟨a,cc,l,s1,s2,s3,s4,s5,s6,s7⟩:=id hT;obtain⟨q1,q2⟩:=ru _ hfull;have hFn:=fun p hp=>hN.none p.1 (hks p hp).1 (by have:=(hks p hp).2;omega)
 have hne:∀p∈part++rest,nf E.tp p.1≠nf E.tp k:=fun p hp e=>by
  have:=Iq (by have:=(hks p hp).2;omega) (by omega) e;have:=(hks p hp).2;omega
 have hx:F' (nf E.tp k)=none:=by rw[hI.other _ hne];exact hN.none _ hk1 hk
 have hcc:=hD.cost.unique (qY.cost hc0 _ F' hI hFn);have hsz:=hN.size (j:=k) hk;have hpl:(part.flatMap (·.2)).length<=((part++rest).flatMap (·.2)).length:=by rw[an,ab];omega
 have hNA:qZ W E.tp E.gn on (part.map (·.1)):=fun j i hj=>by
  rw[aw]at hj;cases hp:part[j]? with
  |none=>rw[hp]at hj;cases hj
  |some p=>
   rw[hp]at hj;cases hj;have:=hnm (on+j) p.1 (hpn j p hp);rwa [cX]at this
 have hfs:∀p∈part,F' (nf E.tp p.1)=some (fileOf p.2)∧(rn E.tp p.1).size<=maxLen∧∀x∈p.2,Wf x:=fun p hp=>⟨hI.at_ p (by simp[hp]),by
  have h1:=hN.size (j:=p.1) (by have:=(hks p (by simp[hp])).2;omega);unfold maxLen;omega,hwf p hp⟩
 refine(QG hD s1 (z1 _ s4) hNA hn ⟨hl.1,fun hd=>(hz _ (.inl hd)).2.1 rfl⟩ hfs (by omega) hsz.2 hsz.1 hx (by omega) (by omega) Xf).mono ?_;rintro e W' ⟨rfl,D2,c2,zs,hD2,hp2,hst⟩;have hK:=hst.1;have LW:=hst.2;have iy:=(lW E.bs E.b E.tp k).lt hT;refine⟨rfl,zs,hp2,Core.make (lW _ _ _ _) hD2 (fT.keep hT hK z1) (hX.keep hK fun k h=>(z2 k h).1) (hI.add k zs hne) (fun j h hd=>?_) (fun j h=>⟨fun hd=>?_,(z2 j h).2⟩) (fun j h=>?_) (hkp.trans hK fun k h=>(hz k (.inl h)).2.2.2.2) (fun j k h=>hK.cell (hnm j k h) fun h=>(hz _ (.inl h)).2.1 rfl) ⟨aa hl.1 hK.size,aa hl.2.1 hK.size,aa hl.2.2.1 hK.size,hl.2.2.2⟩,
  gT.of hK (fun k _ h=>hz k (.inl h)) ⟨hl.2.1,hl.2.2.1⟩⟩
 .exact(LW j hd).elim (z1 j h) fun hd=>by have:=iy j h;omega
 .exact(LW j hd).elim (z2 j h).1 fun hd=>by have:=wL j h;omega
 .rcases h with h'|h'|h'
  .exact(LW j h').elim (fun h=>(hz j (.inl h)).2) fun hh=>QK h hh
  .exact(hz j (.inr (.inl h'))).2
  .exact(hz j (.inr (.inr h'))).2
theorem Core.gone{part rest box:List (Nat×List Rc)}(h:Core E (pQ E.bs E.b E.tp k) W (part++rest) box)(hN:iY E.tp E.F)(hk:k<=100)(hks:∀p∈part,1<=p.1∧p.1<k)(hpn:∀j p,part[j]? =some p->E.ks[on+j]? =some p.1)(hn:part.length=n)(Xf:n<1000):
 bb ae 211 #[.pointer (some ⟨E.bs,0,none⟩),.slice (some ⟨E.gn,on,none⟩) n cn] W fun e W'=>e=.returned (.int .i64 0)∧Core E (pQ E.bs E.b E.tp k) W' rest box∧gT E W W':=by
 obtain⟨⟨D',T',X',F',c',v,⟨hD,hT,hX,wL⟩,hI,⟨z1,z2⟩,hz⟩,hkp,hnm,hl⟩:=id h;have hNA:qZ W E.tp E.gn on (part.map (·.1)):=fun j i hj=>by
  rw[aw]at hj;cases hp:part[j]? with
  |none=>rw[hp]at hj;cases hj
  |some p=>
   rw[hp]at hj;cases hj;have:=hnm (on+j) p.1 (hpn j p hp);rwa [cX]at this
 refine(Zk hD hT z1 hI (fun p hp=>hN.none p.1 (hks p hp).1 (by have:=(hks p hp).2;omega)) (fun p hp=>by
  have h1:=hN.size (j:=p.1) (by have:=(hks p hp).2;omega);unfold maxLen;omega) hNA hn ⟨hl.1,fun hd=>(hz _ (.inl hd)).2.1 rfl,fun hd=>(hz _ (.inr (.inl hd))).2.1 rfl⟩ Xf (by omega)).mono ?_
 rintro e W' ⟨rfl,F2,c2,hD2,hI2,hS2,hK⟩;have hh:∀k,jC D' T' k->Zt E.B W k∧E.ok k:=fun k h=>h.elim (fun h=>hz k (.inl h)) fun h=>hz k (.inr (.inl h))
 exact⟨rfl,Core.make (lW _ _ _ _) hD2 hS2 (hX.keep hK fun k h h2=>h2.elim (z2 k h).1 (z2 k h).2) hI2 z1 z2 (fun k h=>(hz k h).2) (hkp.trans hK fun k h=>(hh k h).2.2.2.2) (fun j k h=>hK.cell (hnm j k h) fun h=>(hh _ h).2.1 rfl) ⟨aa hl.1 hK.size,aa hl.2.1 hK.size,aa hl.2.2.1 hK.size,hl.2.2.2⟩,
  gT.of hK (fun k _ h=>hh k h) ⟨hl.2.1,hl.2.2.1⟩⟩
theorem Core.next{P:af->(Nat->Prop)->Prop}(hP:E9 P){files box:List (Nat×List Rc)}(h:Core E P W files box)(p:Nat×List Rc)(hb:box.length<1000):
 ∃A cp a' cp' w',W.cell? ⟨E.b12,0,none⟩=some (.slice A box.length cp)∧
  (aE #[86,86] 86 #[.slice A box.length cp,.slice (some ⟨W.heap.size,0,none⟩) 1 1]).run ae (W.alloc (.cells #[.string (rn E.tp p.1)] 9 (0,0)))=.ok (.slice (some a') (box.length+1) cp') w'∧
  (∃u,w'.cell? ⟨E.b12,0,none⟩=some u)∧w'.frozen? ⟨E.b12,0,none⟩=false∧Core E P (w'.setCell ⟨E.b12,0,none⟩ (.slice (some a') (box.length+1) cp')) files (box++[p])∧gT E W (w'.setCell ⟨E.b12,0,none⟩ (.slice (some a') (box.length+1) cp')):=by
 obtain⟨⟨D',T',X',F',c',v,⟨hD,hT,hX,wL⟩,hI,⟨z1,z2⟩,hz⟩,hkp,hnm,hl⟩:=id h;have ho:W.ownsRow 0 9 1 v (box.map fun p=>rn E.tp p.1).length (strs (box.map fun p=>rn E.tp p.1)):=by rw[bt];exact hX.own
 obtain⟨A,cp,rfl⟩:=aW hX.own;obtain⟨v3,w3,hrun,ho3,hk3,zA,a3,wm,rfl⟩:=kN (rn E.tp p.1) ho (by rw[bt];omega);rw[ab,bt,ca]at ho3;rw[bt]at hrun;obtain⟨g,rfl,_⟩:=dZ ho3;have d12:=hX.st.keep hk3 fun e=>hX.st.own_ne hX.own (by decide) _ e rfl
 have af_:=d12.own_ne ho3 (by decide) g rfl;have q12:(cM (some ⟨g,0,none⟩) (box.length+1) wm).ownBlock≠some E.b12:=fun e=>af_ (by simpa[ao]using e)
 have hK:Keeps X' W (w3.setCell ⟨E.b12,0,none⟩ (.slice (some ⟨g,0,none⟩) (box.length+1) wm)):=(hk3.mono (S':=X') fun k _ h=>hX.xo k h).setCell (a:=⟨E.b12,0,none⟩) (.inl hX.xb) _;have Nh:=(zA g rfl).imp (hX.xo g) id;have iy:=hP.lt hT;have hDl:∀k,D' k->k<W.heap.size:=fun k h=>hD.lt h
 refine⟨A,cp,⟨g,0,none⟩,wm,w3,hX.st.cell 0 rfl,hrun,⟨_,d12.cell 0 rfl⟩,d12.frozen 0,Core.make hP (X':=fun k=>X' k∨k=g) (hD.keep hK fun k h h2=>(z2 k h2).1 h) (hP.keep hT hK fun k h h2=>(z2 k h2).2 h)
  ⟨d12.set 0 _,by rw[ab,ca];simpa using b_ (p:=⟨E.b12,0,none⟩) ho3 (fun e=>q12 e.symm) _,.inl hX.xb,fun k e=>.inr (by simpa[ao]using e.symm)⟩ hI z1 (fun k h=>?_) (fun k h=>?_) (hkp.trans hK fun k h=>(hz k (.inr (.inr h))).2.2.2.2) (fun j k h=>hK.cell (hnm j k h) fun h=>(hz _ (.inr (.inr h))).2.1 rfl) ⟨aa hl.1 hK.size,aa hl.2.1 hK.size,aa hl.2.2.1 hK.size,hl.2.2.2⟩,
  gT.of hK (fun k _ h=>hz k (.inr (.inr h))) ⟨hl.2.1,hl.2.2.1⟩⟩
 .rcases h with h|rfl
  .exact z2 k h
  .rcases Nh with h|h
   .exact z2 _ h
   .exact⟨fun hh=>by have:=hDl _ hh;omega,fun hh=>by have:=iy _ hh;omega⟩
 .rcases h with h'|h'|h'|rfl
  .exact(hz k (.inl h')).2
  .exact(hz k (.inr (.inl h'))).2
  .exact(hz k (.inr (.inr h'))).2
  .rcases Nh with h'|h'
   .exact(hz _ (.inr (.inr h'))).2
   .exact QK h h'
theorem Df{Fe:Fence}{ops:Array Oper}{rest:List Oper}{o:Oper}{a:Act}(hgd:o.guard=none)(s x:Operand)(t t':dy)(ho:o.op=.call {callee:=.builtin .append,args:= #[s,x],argTypes:= #[t,t']}){u1 u2:ar}(h1:a.eval s=u1)(h2:a.eval x=u2)(hr:(aE #[t,t'] o.type #[u1,u2]).run P w=.ok v w')(h:wpListIn Fe n P ops Q rest (a.put o.dst v) w'):wpListIn Fe n P ops Q (o::rest) a w:=by
 refine wpListIn_plain hgd fun K hK=>?_
 unfold Oper.wpIn;refine⟨?_,?_⟩
 .simp[Oper.about,ho,resolve,Target.leads,eQ]
 .rw[Oper.semAt_plain Fe _ _ (by rw[ho];intro c hc';cases hc')];simp only[execOp,ho,resolve,invoke,builtin,cD,eQ,Result.andThen_ok,List.map_toArray,dj,List.map_nil,h1,h2,hr];exact hK _ _ h
theorem Iy{p p':Tmp}{ty':dy}(h:fn.results= #[.cell p ty,.cell p' ty'])(tmps:Array ar)(w:af)(g g':Nat)(x x':ar)(hp:tmps.getD p undef=.pointer (some ⟨g,0,none⟩))(hg:w.cell? ⟨g,0,none⟩=some x)(hp':tmps.getD p' undef=.pointer (some ⟨g',0,none⟩))(hg':w.cell? ⟨g',0,none⟩=some x')(hu:∃k,P.underlying ty=some (.int k))(hu':∃k,P.underlying ty'=some (.int k)):
 (results fn tmps).run P w=.ok (.tuple #[x,x']) w:=by
 have h1:tmps[p]?.getD undef=.pointer (some ⟨g,0,none⟩):=by simpa using hp
 have h2:tmps[p']?.getD undef=.pointer (some ⟨g',0,none⟩):=by simpa using hp'
 have hl:∀(t:dy) (b:Nat) (y:ar),(∃k,P.underlying t=some (.int k))->w.cell? ⟨b,0,none⟩=some y->(loadVar t ⟨b,0,none⟩).run P w=.ok y w:=fun t b y ⟨k,hk⟩ hy=>by
  have hagg:(isAgg t).run P w=.ok false w:=by
   unfold isAgg;rw[cD,run_underlying hk w];simp
  simp[loadVar,cD,hagg,hy]
 simp[results,h,h1,h2,asAddr,hl _ _ _ hu hg,hl _ _ _ hu' hg']
def Marks(w:af)(ds:List dv):Prop:=∀d∈ds,∃D,d.target=.collected D∧w.heap[D]? =some (.deferred (some []))
theorem uH{fn:Func}{tmps:Array ar}{R:eW->af->Prop}{n:Nat}{P:Program}:∀(ds:List dv) (w:af),Marks w ds->(ds.map (·.target)).Nodup->
 (∀w',Keeps (fun k=>∃d∈ds,d.target=.collected k) w w'->∃v,(results fn tmps).run P w'=.ok v w'∧R (.returned v) w')->LeavesInM Fence.wide n P fn tmps R ds .returning w
 | [],w,_,_,hR=>by
  obtain⟨v,h1,h2⟩:=hR w (Keeps.refl _ w);exact⟨v,h1,h2⟩
 |d::ds,w,hm,hnd,hR=>by
  obtain⟨D,hd,hD⟩:=hm d (by simp);have hDl:=(ag.1 hD).1;have hne:∀e∈ds,e.target≠.collected D:=fun e he h=>by
   rw[dj,a_,hd]at hnd;exact hnd.1 (h▸cz he)
  refine⟨by simp,.inl ⟨D,_,hd,run_takeDeferred hD,uH ds _ (fun e he=>?_) (a_.1 hnd).2 fun w' hk=>hR w' ?_⟩⟩
  .obtain⟨D2,h1,h2⟩:=hm e (by simp[he]);exact⟨D2,h1,(cW (fun hh=>hne e he (by rw[h1,hh]))).trans h2⟩
  .have k1:Keeps (fun k=>∃e∈d::ds,e.target=.collected k) w (w.putObj D (.deferred none)):=⟨rfl,rfl,rfl,by simp,fun k hk hs=>cW (fun hh=>hs ⟨d,by simp,by rw[hd,hh]⟩)⟩
   exact k1.trans hk fun k hk=>by
    obtain⟨e,he,h⟩:=hk;exact .inl ⟨e,by simp[he],h⟩
theorem E_:∀n<50,∀b<20,(bH.f 20 (n:Nat) ((b+1:Nat):Int) 4).isSome=true:=by decide+kernel
def QM(fn:Func)(R:eW->af->Prop):Exit->Act->af->Prop
 | .normal,a,w| .ret,a,w=>LeavesInM Fence.wide 9 ae fn a.tmps R a.defers .returning w
 |_,_,_=>False
theorem QL{R:eW->af->Prop}:∀e a w,QM fn R e a w->bodyPostM Fence.wide 9 ae fn R e a w
 | .normal,_,_,h=>h
 | .ret,_,_,h=>h
 | .panic _,_,_,h=>h.elim
 | .outgrown,_,_,h=>h.elim
def UZ(w:af)(D T R:Nat->Prop)(b room:Nat)(F:Files)(out:ByteArray)(l:List Rc)(e:eW)(w':af):Prop:=
 ∃p,e=.returned (.tuple #[.int .i64 p,.int .i64 0])∧∃D' c' zs,aV w' D' b room (upd F (nm out) (some (fileOf zs))) c'∧zs.Perm l∧Keeps (fun k=>D k∨T k∨R k) w w'∧∀k,D' k->(D k∨T k∨R k)∨w.heap.size<=k
def Fa(W1 W:af)(Z:Nat->Prop)(bs b room:Nat)(tp:ByteArray)(F:Files)(l:List Rc)(n:Nat)(v:ar)(ds:List dv):Prop:=
 ∃(D' T' X':Nat->Prop) (F':Files) (c':Nat) (rs:List (Nat×List Rc)) (nx:Nat),(aV W D' b room F' c'∧fU W T' bs b tp nx∧(W.ownsRow 0 9 1 v rs.length (strs (rs.map fun p=>rn tp p.1))∧∀k,v.ownBlock=some k->X' k))∧qY (nf tp) F F' rs∧
  ((∀k,T' k->¬D' k)∧∀k,X' k->¬D' k∧¬T' k)∧(∀k,D' k∨T' k∨X' k->Zt W1.heap.size W k∧(Z k∨W1.heap.size<=k))∧Keeps Z W1 W∧((∀p∈rs,1<=p.1∧p.1<=nx)∧(∀p∈rs,p.2≠[])∧(rs.flatMap (·.2)).Perm l∧nx+rs.length<=98∧rs.length=n)∧
  (Marks W ds∧(ds.map (·.target)).Nodup∧∀d∈ds,∀D,d.target=.collected D->W1.heap.size<=D)
theorem aV.blt(h:aV w D b room F c):b<w.heap.size:=by
 obtain⟨m,L,g,v,s,G,R,_⟩:=h;exact R.lt _ R.db
theorem fU.shrink(h:fU w T bs b tp k):∃T0,fU w T0 bs b tp k∧(∀k,T0 k->T k)∧∀k,T0 k->uG w k:=by
 by_cases hk:0<k
 .obtain⟨T0,h1,h2,h3⟩:=(lW bs b tp k).shrink (h.2 hk);exact⟨T0,fU.LQ h1,h2,h3⟩
 .obtain⟨⟨l,h1,h2⟩,_⟩:=h;obtain⟨T0,⟨l0,q1,q2⟩,h4,h5⟩:=(Dc bs b tp k).shrink (T:=T) (w:=w)|>fun _=>(by
   obtain⟨v,a2,a3,a4,a5,a6⟩:=h2;exact⟨fun j=>j=bs∨v.ownBlock=some j,⟨l,h1,v,a2,a3,.inl rfl,fun j e=>.inr e,fun j hj=>by
    rcases hj with rfl|hj
    .exact a6 _ a4
    .exact a6 _ (a5 _ hj)⟩,fun j hj=>by
    rcases hj with rfl|hj
    .exact a4
    .exact a5 _ hj,fun j hj=>by
    rcases hj with rfl|hj
    .exact a2.QJ
    .exact oC a3 hj⟩:∃T0,(∃l:List ByteArray,l.length<=k∧gq w T0 bs b tp k l)∧(∀k,T0 k->T k)∧∀k,T0 k->uG w k)
  exact⟨T0,⟨⟨l0,q1,q2⟩,fun h=>absurd h hk⟩,h4,h5⟩
theorem Fa.start{w2:af}{R:Nat->Prop}{l:List Rc}(h:Zr W1 w2 D T R bs b room tp F l v)(hl:l.length<=49)(hb:b<W1.heap.size):∃n,Fa W1 w2 (fun k=>D k∨T k∨R k) bs b room tp F l n v []:=by
 obtain⟨D',T',X',F',c',rs,hD,hS,⟨hv,LJ⟩,hI,⟨z1,z2⟩,⟨hk,f1,f2,f3⟩,hkeys,hfull,hp⟩:=h;obtain⟨D0,d1,d2,d3⟩:=hD.shrink;obtain⟨T0,t1,t2,t3⟩:=hS.shrink;have hlen:=(ru rs hfull).1;have:=hp.length_eq;refine⟨rs.length,D0,T0,fun k=>v.ownBlock=some k,F',c',rs,rs.length,⟨d1,t1,hv,fun k e=>e⟩,hI,⟨fun k h h2=>z1 k (t2 k h) (d2 k h2),fun k h=>⟨fun h2=>(z2 k (LJ k h)).1 (d2 k h2),fun h2=>(z2 k (LJ k h)).2 (t2 k h2)⟩⟩,fun k h=>?_,hk,⟨fun p hp=>?_,hfull,hp,by omega,rfl⟩,fun d h=>(by cases h),eo,fun d h=>(by cases h)⟩
 .rcases h with h|h|h
  .refine⟨?_,(f1 k (d2 k h)).elim (fun h=>.inl (.inl h)) fun h=>h.elim (fun h=>.inl (.inr (.inl h))) .inr⟩;rcases d3 k h with h|h
   .exact .inl (eN h hb)
   .exact .inr h
  .exact⟨.inr (t3 k h),(f2 k (t2 k h)).elim (fun h=>.inl (.inl h)) fun h=>h.elim (fun h=>.inl (.inr (.inl h))) .inr⟩
  .exact⟨.inr (oC hv h),.inr (f3 k (LJ k h))⟩
 .have h1:p.1∈rs.map (·.1):=cz hp;rw[hkeys,dt]at h1;omega
variable {ds:List dv}
theorem Fa.still{Z:Nat->Prop}{l:List Rc}(h:Fa W1 W Z bs b room tp F l n v ds)(hk:Keeps (fun _=>False) W W'):Fa W1 W' Z bs b room tp F l n v ds:=by
 obtain⟨D',T',X',F',c',rs,nx,⟨hD,hS,hv,LJ⟩,hI,hz,hc,hK,hr,hm,hd⟩:=h;have at0:∀k o,W.heap[k]? =some o->W'.heap[k]? =some o:=fun k o h=>(hk.at_ (ag.1 h).1 id).trans h
 refine⟨D',T',X',F',c',rs,nx,⟨hD.keep hk fun _ _=>id,hS.keep hk fun _ _=>id,hk.own hv fun _ _=>id,LJ⟩,hI,hz,fun k h=>⟨?_,(hc k h).2⟩,hK.trans hk fun _ h=>h.elim,hr,fun d h=>?_,hd⟩
 .rcases(hc k h).1 with h1|⟨cs,t,fr,h1⟩
  .exact .inl h1
  .exact .inr ⟨cs,t,fr,at0 _ _ h1⟩
 .obtain⟨D,h1,h2⟩:=hm d h;exact⟨D,h1,at0 _ _ h2⟩
theorem Iz{t:Nat}{x:ar}(h:St w g t [x]):Keeps (fun _=>False) w (w.setCell ⟨g,0,none⟩ x):=by
 have h1:=h.set 0 x;refine⟨rfl,rfl,rfl,by simp,fun k hk _=>?_⟩;by_cases e:k=g
 .subst e;exact(show(w.setCell ⟨k,0,none⟩ x).heap[k]? =_ from h1).trans (show w.heap[k]? =_ from h).symm
 .exact Below.heap_setCell _ _ _ _ e
theorem Core.perm{E:Env}{P:af->(Nat->Prop)->Prop}{W:af}{files files' box:List (Nat×List Rc)}(h:Core E P W files box)(hp:files.Perm files'):Core E P W files' box:=by
 obtain⟨⟨D',T',X',F',c',v,hD,hI,hz⟩,hk,hn,hl⟩:=h;exact⟨⟨D',T',X',F',c',v,hD,hI.perm hp,hz⟩,hk,hn,hl⟩
structure IB (tp:ByteArray) (rs:List (Nat×List Rc)) (m nx:Nat):Prop where
 ge:rs.length<=4*m
 lt:4*m<rs.length+4
 key:∀p∈rs,1<=p.1∧p.1<=nx
 full:∀p∈rs,p.2≠[]
 mR:rs.Pairwise fun p q=>nf tp p.1≠nf tp q.1
 top:nx+m<=98
theorem vD(rs:List (Nat×List Rc))(j:Nat):(fH rs j).length=sG.part rs.length j:=by simp[fH,sG.part]
theorem Bp(rs:List (Nat×List Rc))(x j:Nat)(p:Nat×List Rc)(h:(fH rs x)[j]? =some p):j<4∧rs[4*x+j]? =some p:=by
 unfold fH at h;rw[cF]at h
 split at h
 .rw[List.getElem?_drop]at h;exact⟨by assumption,h⟩
 .cases h
theorem rz{x:Nat}{p:Nat×List Rc}(h:p∈fH rs x):p∈rs:=List.mem_of_mem_drop (List.mem_of_mem_take h)
theorem Fb{pre:List (Fin m)}{p:Nat×List Rc}(h:p∈left rs m pre):∃j:Fin m,j∉pre∧p∈fH rs j.1:=by
 unfold left at h;rw[List.mem_flatMap]at h;obtain⟨j,hj,h⟩:=h;rw[eh]at hj;exact⟨j,by simpa using hj.2,h⟩
def mJ(E:Env)(rs:List (Nat×List Rc))(m nx:Nat)(l:List Rc)(ds:List dv)(pre:List (Fin m))(W:af):Prop:=
 ∃outs,Core E (pQ E.bs E.b E.tp (nx+pre.length)) W (left rs m pre++outs) outs∧outs.length=pre.length∧(∀p∈outs,nx<p.1∧p.1<=nx+pre.length∧p.2≠[])∧((left rs m pre++outs).flatMap (·.2)).Perm l∧Marks W ds
theorem Marks.step(h:Marks W ds)(hd:∀d∈ds,∀D,d.target=.collected D->E.B<=D)(hs:gT E W W'):Marks W' ds:=fun d hd'=>by
 obtain⟨D,h1,h2⟩:=h d hd';exact⟨D,h1,hs.1.same _ _ (hd d hd' D h1) h2 rfl⟩
theorem mJ.files{E:Env}{nx:Nat}{pre:List (Fin m)}(x:Fin m)(hx:x∉pre):(left rs m pre++outs).Perm (fH rs x.1++(left rs m (pre++[x])++outs)):=by
 rw[<-ba];exact(left_step rs pre x hx).append_right _
theorem mJ.fin{l:List Rc}{pre:List (Fin m)}{x:Fin m}(hR:IB E.tp rs m nx)(hx:x∉pre)(ho:outs.length=pre.length)(hp:∀p∈outs,nx<p.1∧p.1<=nx+pre.length∧p.2≠[])(hl:((left rs m pre++outs).flatMap (·.2)).Perm l)(hz:zs.Perm ((fH rs x.1).flatMap (·.2)))(hc:Core E (pQ E.bs E.b E.tp (nx+pre.length+1)) W ((left rs m (pre++[x])++outs)++[(nx+pre.length+1,zs)]) (outs++[(nx+pre.length+1,zs)]))(hm:Marks W ds):mJ E rs m nx l ds (pre++[x]) W:=by
 have e:nx+(pre++[x]).length=nx+pre.length+1:=by simp;omega
 refine⟨outs++[(nx+pre.length+1,zs)],by rw[e,<-ba];exact hc,by simp[ho],fun p hp'=>?_,?_,hm⟩
 .rw[e];rcases cx.1 hp' with hp'|hp'
  .obtain⟨h1,h2,h3⟩:=hp p hp';exact⟨h1,by omega,h3⟩
  .obtain rfl:p=(nx+pre.length+1,zs):=by simpa using hp'
   refine⟨by omega,cN _,fun e0=>?_⟩;have e0:zs=[]:=e0;have h1:=hz.length_eq;rw[e0]at h1;have h2:=(ru (fH rs x.1) fun q hq=>hR.full q (rz hq)).1;rw[vD]at h2;have:=hR.lt;have:=x.2;simp only[dT]at h1;unfold sG.part at h2;omega
 .refine bk ?_ hl;have h1:=(mJ.files (E:=E) (nx:=nx) (rs:=rs) (outs:=outs) x hx).flatMap_right (·.2);refine bk ?_ h1.symm;rw[an,an,an,an,da];have h2:(outs.flatMap (·.2)++zs).Perm (zs++outs.flatMap (·.2)):=cd;refine(aq _ h2).trans ?_;rw[<-ba,<-ba];exact(cd.trans (hz.append_right _)).append_right _
end Go.Proofs.YtlhhcnknclnlaaaGreatDoor.Top
