/- Parts of the proof. -/
import Derived.Test.YtlhhcnknclnlaaaGreatDoorS01
import Derived.Test.YtlhhcnknclnlaaaGreatDoorS02
import Derived.Test.YtlhhcnknclnlaaaGreatDoorS04
import Derived.Test.YtlhhcnknclnlaaaGreatDoorS05
import Derived.Test.YtlhhcnknclnlaaaGreatDoorS09
set_option linter.all false
set_option maxRecDepth 100000
set_option maxHeartbeats 16000000
open Classical renaming byContradiction->aa
open List renaming getElem?_eq_getElem->ab,getElem?_eq_some_iff->af,mem_of_getElem?->al,length_append->ao,getD_eq_getElem?_getD->aq,getElem?_append_right->ax,getElem?_append_left->aE,filterMap_cons->a_,length_map->ba,filterMap_nil->bb,getElem?_cons_succ->bj,getElem?_cons_zero->bk,getElem?_map->bt,eq_nil_of_length_eq_zero->bz,flatten_cons->cd,append_assoc->cm,length_tail->cy,getElem?_set_self->cz,take_of_length_le->cA,map_append->cC,mem_append->cD,mem_append_right->cE,getElem?_of_mem->cG,pairwise_append->cI,length_pos_iff->cJ,map_cons->cM,getElem?_tail->cN,pairwise_cons->cU,take_add_one->cY,mem_flatten->c_,append_nil->da,map_set->dj
open Go.Proofs.Tryz renaming prog->ae,underlying355->ca,underlying22->cx,ntmps225->de,ntmps249->df,func225->dg,func249->di,t46->dp
open Array renaming getElem?_eq_some_iff->ag
open Nat renaming lt_of_lt_of_le->ai,le_trans->aw,lt_or_ge->az,le_refl->cq,sub_self->cX,zero_le->dq
open Go renaming World->an,Value->cF,Calls->cW,Addr->dd
open Go.Value renaming ownBlock->ar,int->dr
open Go.Act renaming eval->cH
open Go.Proofs.Tryz
namespace Go.Proofs.YtlhhcnknclnlaaaGreatDoor.Top
open Go Go.WideShapes Go.RowKit Go.Proofs.YtlhhcnknclnlaaaGreatDoor.iH Go.Proofs.YtlhhcnknclnlaaaGreatDoor.Oct Go.Proofs.ah.aN Go.Proofs.ah.bA
def ev(e:Ed):List cF:=[.int .u32 (e.a:Nat),.int .u32 (e.b:Nat),.int .u32 (e.c:Nat)]
def Nt(l:List Ed):List cF:=(l.map ev).flatten
theorem Vk:ae.info? 46=some dp:=rfl
theorem Vl:dp.zero=some (.agg #[.int .u32 0,.int .u32 0,.int .u32 0]):=rfl
theorem Me{w:an}{base:Nat}{v:cF}{l:List Ed}(e:Ed)(ho:w.ownsRow base 46 3 v l.length (Nt l))(hb:base<=w.heap.size)(hl:l.length<1000000):
 ∃v' w',(Builtin.append_ #[25,25] 25 #[v,.slice (some ⟨w.heap.size,0,none⟩) 1 1]).run ae (w.alloc (.cells #[.int .u32 (e.a:Nat),.int .u32 (e.b:Nat),.int .u32 (e.c:Nat)] 46 (0,0)))=.ok v' w'∧
  w'.ownsRow base 46 3 v' (l++[e]).length (Nt (l++[e]))∧Keeps (fun k=>v.ownBlock=some k) w w'∧∀k,v'.ownBlock=some k->v.ownBlock=some k∨w.heap.size<=k:=by
 have hnew:=St.new w 46 #[.int .u32 (e.a:Nat),.int .u32 (e.b:Nat),.int .u32 (e.c:Nat)];obtain⟨v',w',h1,h2,h3,h4⟩:=iB (P:=ae) (w.alloc (.cells #[.int .u32 (e.a:Nat),.int .u32 (e.b:Nat),.int .u32 (e.c:Nat)] 46 (0,0))) base 25 25 46 dp _ 3 12 underlying25 Vk Vl rfl rfl rfl (by decide) v l.length (Nt l) (ho.alloc _)
  ⟨w.heap.size,0,none⟩ 1 1 (ev e) rfl (fun j u hj=>by
   match j,hj with
   |0,hj=>cases hj;simp[Addr.add]
   |1,hj=>cases hj;simp[Addr.add]
   |2,hj=>cases hj;simp[Addr.add]) (fun u hu=>by simp[ev]at hu;rcases hu with rfl|rfl|rfl<;>rfl) (by unfold maxLen;omega) (by omega) (by simp;omega)
 have h2':w'.ownsRow base 46 3 v' (l++[e]).length (Nt (l++[e])):=by simpa[Nt]using h2
 exact⟨v',w',h1,h2',((Keeps.refl _ w).alloc _).grown h3 fun m e=>.inl e,fun k hk=>(h4 k hk).imp id fun h=>by simp at h;omega⟩
theorem Bw:∀(R:List (List Ed)) (i:Nat) (y:Ed) (r:List Ed),R[i]? =some (y::r)->(y::(R.set i r).flatten).Perm R.flatten
 | [],i,y,r,h=>by cases h
 |s::R,0,y,r,h=>by
  obtain rfl:s=y::r:=by simpa using h
  simp
 |s::R,i+1,y,r,h=>by
  have ih:=Bw R i y r (by simpa using h);simp only[List.set_cons_succ,cd];exact(List.perm_middle.symm).trans (ih.append_left s)
def jP(w0 w wr:an)(D:Nat->Prop)(b bs:Nat)(sp:SP)(room c:Nat)(F:Files)(lab:Nat->Nat)(bg:Bool)(at_:Nat)(ends:List Int)(cs:List (Nat×Nat))(R:List (List Ed))(en:Nat)(g:Nat->Bool)(k:Nat)(v:cF)(R':List (List Ed)):Prop:=
 ∃lab' out,lH w0 wr D b bs sp room c F lab' bg at_ ends cs g R'∧wr.ownsRow w.heap.size 46 3 v out.length (Nt out)∧(∀j,v.ownBlock=some j->lab' j=0)∧(out++R'.flatten).Perm R.flatten∧
  (∀i r,i<k->R'[i]? =some r->∀e∈r.head?,en<=e.a)∧Keeps (Chg lab) w wr∧(∀j,j<w.heap.size->lab j=0->lab' j=0)∧(fun k=>lab' k=3)=fun k=>lab k=3
section
variable {w0 w wr:an} {D:Nat->Prop} {b bs:Nat} {sp:SP} {room c:Nat} {F:Files} {lab:Nat->Nat} {bg:Bool} {at_:Nat} {ends:List Int} {cs:List (Nat×Nat)} {R R':List (List Ed)} {en k:Nat} {g:Nat->Bool} {v:cF}
theorem jP.moves(h:jP w0 w wr D b bs sp room c F lab bg at_ ends cs R en g k v R'){i:Nat}{x:Nat×Nat}{r:List Ed}(hx:cs[i]? =some x)(hr:R'[i]? =some r)(hg:g i=false)(hl:R.flatten.length<=49):
 cW ae 262 #[Ptr x.1] wr fun e w'=>e=.returned (.int .i64 0)∧jP w0 w w' D b bs sp room c F lab bg at_ ends cs R en (upd g i true) k v R':=by
 obtain⟨lab',out,h1,h2,h3,h4,h5,h6,h7,h8⟩:=h;have hrl:=(List.sublist_flatten_of_mem (al hr)).length_le;have hpl:=h4.length_eq;rw[ao]at hpl;refine(h1.moves hx hr hg (by omega)).mono ?_;rintro e w' ⟨rfl,Da,p1,p2,p3,p4⟩;have hsz:=h6.size;refine⟨rfl,Da,out,p1,p2.own h2 fun j e hh=>hh.1 (h3 j e),fun j e=>p3 j (bJ h2 j e) (h3 j e),h4,h5,h6.trans p2 fun j hh=>?_,fun j hj h0=>p3 j (by omega) (h7 j hj h0),p4.trans h8⟩;refine aa fun hc=>?_
 by_cases e3:lab j=3
 .exact hh.2 ((congrFun h8 j).mpr e3)
 .exact hh.1 (h7 j (by omega) (aa fun h0=>hc (.inl ⟨h0,e3⟩)))
theorem jP.app(h:jP w0 w wr D b bs sp room c F lab bg at_ ends cs R en g k v R'){i:Nat}{x:Nat×Nat}{e:Ed}{r:List Ed}(hx:cs[i]? =some x)(hr:R'[i]? =some (e::r))(hg:g i=true)(hik:k<=i)(hl:R.flatten.length<=49)(hw:w0.heap.size<=w.heap.size):
 ∃A n cp v' w',v=.slice A n cp∧(Builtin.append_ #[25,25] 25 #[.slice A n cp,.slice (some ⟨wr.heap.size,0,none⟩) 1 1]).run ae (wr.alloc (.cells #[.int .u32 (e.a:Nat),.int .u32 (e.b:Nat),.int .u32 (e.c:Nat)] 46 (0,0)))=.ok v' w'∧
  jP w0 w w' D b bs sp room c F lab bg at_ ends cs R en (upd g i false) k v' (R'.set i r):=by
 obtain⟨lab',out,h1,h2,h3,h4,h5,h6,h7,h8⟩:=h;have hpl:=h4.length_eq;rw[ao]at hpl;obtain⟨v',w',hrun,o',k',n'⟩:=Me e h2 h6.size (by omega);obtain⟨A,cp,rfl⟩:=aW h2;have hsz:=h6.size;refine⟨A,_,cp,v',w',rfl,hrun,lab',out++[e],(h1.take hx hr hg).rP k' (fun j hj hh=>hj (h3 j hh)) (fun j hh=>by have:=gB h2 j hh;omega),o',fun j hj=>(n' j hj).elim (h3 j) fun hh=>aa fun hc=>by have:=h1.bd j hc;omega,?_,fun j s hj hs=>?_,h6.trans k' fun j hh=>.inr (gB h2 j hh),h7,h8⟩
 .refine List.Perm.trans ?_ h4;rw[cm];exact List.Perm.append_left _ (Bw R' i e r hr)
 .rw[List.getElem?_set_ne (by omega)]at hs;exact h5 j s hj hs
end
section
variable {w0 w wr:an} {D:Nat->Prop} {b bs:Nat} {sp:SP} {room c:Nat} {F:Files} {lab:Nat->Nat} {bg:Bool} {at_:Nat} {ends:List Int} {cs:List (Nat×Nat)} {R R':List (List Ed)} {en k:Nat} {g:Nat->Bool} {v:cF}
variable {bc br gL i:Nat}{x:Nat×Nat}
theorem lH.ptr(h:lH w0 wr D b bs sp room c F lab bg at_ ends cs g R)(hL:sp.L=some ⟨gL,0,none⟩)(hx:cs[i]? =some x):wr.cell? ⟨gL,i,none⟩=some (Ptr x.1):=by
 obtain⟨es',-,s2,-⟩:=h.st;rw[hL]at s2;obtain⟨g',e',hc,-⟩:=dZ s2;injection e' with e';subst e';exact hc i _ (by rw[bt,hx];rfl)
theorem lH.slots(h:lH w0 wr D b bs sp room c F lab bg at_ ends cs g R):wr.cell? ⟨bs,0,none⟩=some (.slice sp.L cs.length sp.cl)∧wr.cell? ⟨bs,4,none⟩=some (.bool bg)∧wr.frozen? ⟨bs,4,none⟩=false:=by
 obtain⟨es',s1,-⟩:=h.st;exact⟨s1.cell 0 rfl,s1.cell 4 rfl,s1.frozen 4⟩
variable {T:Nat->Prop}
theorem lM.Fv(h:lM wr T b bc br []):wr.cell? ⟨bc,4,none⟩=some (.bool false):=by
 obtain⟨x,y,z,h⟩:=h;exact h.cell 4 rfl
variable {r:List Ed}
theorem lM.Bz{e:Ed}(h:lM wr T b bc br (e::r)):wr.cell? ⟨bc,4,none⟩=some (.bool true)∧wr.cell? ⟨bc,1,none⟩=some (.int .u32 (e.a:Nat))∧wr.cell? ⟨bc,2,none⟩=some (.int .u32 (e.b:Nat))∧wr.cell? ⟨bc,3,none⟩=some (.int .u32 (e.c:Nat)):=
 ⟨h.1.cell 4 rfl,h.1.cell 1 rfl,h.1.cell 2 rfl,h.1.cell 3 rfl⟩
theorem jP.cells(h:jP w0 w wr D b bs sp room c F lab bg at_ ends cs R en g k v R')(hL:sp.L=some ⟨gL,0,none⟩)(hx:cs[i]? =some x):wr.cell? ⟨gL,i,none⟩=some (Ptr x.1)∧wr.cell? ⟨bs,4,none⟩=some (.bool bg):=by
 obtain⟨lab',out,h1,-⟩:=h;exact⟨h1.ptr hL hx,h1.slots.2.1⟩
theorem jP.ready(h:jP w0 w wr D b bs sp room c F lab bg at_ ends cs R en g k v R')(hx:cs[i]? =some x)(hr:R'[i]? =some r)(hg:g i=true):∃T,lM wr T b x.1 x.2 r∧∀e∈r,e.ok 12:=by
 obtain⟨lab',out,h1,-⟩:=h;exact⟨_,(h1.cur i x r hx hr).2.1 hg,h1.ok r (al hr)⟩
theorem jP.congr{g':Nat->Bool}(h:jP w0 w wr D b bs sp room c F lab bg at_ ends cs R en g k v R')(hg:∀i,i<cs.length->g i=g' i):jP w0 w wr D b bs sp room c F lab bg at_ ends cs R en g' k v R':=by
 obtain⟨lab',out,h1,h2⟩:=h;exact⟨lab',out,h1.congr hg,h2⟩
theorem jP.next(h:jP w0 w wr D b bs sp room c F lab bg at_ ends cs R en g k v R')(hr:R'[k]? =some r)(he:∀e∈r.head?,en<=e.a):jP w0 w wr D b bs sp room c F lab bg at_ ends cs R en g (k+1) v R':=by
 obtain⟨lab',out,h1,h2,h3,h4,h5,h6⟩:=h;refine⟨lab',out,h1,h2,h3,h4,fun i s hi hs=>?_,h6⟩;by_cases e:i=k
 .subst e;rw[hr]at hs;injection hs with hs;subst hs;exact he
 .exact h5 i s (by omega) hs
theorem jP.len(h:jP w0 w wr D b bs sp room c F lab bg at_ ends cs R en g k v R'):R'.length=cs.length∧R'.flatten.length<=R.flatten.length:=by
 obtain⟨lab',out,h1,h2,h3,h4,h5,h6⟩:=h;have:=h4.length_eq;rw[ao]at this;exact⟨h1.len,by omega⟩
theorem jP.slice(h:jP w0 w wr D b bs sp room c F lab bg at_ ends cs R en g k v R'):∃A n cp,v=.slice A n cp:=by
 obtain⟨lab',out,h1,h2,h3,h4,h5,h6⟩:=h;obtain⟨A,cp,e⟩:=aW h2;exact⟨A,_,cp,e⟩
def ZP(w0 w w':an)(D:Nat->Prop)(b bs:Nat)(sp:SP)(room c:Nat)(F:Files)(lab:Nat->Nat)(at_:Nat)(ends:List Int)(cs:List (Nat×Nat))(R:List (List Ed))(en:Nat)(v:cF):Prop:=
 ∃lab' out R',lH w0 w' D b bs sp room c F lab' true at_ ends cs (fun _=>true) R'∧w'.ownsRow w.heap.size 46 3 v out.length (Nt out)∧(∀j,v.ownBlock=some j->lab' j=0)∧(out++R'.flatten).Perm R.flatten∧
  (∀r∈R',∀e∈r.head?,en<=e.a)∧Keeps (Chg lab) w w'∧(∀j,j<w.heap.size->lab j=0->lab' j=0)∧(fun k=>lab' k=3)=fun k=>lab k=3
theorem jP.end_(h:jP w0 w wr D b bs sp room c F lab bg at_ ends cs R en g cs.length v R')(hg:∀i,i<cs.length->g i=true):ZP w0 w (wr.setCell ⟨bs,4,none⟩ (.bool true)) D b bs sp room c F lab at_ ends cs R en v:=by
 obtain⟨lab',out,h1,h2,h3,h4,h5,h6,h7,h8⟩:=h;have hlb:=h1.lbs;have hw0:=h1.fr bs (by omega) (by omega);have hk:Keeps (fun j=>j=bs) wr (wr.setCell ⟨bs,4,none⟩ (.bool true)):=(Keeps.refl (fun j=>j=bs) wr).setCell (a:=⟨bs,4,none⟩) (.inl rfl) _;refine⟨lab',out,R',?_,hk.own h2 fun j e e'=>by have:=h3 j e;subst e';omega,h3,h4,fun r hr=>?_,h6.trans hk fun j e=>?_,h7,h8⟩
 .obtain⟨p1,⟨es',s1,s2,s3,s4,s5,s6,s7⟩,p3,p4,p5,p6,p7,p8,p9,Sv,Sw⟩:=h1.congr (g':=fun _=>true) hg;have hn:∀{j i:Nat},lab' i=j->j≠2->¬i=bs:=fun e h2 e'=>by subst e';omega
  refine⟨p1.keep hk fun k e=>hn e (by decide),⟨es',s1.set 4 _,hk.own s2 fun k e e'=>s1.own_ne s2 (by decide) k e e',s3,(hk.at_ (ag.1 s4).1 fun e=>?_).trans s4,s5,s6,s7⟩,p3,p4,p5,fun i x r hx hr=>?_,p7,fun k hk'=>by simpa using p8 k hk',p9.trans hk fun k e=>.inr (e▸hw0),Sv,Sw⟩
  .unfold St at s1;rw[e,s1]at s4;injection s4 with s4;injection s4 with _ s4;cases s4
  .obtain⟨q1,q2,q3⟩:=p6 i x r hx hr;obtain⟨vs,q⟩:=h1.cst hx;have hne:¬x.1=bs:=fun e=>q.ne s1 (by decide) e
   exact⟨q1,fun e=>(q2 e).keep hk hne fun k e=>hn e (by omega),fun e=>(q3 e).keep hk hne fun k e=>hn e (by omega)⟩
 .obtain⟨i,hi⟩:=cG hr;exact h5 i r (by have:=(af.1 hi).1;rw[h1.len]at this;exact this) hi
 .subst e;refine aa fun hc=>?_
  rcases az j w.heap.size with hh|hh
  .by_cases e3:lab j=3
   .have:=(congrFun h8 j).mpr e3;omega
   .have:=h7 j hh (aa fun h0=>hc (.inl ⟨h0,e3⟩));omega
  .exact hc (.inr hh)
theorem Q0(h:lH w0 w D b bs sp room c F lab bg at_ ends cs (fun _=>bg) R)(hl:R.flatten.length<=49)(hcs:0<cs.length)(hcs2:cs.length<=6)(hen:en<=12)(hw:w0.heap.size<=w.heap.size):
 cW ae 245 #[Ptr bs,.int .i64 (en:Nat)] w fun e w'=>∃v,e=.returned (.tuple #[v,.int .i64 0])∧ZP w0 w w' D b bs sp room c F lab at_ ends cs R en v:=by
 obtain⟨gL,hL⟩:∃gL,sp.L=some ⟨gL,0,none⟩:=by
  obtain⟨es',-,s2,-⟩:=h.st;exact gY s2 hcs
 have c0:=h.slots.1;rw[hL]at c0;have h0:jP w0 w w D b bs sp room c F lab bg at_ ends cs R en (fun i=>bg||decide (i<0)) 0 (.slice none 0 0) R:=
  ⟨lab,[],h.congr fun i _=>by simp,wP _ _ _ _,fun j e=>(by cases e),by simp,fun i r hi=>(by omega),Keeps.refl _ _,fun _ _ e=>e,rfl⟩
 have H0:=Y1 h0;clear h h0;generalize hsn:cs.length=s at*;go_enter func245,ntmps245
 go_wp2_with fail
 go_loopg [4,15] s (fun kq v4 v15 wr=>∃k:Nat,kq+k=s∧v15=.int .i64 (k:Nat)∧aG (∃R',jP w0 w wr D b bs sp room c F lab bg at_ ends cs R en (fun i=>bg||decide (i<k)) k v4 R'))
 case atStart=>exact⟨0,by omega,rfl,⟨_,H0.out⟩⟩
 case round=>
  obtain⟨k,hk,rfl,hA⟩:=hrel;obtain⟨R',hG⟩:=hA.out;by_cases hlt:k<s
  .have hlt':(k:Int)<s:=by omega
   obtain⟨x,hx⟩:∃x,cs[k]? =some x:=⟨_,ab (by omega)⟩
   obtain⟨r,hr⟩:∃r,R'[k]? =some r:=⟨_,ab (by rw[hG.len.1];omega)⟩
   obtain⟨ck,c4⟩:=hG.cells hL hx;obtain⟨A4,n4,cp4,rfl⟩:=hG.slice;have HRR:=Y1 hr;cases bg with
   |true=>
    have HX:=Y1 (hG.congr (g':=fun i=>true||decide (i<k+1)) fun i _=>by simp);clear hG hr hA
    go_wp2_with fail
    go_loopg [4] r.length (fun kq v4 wr2=>∃R2 r2,aG (jP w0 w wr2 D b bs sp room c F lab true at_ ends cs R en (fun i=>true||decide (i<k+1)) k v4 R2∧R2[k]? =some r2∧r2.length=kq))
    case atStart=>exact⟨R',r,HX.out,HRR.out,rfl⟩
    case round=>
     obtain⟨R2,r2,hB⟩:=hrel;obtain⟨hG2,hr2,hrl⟩:=hB.out;obtain⟨T2,hrd,hok⟩:=hG2.ready hx hr2 (by simp);obtain⟨A5,n5,cp5,rfl⟩:=hG2.slice;have hck:=(hG2.cells hL hx).1;cases r2 with
     |nil=>
      have d4:=hrd.Fv;have H5:=Y1 (show ∃R',jP w0 w _ D b bs sp room c F lab true at_ ends cs R en (fun i=>true||decide (i<k+1)) (k+1) _ R' from⟨R2,hG2.next hr2 (by simp)⟩);obtain⟨k1,hk1⟩:∃k1,k1+(k+1)=s:=⟨s-(k+1),by omega⟩
      clear hG2 hr2 hrd hok hB
      go_wp2_with fail
      go_roundg k1
      case measure=>omega
      case rel=>exact⟨k+1,by omega,by simp,H5⟩
     |cons e r3=>
      obtain⟨d4,d1,d2,d3⟩:=hrd.Bz;have hea:=(hok e (by simp)).1;have z3:IntKind.i64.wrap ((e.a:Nat):Int)=(e.a:Nat):=by rw[IntKind.wrap_i64];omega
      by_cases ZQ:e.a<en
      .have Q5:((e.a:Nat):Int)<(en:Nat):=by omega
       obtain⟨A6,n6,Bj,v6,w6,e6,hrun,Dj⟩:=hG2.app hx hr2 (by simp) (cq _) hl hw;injection e6 with e61 e62 e63;subst e61 e62 e63;have ZR:(R2.set k r3)[k]? =some r3:=cz (by rw[hG2.len.1];omega);obtain⟨A7,n7,cp7,rfl⟩:=Dj.slice;have hmv:=Dj.moves hx ZR (upd_same _ _ _) hl;have HRL:=Y2 ZR hrl;clear hG2 hr2 hrd hok hB Dj ZR hrl
       go_wp2_with (at_builtin;refine dh rfl _ _ 25 25 rfl (by simp[cH]) (by simp[cH]) hrun ?_;clear hrun)
       refine hmv.mono ?_;clear hmv;rintro e7 w7 ⟨rfl,Xy⟩;have H7:=Y1 (Xy.congr (g':=fun i=>true||decide (i<k+1)) fun i _=>by
        by_cases hi:i=k
        .subst hi;rw[upd_same];simp
        .rw[aM _ _ hi,aM _ _ hi])
       clear Xy
       go_wp2_with fail
       go_roundg r3.length
       case measure=>have:=HRL.out.2;simp at this;omega
       case rel=>exact⟨_,r3,H7.out,HRL.out.1,rfl⟩
      .have Q5:¬((e.a:Nat):Int)<(en:Nat):=by omega
       have H5:=Y1 (show ∃R',jP w0 w _ D b bs sp room c F lab true at_ ends cs R en (fun i=>true||decide (i<k+1)) (k+1) _ R' from⟨R2,hG2.next hr2 (by simp;omega)⟩);obtain⟨k1,hk1⟩:∃k1,k1+(k+1)=s:=⟨s-(k+1),by omega⟩
       clear hG2 hr2 hrd hok hB
       go_wp2_with fail
       go_roundg k1
       case measure=>omega
       case rel=>exact⟨k+1,by omega,by simp,H5⟩
   |false=>
    have hmv:=hG.moves hx hr (by simp) hl;clear hG hr hA
    go_wp2_with fail
    refine hmv.mono ?_;clear hmv;rintro e1 w2 ⟨rfl,hG⟩;have HX:=Y1 (hG.congr (g':=fun i=>false||decide (i<k+1)) fun i _=>by
     by_cases hi:i=k
     .subst hi;rw[upd_same];simp
     .rw[aM _ _ hi];simp;omega)
    clear hG
    go_wp2_with fail
    go_loopg [4] r.length (fun kq v4 wr2=>∃R2 r2,aG (jP w0 w wr2 D b bs sp room c F lab false at_ ends cs R en (fun i=>false||decide (i<k+1)) k v4 R2∧R2[k]? =some r2∧r2.length=kq))
    case atStart=>exact⟨R',r,HX.out,HRR.out,rfl⟩
    case round=>
     obtain⟨R2,r2,hB⟩:=hrel;obtain⟨hG2,hr2,hrl⟩:=hB.out;obtain⟨T2,hrd,hok⟩:=hG2.ready hx hr2 (by simp);obtain⟨A5,n5,cp5,rfl⟩:=hG2.slice;have hck:=(hG2.cells hL hx).1;cases r2 with
     |nil=>
      have d4:=hrd.Fv;have H5:=Y1 (show ∃R',jP w0 w _ D b bs sp room c F lab false at_ ends cs R en (fun i=>false||decide (i<k+1)) (k+1) _ R' from⟨R2,hG2.next hr2 (by simp)⟩);obtain⟨k1,hk1⟩:∃k1,k1+(k+1)=s:=⟨s-(k+1),by omega⟩
      clear hG2 hr2 hrd hok hB
      go_wp2_with fail
      go_roundg k1
      case measure=>omega
      case rel=>exact⟨k+1,by omega,by simp,H5⟩
     |cons e r3=>
      obtain⟨d4,d1,d2,d3⟩:=hrd.Bz;have hea:=(hok e (by simp)).1;have z3:IntKind.i64.wrap ((e.a:Nat):Int)=(e.a:Nat):=by rw[IntKind.wrap_i64];omega
      by_cases ZQ:e.a<en
      .have Q5:((e.a:Nat):Int)<(en:Nat):=by omega
       obtain⟨A6,n6,Bj,v6,w6,e6,hrun,Dj⟩:=hG2.app hx hr2 (by simp) (cq _) hl hw;injection e6 with e61 e62 e63;subst e61 e62 e63;have ZR:(R2.set k r3)[k]? =some r3:=cz (by rw[hG2.len.1];omega);obtain⟨A7,n7,cp7,rfl⟩:=Dj.slice;have hmv:=Dj.moves hx ZR (upd_same _ _ _) hl;have HRL:=Y2 ZR hrl;clear hG2 hr2 hrd hok hB Dj ZR hrl
       go_wp2_with (at_builtin;refine dh rfl _ _ 25 25 rfl (by simp[cH]) (by simp[cH]) hrun ?_;clear hrun)
       refine hmv.mono ?_;clear hmv;rintro e7 w7 ⟨rfl,Xy⟩;have H7:=Y1 (Xy.congr (g':=fun i=>false||decide (i<k+1)) fun i _=>by
        by_cases hi:i=k
        .subst hi;rw[upd_same];simp
        .rw[aM _ _ hi,aM _ _ hi])
       clear Xy
       go_wp2_with fail
       go_roundg r3.length
       case measure=>have:=HRL.out.2;simp at this;omega
       case rel=>exact⟨_,r3,H7.out,HRL.out.1,rfl⟩
      .have Q5:¬((e.a:Nat):Int)<(en:Nat):=by omega
       have H5:=Y1 (show ∃R',jP w0 w _ D b bs sp room c F lab false at_ ends cs R en (fun i=>false||decide (i<k+1)) (k+1) _ R' from⟨R2,hG2.next hr2 (by simp;omega)⟩);obtain⟨k1,hk1⟩:∃k1,k1+(k+1)=s:=⟨s-(k+1),by omega⟩
       clear hG2 hr2 hrd hok hB
       go_wp2_with fail
       go_roundg k1
       case measure=>omega
       case rel=>exact⟨k+1,by omega,by simp,H5⟩
  .have hks:k=s:=by omega
   have hlt':¬(k:Int)<s:=by omega
   rw[hks,<-hsn]at hG;obtain⟨c0',c4,f4⟩:∃u,wr.cell? ⟨bs,4,none⟩=some u∧wr.frozen? ⟨bs,4,none⟩=false:=by
    obtain⟨lab',out,h1,-⟩:=hG;exact⟨_,h1.slots.2⟩
   have HE:=Y1 (hG.end_ (fun i hi=>by simp;omega));obtain⟨A4,n4,cp4,rfl⟩:=hG.slice;clear hG hA
   go_wp2_with fail
   refine bodyPost_ret (results_tmp2 rfl _ _ _) rfl ⟨_,rfl,HE.out⟩
end
theorem Fw{w:an}{x y t t':Nat}{vs:List cF}{es:Array cF}(h:St w x t vs)(h':w.heap[y]? =some (.cells es t' (0,0)))(hn:t≠t'):y≠x:=fun e=>by
 subst e;unfold St at h;rw[h]at h';injection h' with h';injection h' with _ h';exact hn h'
section
variable {w0 wr w1:an} {D:Nat->Prop} {b bs:Nat} {sp:SP} {room c:Nat} {F:Files} {lab:Nat->Nat} {bg:Bool} {at_:Nat} {ends:List Int} {cs:List (Nat×Nat)} {R:List (List Ed)} {g:Nat->Bool}
theorem lH.reader(h:lH w0 wr D b bs sp room c F lab bg at_ ends cs g R){T:Nat->Prop}(hD:aV w1 (fun k=>lab k=1) b room F c)(hst:Stp (fun k=>lab k=1) (fun k=>lab k=1) wr w1)(hT:∀k,T k->wr.heap.size<=k)(iy:∀k,T k->k<w1.heap.size):
 lH w0 w1 D b bs sp room c F (dR lab (cs.length+4) T) bg at_ ends cs g R∧(fun k=>dR lab (cs.length+4) T k=cs.length+4)=T:=by
 have hS:∀k,T k->lab k=cs.length+4∨lab k=0:=fun k hk=>.inr (aa fun h3=>by have:=h.bd k h3;have:=hT k hk;omega)
 have ej:=fun j (h1:j≠0) (h2:j≠cs.length+4)=>eY (lab:=lab) hS h1 h2
 have Sm:=fun j h1 h2 k hh=>(congrFun (ej j h1 h2) k).mpr hh
 refine⟨?_,fC (by omega)⟩;have hk:=hst.1;obtain⟨h1,⟨es',s1,s2,s3,s4,s5,s6,s7⟩,h3,h4,h5,h6,h7,h8,h9,h10,h11⟩:=h;refine⟨?_,⟨es',s1.keep hk (by omega),hk.own s2 fun k e=>?_,fun a e=>Sm 2 (by decide) (by omega) _ (s3 a e),(hk.at_ (ag.1 s4).1 (by omega)).trans s4,Sm 2 (by decide) (by omega) _ s5,s6,s7⟩,Sm 2 (by decide) (by omega) _ h3,h4,h5,fun j y s hy hs=>?_,h7,fun k hk'=>?_,h9.trans hk fun k hh=>h10 k hh,fun k hh=>?_,fun k hh1 hh2=>?_⟩
 .rw[ej 1 (by decide) (by omega)];exact hD
 .obtain⟨a,ha⟩:∃a,sp.L=some a:=by
   cases hL:sp.L with
   |none=>rw[hL]at e;cases e
   |some a=>exact⟨a,rfl⟩
  rw[ha]at e;have e:a.block=k:=by simpa[ar]using e
  subst e;have:=s3 a ha;omega
 .have hj:=(af.1 hy).1;obtain⟨p1,p2,p3⟩:=h6 j y s hy hs;rw[ej (j+4) (by omega) (by omega)];exact⟨Sm 2 (by decide) (by omega) _ p1,fun e=>(p2 e).keep hk (by omega) fun k e=>by omega,fun e=>(p3 e).keep hk (by omega) fun k e=>by omega⟩
 .rcases dU hk' with⟨h1,_⟩|⟨h1,_⟩
  .exact iy k h1
  .exact ai (h8 k h1) hk.size
 .exact h10 k ((congrFun (ej 1 (by decide) (by omega)) k).mp hh)
 .rcases dU hh1 with⟨h3,_⟩|⟨h3,h4⟩
  .have:=hT k h3;have:=h9.size;omega
  .exact h11 k h3 (by rw[<-h4];exact hh2)
theorem lH.add(h:lH w0 w1 D b bs sp room c F lab bg at_ ends cs g R){br:Nat}{s:ByteArray}{r:List Ed}(hg:g cs.length=false)(hR:Reader w1 (fun k=>lab k=cs.length+4) br b s (r.map pk) false)(hs:s.size<=maxLen)(hx:F (nm s)=some (fileOf (r.map pk)))(hok:∀e∈r,e.ok 12)(hl:cs.length<1000):
 ∃a' cp' w3,(Builtin.append_ #[343,343] 343 #[.slice sp.L cs.length sp.cl,.slice (some ⟨w1.heap.size+1,0,none⟩) 1 1]).run ae ((w1.alloc (.cells #[Ptr br,.int .u32 0,.int .u32 0,.int .u32 0,.bool false] 348 (0,0))).alloc (.cells #[Ptr w1.heap.size] 346 (0,0)))=.ok (.slice (some a') (cs.length+1) cp') w3∧
  (∃u,w3.cell? ⟨bs,0,none⟩=some u)∧w3.frozen? ⟨bs,0,none⟩=false∧
  ∃lab',lH w0 (w3.setCell ⟨bs,0,none⟩ (.slice (some a') (cs.length+1) cp')) D b bs ⟨some a',cp',sp.gE,sp.ce⟩ room c F lab' bg at_ ends (cs++[(w1.heap.size,br)]) g (R++[r]):=by
 obtain⟨w2,hw2⟩:=ex (w1.alloc (.cells #[Ptr br,.int .u32 0,.int .u32 0,.int .u32 0,.bool false] 348 (0,0)))
 have z2:w2.heap.size=w1.heap.size+1:=by rw[hw2];simp
 have sc:St w2 w1.heap.size 348 (csr br 0 0 0 false):=by rw[hw2];exact St.new _ _ _
 have ka:Keeps (fun _=>False) w1 w2:=by rw[hw2];exact(Keeps.refl _ w1).alloc _
 rw[<-hw2,<-z2];obtain⟨h1,⟨es',s1,s2,s3,s4,s5,s6,s7⟩,h3,h4,h5,h6,h7,h8,h9,h10,h11⟩:=h;have hll:(cs.map fun x=>Ptr x.1).length=cs.length:=ba _;have o2:=ka.own s2 fun _ _=>id
 rw[<-hll]at o2;obtain⟨v',w3,hrun,o3,k3,n3,a',cp',rfl⟩:=yX 343 346 Tryz.t346 (.pointer none) 8 underlying343 rfl rfl rfl rfl rfl (by omega) o2 (u:=Ptr w1.heap.size) rfl (by rw[hll];omega);have s12:=s1.keep ka id;rw[show((cs.map fun x=>Ptr x.1)++[Ptr w1.heap.size]).length=cs.length+1 by simp,hll]at o3;rw[hll]at hrun n3 o2;rw[hll]at k3;have s13:=s12.keep k3 fun e=>s12.own_ne o2 (by decide) _ e rfl
 refine⟨a',cp',w3,hrun,⟨_,s13.cell 0 rfl⟩,s13.frozen 0,?_⟩;obtain⟨g3,ha,-⟩:=dZ o3;subst ha;have hP:Keeps (fun k=>k=bs∨ar (.slice sp.L cs.length sp.cl)=some k) w1 (w3.setCell ⟨bs,0,none⟩ (.slice (some ⟨g3,0,none⟩) (cs.length+1) cp')):=
  ((ka.mono fun _ _ h=>h.elim).trans k3 fun k e=>.inl (.inr e)).setCell (a:=⟨bs,0,none⟩) (.inl (.inl rfl)) _
 have k4:Keeps (fun k=>k=bs) w3 (w3.setCell ⟨bs,0,none⟩ (.slice (some ⟨g3,0,none⟩) (cs.length+1) cp')):=(Keeps.refl (fun k=>k=bs) w3).setCell (a:=⟨bs,0,none⟩) (.inl rfl) _;have hown:∀k,ar (.slice sp.L cs.length sp.cl)=some k->lab k=2∧k<w1.heap.size:=fun k e=>by
  obtain⟨a,ha⟩:∃a,sp.L=some a:=by
   cases hL:sp.L with
   |none=>rw[hL]at e;cases e
   |some a=>exact⟨a,rfl⟩
  have e0:=e;rw[ha]at e;have e:a.block=k:=by simpa[ar]using e
  subst e;exact⟨s3 a ha,bJ s2 _ e0⟩
 have hg3:lab g3=2∨(lab g3=0∧w1.heap.size<=g3):=by
  rcases n3 g3 rfl with e|e
  .exact .inl (hown _ e).1
  .exact .inr ⟨aa fun hc=>by have:=h8 _ hc;omega,by omega⟩
 obtain⟨S,hSd⟩:∃S:Nat->Prop,S=fun k=>lab k=2∨k=w1.heap.size∨k=g3:=⟨_,rfl⟩
 have agj:lab w1.heap.size=0:=aa fun hc=>by have:=h8 _ hc;omega
 have hS:∀k,S k->lab k=2∨lab k=0:=fun k hk=>by
  subst hSd;rcases hk with hk|rfl|rfl
  .exact .inl hk
  .exact .inr agj
  .exact hg3.imp id And.left
 have e0:=fC (lab:=lab) (i:=2) (S:=S) (by omega);have e2:=fun k hk=>(congrFun e0 k).mpr hk
 have ej:=fun j (h1:j≠0) (h2:j≠2)=>eY (lab:=lab) hS h1 h2
 have hnP:∀{j k:Nat},lab k=j->j≠2->¬(k=bs∨ar (.slice sp.L cs.length sp.cl)=some k):=fun e hj hh=>by
  rcases hh with hh|hh
  .subst hh;omega
  .have:=(hown _ hh).1;omega
 have hlt:∀(j:Nat) (y:Nat×Nat),cs[j]? =some y->j<cs.length:=fun j y hy=>(af.1 hy).1
 have hst:∀(j:Nat) (y:Nat×Nat) (s:List Ed),cs[j]? =some y->R[j]? =some s->∃vs,St w1 y.1 348 vs:=fun j y s hy hs=>by
  obtain⟨p1,p2,p3⟩:=h6 j y s hy hs;cases hg:g j with
  |true=>
   have q:=p2 hg;cases s with
   |nil=>obtain⟨_,_,_,q⟩:=q;exact⟨_,q⟩
   |cons e s=>exact⟨_,q.1⟩
  |false=>
   obtain⟨_,_,_,_,_,_,q,_⟩:=p3 hg;exact⟨_,q⟩
 have sc4:=
  (sc.keep k3 fun e=>by have:=(hown _ e).2;omega).keep k4 fun e=>by have:=s1.lt;omega
 have s14:=s13.set 0 (.slice (some ⟨g3,0,none⟩) (cs.length+1) cp');refine⟨dR lab 2 S,?_,⟨es',by simpa using s14,?_,fun a e=>?_,?_,e2 _ (by subst hSd;exact .inl s5),s6,s7⟩,e2 _ (by subst hSd;exact .inl h3),?_,by simp[h5],fun j y t hy ht=>?_,fun t ht=>?_,fun k hk=>?_,h9.trans hP fun k hk=>?_,fun k hk=>?_,fun k hk1 hk2=>?_⟩
 .rw[ej 1 (by decide) (by decide)];exact h1.keep hP fun k e=>hnP e (by decide)
 .have:=k4.own o3 fun k e e'=>s13.own_ne o3 (by decide) k e e'
  simpa using this
 .injection e with e;subst e;exact e2 _ (by subst hSd;exact .inr (.inr rfl))
 .refine(hP.at_ (ag.1 s4).1 fun hh=>?_).trans s4;rcases hh with hh|hh
  .exact Fw s1 s4 (by decide) hh
  .obtain⟨c',hc'⟩:=gG s2 _ hh;rw[hc']at s4;injection s4 with s4;injection s4 with _ s4;cases s4
 .rw[cC,List.nodup_append];refine⟨h4,by simp,fun x hx y hy e=>?_⟩;obtain⟨z,hz,rfl⟩:=List.mem_map.1 hx;simp at hy;obtain⟨j,hj⟩:=cG hz;obtain⟨t,ht⟩:∃t,R[j]? =some t:=⟨_,ab (by rw[h5];exact hlt j z hj)⟩
  obtain⟨vs,q⟩:=hst j z t hj ht;have:=q.lt;omega
 .by_cases hj:j<cs.length
  .rw[aE hj]at hy;rw[aE (by rw[h5];exact hj)]at ht;obtain⟨p1,p2,p3⟩:=h6 j y t hy ht;obtain⟨vs,q⟩:=hst j y t hy ht;have hny:¬(y.1=bs∨ar (.slice sp.L cs.length sp.cl)=some y.1):=fun hh=>by
    rcases hh with hh|hh
    .exact q.ne s1 (by decide) hh
    .exact q.own_ne s2 (by decide) _ hh rfl
   rw[ej (j+4) (by omega) (by omega)];exact⟨e2 _ (by subst hSd;exact .inl p1),fun e=>(p2 e).keep hP hny fun k e=>hnP e (by omega),fun e=>(p3 e).keep hP hny fun k e=>hnP e (by omega)⟩
  .rw[ax (by omega)]at hy;rw[ax (by omega)]at ht;obtain rfl:j=cs.length:=by
    have:=(af.1 hy).1;simp at this;omega
   rw[cX]at hy;rw[h5,cX]at ht;obtain rfl:(w1.heap.size,br)=y:=by simpa using hy
   obtain rfl:r=t:=by simpa using ht
   rw[ej (cs.length+4) (by omega) (by omega)];exact⟨e2 _ (by subst hSd;exact .inr (.inl rfl)),fun e=>(by rw[hg]at e;cases e),fun _=>⟨s,false,0,0,0,false,sc4,hR.keep hP fun k e=>hnP e (by omega),hs,fun _=>hx⟩⟩
 .rcases cD.1 ht with ht|ht
  .exact h7 t ht
  .simp at ht;subst ht;exact hok
 .rcases dU hk with⟨hk,_⟩|⟨hk,_⟩
  .subst hSd;rcases hk with hk|rfl|rfl
   .exact ai (h8 _ (by omega)) hP.size
   .exact sc4.lt
   .have:=bJ o3 _ rfl;simpa using this
  .exact ai (h8 _ hk) hP.size
 .rcases hk with hk|hk
  .subst hk;exact .inr (h11 _ (by omega) (by omega))
  .have:=(hown _ hk).1;exact .inr (h11 _ (by omega) (by omega))
 .exact h10 k ((congrFun (ej 1 (by decide) (by decide)) k).mp hk)
 .rcases dU hk1 with⟨hk,_⟩|⟨hk,hk'⟩
  .have:=h9.size;subst hSd;rcases hk with hk|rfl|rfl
   .exact h11 _ (by omega) (by omega)
   .exact this
   .rcases hg3 with hh|hh
    .exact h11 _ (by omega) (by omega)
    .omega
  .exact h11 k hk (by rw[<-hk'];exact hk2)
end
variable {D:Nat->Prop}{F:Files}{b c room:Nat}{w:an}
theorem lH.start{w3:an}{bs gE ce:Nat}{ends:List Int}{es':Array cF}(hD:aV w3 D b room F c)(hk:Keeps D w w3)(hDl:∀k,D k->k<w.heap.size)(hs:St w3 bs 345 [.slice none 0 0,.slice (some ⟨gE,1,none⟩) ends.length ce,.int .i64 0,.int .i64 0,.bool false])(hE:w3.heap[gE]? =some (.cells es' 3 (0,0)))(hbs:w.heap.size<=bs)(hgE:w.heap.size<=gE)(hce:ends.length<=ce)(he:∀(i:Nat) (x:Int),ends[i]? =some x->es'[i+1]? =some (.int .i64 x)):
 ∃lab,lH w w3 D b bs ⟨none,0,gE,ce⟩ room c F lab false 0 ends [] (fun _=>false) []:=by
 obtain⟨l1,hl1⟩:=ex (dR (fun _=>0) 1 D)
 have a1:(fun k=>l1 k=1)=D:=by rw[hl1];exact fC (by decide)
 have a0:∀k,w.heap.size<=k->l1 k=0:=fun k hk=>by rw[hl1];exact iL rfl fun h=>by have:=hDl k h;omega
 have aD:∀k,l1 k≠0->D k∧l1 k=1:=fun k h=>by
  rw[hl1]at h⊢;rcases dU h with⟨h1,h2⟩|⟨h1,_⟩
  .exact⟨h1,h2⟩
  .exact absurd rfl h1
 obtain⟨S,hSd⟩:∃S:Nat->Prop,S=fun k=>k=bs∨k=gE:=⟨_,rfl⟩
 have hS:∀k,S k->l1 k=2∨l1 k=0:=fun k hk=>by
  subst hSd;rcases hk with rfl|rfl
  .exact .inr (a0 _ hbs)
  .exact .inr (a0 _ hgE)
 have e0:=fC (lab:=l1) (i:=2) (S:=S) (by omega);have e1:=eY (lab:=l1) (i:=2) (j:=1) hS (by decide) (by decide);have e2:=fun k hk=>(congrFun e0 k).mpr hk
 refine⟨dR l1 2 S,?_,⟨es',by simpa using hs,wP _ _ _ _,fun a e=>(by cases e),hE,e2 _ (by subst hSd;exact .inr rfl),hce,he⟩,e2 _ (by subst hSd;exact .inl rfl),by simp,rfl,fun i x r hx=>by simp at hx,fun r hr=>(by cases hr),fun k hk'=>?_,hk,fun k hk'=>?_,fun k h1 h2=>?_⟩
 .rw[e1,a1];exact hD
 .rcases dU hk' with⟨h,_⟩|⟨h,_⟩
  .subst hSd;rcases h with rfl|rfl
   .exact hs.lt
   .exact(ag.1 hE).1
  .exact hD.lt (aD k h).1
 .exact .inl ((congrFun a1 k).mp ((congrFun e1 k).mp hk'))
 .rcases dU h1 with⟨h,_⟩|⟨h,h'⟩
  .subst hSd;rcases h with rfl|rfl
   .exact hbs
   .exact hgE
  .exact absurd (h'.trans (aD k h).2) h2
theorem agk(ad:dd)(len cap:Nat)(x:Int)(h0:0<=x)(h1:x<=len)(W:an):(Instr.slice 44 (.slice (some ad) len cap) (some (.int .i64 x)) none none).run ae W=.ok (sliced (some ad) x.toNat len cap 1) W:=by
 rw[run_slice_l W 44 (some ad) len cap (by kernel_rfl) .i64 x h0 h1,show(sizeOf (ae.elem 44)).run ae W=.ok 1 W by kernel_rfl];rfl
theorem IK{n s:Nat}{Rs:List (List Ed)}(hD:aV w D b room F c)(hn:n<=12)(hs:1<=s)(hs2:s<=6)(hR:Rs.length=s)(hF:∀i r,Rs[i]? =some r->F (nm (sn i))=some (fileOf (r.map pk)))(hok:∀r∈Rs,∀e∈r,e.ok 12):
 cW ae 224 #[.pointer (some ⟨b,0,none⟩),.int .i64 (n:Nat),.int .i64 (s:Nat)] w fun e w'=>∃bs sp lab ends cs,e=.returned (.tuple #[Ptr bs,.int .i64 0])∧lH w w' D b bs sp room c F lab false 0 ends cs (fun _=>false) Rs∧cs.length=s∧ends.length=s∧ends[s-1]? =some ((n:Nat):Int)∧∀x∈ends,0<=x∧x<=12:=by
 obtain⟨l,hl1,hl2,hl3,hbw⟩:=uJ w hn hs hs2;have HW:=Y6 hD hF hok hl1 hl2 hl3;clear hD hF hok hl1 hl2 hl3;go_enter func224,ntmps224
 go_wp2_with fail
 refine hbw.mono ?_;clear hbw;rintro e w2 ⟨v2,rfl,hR2,hb2⟩;obtain⟨hD,hF,hok,hl1,hl2,hl3⟩:=HW.out;obtain⟨A,ce,rfl⟩:=Kd.dV hR2;have ho:=Kd.jQ hR2;obtain⟨gE,rfl⟩:=gY ho (by omega);have hcap:=mM ho;obtain⟨es',hes,ads⟩:∃es':Array cF,w2.heap[gE]? =some (.cells es' 3 (0,0))∧∀(i:Nat) (x:Int),l[i]? =some x->es'[i]? =some (dr .i64 x):=by
  rcases ho.2 with⟨h,h0⟩|⟨g,cap,cur,h,h1,h2,h3,h4,h5,h6⟩
  .omega
  .injection h with h;injection h with h;injection h with h;subst h;refine⟨cur,h2,fun i x hx=>?_⟩;have:(nums .i64 l)[i]? =some (dr .i64 x):=by unfold nums;rw[bt,hx];rfl
   rw[show nums .i64 l=_ from h6.symm]at this;rw[List.getElem?_take]at this
   split at this
   .simpa using this
   .cases this
 have adt:=gB ho gE rfl;have hsl:=fun W=>agk ⟨gE,0,none⟩ l.length ce 1 (by omega) (by omega) W
 have hvv:sliced (some ⟨gE,0,none⟩) (1:Int).toNat l.length ce 1=.slice (some ⟨gE,1,none⟩) l.tail.length (ce-1):=by
  unfold sliced;rw[if_neg (by show ¬ce=1;omega),cy];rfl
 rw[hvv]at hsl;have h3:=lH.start (w:=w) (w3:=w2.alloc (.cells #[.slice none 0 0,.slice (some ⟨gE,1,none⟩) l.tail.length (ce-1),.int .i64 0,.int .i64 0,.bool false] 345 (0,0))) (bs:=w2.heap.size) (ends:=l.tail) (ce:=ce-1) (hD.keep ((Keeps.of_below (S:=fun _=>False) hb2).alloc _) fun _ _=>id) ((Keeps.of_below (S:=D) hb2).alloc _) (fun k h=>hD.lt h) (St.new _ _ _) ((Below.heap_alloc _ _ _ (ag.1 hes).1).trans hes) hb2.size adt (by rw[cy];omega) (fun i x hx=>ads (i+1) x (by rw[cN]at hx;exact hx));have H3:=Y1 h3;have HE:=Y1 (show l.tail.length=s∧l.tail[s-1]? =some ((n:Nat):Int)∧∀x∈l.tail,0<=x∧x<=12 from⟨by rw[cy];omega,by rw[cN,show s-1+1=s by omega];exact hl2,fun x hx=>hl3 x (List.mem_of_mem_tail hx)⟩);clear hD hF hok hl1 hl2 hl3 hR2 hb2 ho hes ads adt hvv h3;generalize l.tail=ends at*
 go_wp2_with fail
 generalize w2.heap.size=bs at*
 go_loopg [28] s (fun kq v28 wr=>∃k:Nat,kq+k=s∧v28=.int .i64 (k:Nat)∧aG (∃sp lab cs,lH w wr D b bs sp room c F lab false 0 ends cs (fun _=>false) (Rs.take k)∧cs.length=k))
 case atStart=>
  obtain⟨lab,h⟩:=H3.out;exact⟨0,by omega,rfl,⟨_,lab,[],h,rfl⟩⟩
 case round=>
  obtain⟨k,hk,rfl,hA⟩:=hrel;obtain⟨sp,lab,cs,hS,hcl⟩:=hA.out;by_cases hlt:k<s
  .have hlt':(k:Int)<s:=by omega
   obtain⟨r,hr⟩:∃r,Rs[k]? =some r:=⟨_,ab (by omega)⟩
   have R_:=HW.out.2.1 k r hr;have hokr:=HW.out.2.2.1 r (al hr);have htk:Rs.take (k+1)=Rs.take k++[r]:=by rw[cY,hr];rfl
   have hsz:(sn k).size<=maxLen:=by have:=(Dh (i:=k) (by omega)).2;unfold maxLen;omega
   have hnr:=ng (l:=r.map pk) hS.disk (sn k) hsz R_;have HS:=Y5 hS hcl R_ hokr htk;clear hS hcl hr R_ hokr htk hA
   go_wp2_with fail
   refine(J_ _ k (by omega)).mono ?_;rintro e w5 ⟨rfl,rfl⟩
   go_wp2_with fail
   refine hnr.mono ?_;clear hnr;rintro e w6 ⟨br,T,rfl,hD6,hR6,wN,Vm⟩;obtain⟨hS,hcl,R_,hokr,htk⟩:=HS.out;obtain⟨p1,p2⟩:=hS.reader hD6 wN (fun k h=>(Vm k h).1) hR6.lt;obtain⟨a',cp',w7,hrun,hc0,hf0,lab',hS7⟩:=p1.add rfl (br:=br) (s:=sn k) (r:=r) (by rw[p2];exact hR6) hsz R_ hokr (by omega);have d0:=p1.slots.1;obtain⟨u0,hc0⟩:=hc0;rw[hcl]at hrun d0 hS7;rw[<-htk]at hS7;obtain⟨k1,hk1⟩:∃k1,k1+(k+1)=s:=⟨s-(k+1),by omega⟩
   have H7:=Y1 (show ∃sp lab cs,lH w (w7.setCell ⟨bs,0,none⟩ (.slice (some a') (k+1) cp')) D b bs sp room c F lab false 0 ends cs (fun _=>false) (Rs.take (k+1))∧cs.length=k+1 from⟨_,lab',_,hS7,by simp[hcl]⟩);clear hS hcl R_ hokr htk p1 p2 hS7 hD6 hR6 wN Vm
   go_wp2_with (at_builtin;refine dh rfl _ _ 343 343 rfl (by simp[cH]) (by simp[cH]) hrun ?_;clear hrun)
   go_roundg k1
   case measure=>omega
   case rel=>exact⟨k+1,by omega,by simp,H7⟩
  .have hks:k=s:=by omega
   subst hks;have hlt':¬(k:Int)<k:=by omega
   rw[cA (by omega)]at hS;have HS:=Y2 hS hcl;clear hS hcl hA
   go_wp2_with fail
   refine bodyPost_ret (results_tmp2 rfl _ _ _) rfl ?_;exact⟨bs,rfl,sp,lab,ends,cs,HS.out.1,HS.out.2,HE.out⟩
section
variable {w0 w w':an} {D:Nat->Prop} {b bs:Nat} {sp:SP} {room c:Nat} {F:Files} {lab:Nat->Nat} {bg bg':Bool} {at_ at':Nat} {ends:List Int} {cs:List (Nat×Nat)} {R:List (List Ed)} {g:Nat->Bool}
theorem lH.reset(h:lH w0 w D b bs sp room c F lab bg at_ ends cs g R)(hk:Keeps (fun j=>j=bs) w w')(hs:St w' bs 345 [.slice sp.L cs.length sp.cl,.slice (some ⟨sp.gE,1,none⟩) ends.length sp.ce,.int .i64 (at':Nat),.int .i64 0,.bool bg']):
 lH w0 w' D b bs sp room c F lab bg' at' ends cs g R:=by
 have h1:=h;have hlb:=h.lbs;have hw0:=h.fr bs (by omega) (by omega);obtain⟨p1,⟨es',s1,s2,s3,s4,s5,s6,s7⟩,p3,p4,p5,p6,p7,p8,p9,Sv,Sw⟩:=h;have hn:∀{j i:Nat},lab i=j->j≠2->¬i=bs:=fun e h2 e'=>by subst e';omega
 refine⟨p1.keep hk fun k e=>hn e (by decide),⟨es',hs,hk.own s2 fun k e e'=>s1.own_ne s2 (by decide) k e e',s3,(hk.at_ (ag.1 s4).1 (Fw s1 s4 (by decide))).trans s4,s5,s6,s7⟩,p3,p4,p5,fun i x r hx hr=>?_,p7,fun k hk'=>ai (p8 k hk') hk.size,p9.trans hk fun k e=>.inr (e▸hw0),Sv,Sw⟩;obtain⟨q1,q2,q3⟩:=p6 i x r hx hr;obtain⟨vs,q⟩:=h1.cst hx;have hne:¬x.1=bs:=fun e=>q.ne s1 (by decide) e
 exact⟨q1,fun e=>(q2 e).keep hk hne fun k e=>hn e (by omega),fun e=>(q3 e).keep hk hne fun k e=>hn e (by omega)⟩
theorem lH.end_(h:lH w0 w D b bs sp room c F lab bg ends.length ends cs g R):cW ae 225 #[Ptr bs] w fun e w'=>e=.returned (.tuple #[.slice none 0 0,.bool false,.int .i64 0])∧∃n,w'=w.drewN n:=by
 obtain⟨es',s1,-⟩:=h.st;have c1:=s1.cell 1 rfl;have c2:=s1.cell 2 rfl;have c3:=s1.cell 3 rfl;clear h s1;go_enter dg,de
 go_wp2_with fail
 go_quiet (fail)
 go_wp2_with fail
 go_quiet (fail)
 go_wp2_with fail
 exact bodyPost_ret (results_tmp3 rfl _ _ _) rfl ⟨rfl,_,World.drewN_drewN _ _ _⟩
theorem Vn(h:lH w0 w D b bs sp room c F lab bg at_ ends cs (fun _=>bg) R){en:Nat}(hen:ends[at_]? =some ((en:Nat):Int))(ZQ:en<=12)(hl:R.flatten.length<=49)(hcs:0<cs.length)(hcs2:cs.length<=6)(he6:ends.length<=6)(hw:w0.heap.size<=w.heap.size):
 cW ae 225 #[Ptr bs] w fun e w'=>∃v,e=.returned (.tuple #[v,.bool true,.int .i64 0])∧ZP w0 w w' D b bs sp room c F lab (at_+1) ends cs R en v:=by
 have hlt:=(af.1 hen).1;obtain⟨es',s1,-,-,s4,-,s6,s7⟩:=h.st;have c1:=s1.cell 1 rfl;have c2:=s1.cell 2 rfl;have c3:=s1.cell 3 rfl;have ce:w.cell? ⟨sp.gE,1+at_,none⟩=some (.int .i64 (en:Nat)):=by
  have:=s7 at_ _ hen;simp[World.cell?,s4,Nat.add_comm,this]
 have hlt':¬(at_:Int)=(ends.length:Int):=by omega
 have hlt2:(at_:Int)<(ends.length:Int):=by omega
 have HW:=Y1 h;generalize hm:ends.length=m at*;clear h s1 s4 s7;go_enter dg,de
 go_wp2_with fail
 go_quiet (fail)
 go_wp2_with fail
 obtain⟨w1,hw1⟩:=ex (w.drewN nq)
 rw[<-hw1];have k1:Keeps (fun _=>False) w w1:=by rw[hw1];exact(Keeps.refl _ w).drewN nq
 have q0:∀w',Below w1.heap.size w1 w'->w'.cell? ⟨bs,1,none⟩=some (.slice (some ⟨sp.gE,1,none⟩) m sp.ce)∧w'.cell? ⟨bs,2,none⟩=some (.int .i64 (at_:Nat))∧w'.cell? ⟨sp.gE,1+at_,none⟩=some (.int .i64 (en:Nat)):=fun w' h=>⟨(k1.below h).cell c1 id,(k1.below h).cell c2 id,(k1.below h).cell ce id⟩
 have HQ:=Y2 q0 k1;clear q0 k1 hw1 c1 c2 c3 ce;refine gW (Below w1.heap.size w1) 8 [0,1,2,3,4,6,7,8] [5,9,10,11] [12] [13,14,15,16,17,18] [19] (by kernel_rfl) (fun _ _ x _ _ h=>by cases x<;>exact h) ((Below.refl _ w1).drew) (by kernel_rfl) ?_;simp only[aJ,a_,bb,bj,bk]
 repeat (refine aI (fun K hK=>?_);go_simp;refine hK _ ?_;clear hK K)
 refine au ?_;refine ak (fun K hK=>?_);go_simp;refine⟨_,fun w' hw'=>(by rw[(HQ.out.1 w' hw').1];rfl),hK _ ?_⟩;clear hK K;refine ak (fun K hK=>?_);go_simp;refine⟨_,fun w' hw'=>(by rw[(HQ.out.1 w' hw').2.1];rfl),hK _ ?_⟩;clear hK K;refine ak (fun K hK=>?_);go_simp;refine⟨_,fun _ _=>rfl,hK _ ?_⟩;clear hK K;refine ak (fun K hK=>?_);go_simp;refine⟨_,fun w' hw'=>(by rw[(HQ.out.1 w' hw').2.2];rfl),hK _ ?_⟩;clear hK K;refine bD ?_;intro V hb0;have HB0:=Y1 hb0;clear hb0;refine aH (fun K hK=>?_);go_simp;have bV:=HQ.out.2.below HB0.out;refine(Q0 (HW.out.rP bV (fun _ _=>id) fun _ h=>h.elim) hl hcs hcs2 ZQ (aw hw bV.size)).mono ?_;rintro e w4 ⟨v4,rfl,hE⟩;refine hK _ _ trivial ?_;clear hK K;refine aQ ?_;obtain⟨A4,n4,cp4,rfl⟩:∃A n cp,v4=.slice A n cp:=by
  obtain⟨lab',out,R',h1,h2,-⟩:=hE;obtain⟨A,cp,e⟩:=aW h2;exact⟨A,_,cp,e⟩
 have H4:=Y1 hE;clear hE
 repeat (refine aI (fun K hK=>?_);go_simp;refine hK _ ?_;clear hK K)
 refine au ?_;obtain⟨lab',out,R',h1,h2,-⟩:=H4.out;obtain⟨es',s1,-⟩:=h1.st;have c3:=s1.cell 3 rfl;have f3:=s1.frozen 3;have s2:=s1.set 3 (.int .i64 0);have c23:=s2.cell 3 rfl;have K_:=s2.cell 2 rfl;have f22:=s2.frozen 2;clear h1 h2 s1 s2
 go_wp2_with fail
 refine bodyPost_ret (results_tmp3 rfl _ _ _) rfl ⟨_,rfl,?_⟩;clear c3 f3 c23 K_ f22;obtain⟨lab',out,R',h1,h2,h3,h4,h5,h6,h7,h8⟩:=H4.out;obtain⟨es',s1,-⟩:=h1.st;have hlb:=h1.lbs;have k5:Keeps (fun j=>j=bs) w4 ((w4.setCell ⟨bs,3,none⟩ (.int .i64 0)).setCell ⟨bs,2,none⟩ (.int .i64 ((at_:Int)+1))):=((Keeps.refl (fun j=>j=bs) w4).setCell (a:=⟨bs,3,none⟩) (.inl rfl) _).setCell (a:=⟨bs,2,none⟩) (.inl rfl) _;have h1':=h1.reset (at':=at_+1) (bg':=true) k5 (by simpa[hm]using(s1.set 3 (.int .i64 0)).set 2 (.int .i64 ((at_:Int)+1)));refine⟨lab',out,R',h1',k5.own (own_base' h2 bV.size) fun j e e'=>by have:=h3 j e;subst e';omega,h3,h4,h5,((bV.mono fun _ _ h=>h.elim).trans h6 fun j h=>.inl h).trans k5 fun j e=>?_,fun j hj h0=>h7 j (ai hj bV.size) h0,h8⟩;have hbw:=HW.out.lbs;exact .inl (by unfold Chg;rw[e,hbw];decide)
end
structure pG (F' sQ:Files) (j:Nat):Prop where
 gone:∀i,i<j->sQ (nf box (i+1))=none
 other:∀x,(∀i,i<j->x≠nf box (i+1))->sQ x=F' x
theorem pG.nil(F:Files):pG F F 0:=⟨fun _ h=>by omega,fun _ _=>rfl⟩
variable {F F' sQ:Files}
theorem pG.add{j:Nat}(h:pG F' sQ j):pG F' (upd sQ (nf box (j+1)) none) (j+1):=by
 refine⟨fun i hi=>?_,fun x hx=>?_⟩
 .by_cases e:nf box (i+1)=nf box (j+1)
  .rw[e,upd_same]
  .rw[aM _ _ e];exact h.gone i (by
    rcases az i j with h|h
    .exact h
    .obtain rfl:i=j:=by omega
     exact absurd rfl e)
 .rw[aM _ _ (hx j (by omega))];exact h.other x fun i hi=>hx i (by omega)
theorem pG.end_{gI:List (List Rc)}(h:pG F' sQ gI.length)(hF:BF F F' gI)(hl:gI.length<99)(hfree:∀i,1<=i->i<100->F (nf box i)=none):sQ=F:=by
 funext x
 by_cases hx:∃i,i<gI.length∧x=nf box (i+1)
 .obtain⟨i,hi,rfl⟩:=hx;rw[h.gone i hi,hfree _ (by omega) (by omega)]
 .have hx':∀i,i<gI.length->x≠nf box (i+1):=fun i hi e=>hx ⟨i,hi,e⟩
  rw[h.other x hx',hF.other x hx']
variable {A:List Rc}{D T:Nat->Prop}{b bF bx c0 cl cv cw m n room:Nat}{w:an}
theorem Q6(h:wO w D T b bx bF room c0 F A)(hfree:∀i,1<=i->i<100->F (nf box i)=none)(hA:A.length<=40):
 cW ae 196 #[.pointer (some ⟨bx,0,none⟩)] w fun e w'=>e=.returned (.int .i64 0)∧∃c,aV w' D b room F c∧Stp (jC D T) D w w':=by
 obtain⟨⟨M,gI,F',c,hD,⟨m,v,hs,hM,ho,CV,L_,oV,iy⟩,hF,hT,hl,hz,hcc⟩,hsep⟩:=h;have hzl:=uK hz;have c4:=hs.cell 4 rfl;obtain⟨w1,hcl,-,t1⟩:=hM.clear 0;have k1:Keeps (fun j=>j=m) w w1:=(Keeps.refl _ w).turned (.inl rfl) t1;have s1:=hs.keep k1 fun e=>hM.at_.ne hs e.symm
 have o1:=k1.own ho fun j e e2=>hM.at_.own_ne ho j e e2
 have D1:=hD.keep k1 fun j h e=>by subst e;exact hsep _ L_ h
 have hfin:∀sQ,pG F' sQ gI.length->sQ=F:=fun sQ h=>h.end_ hF (by omega) hfree
 have hat:∀k,k<gI.length->∃zk,F' (nf box (k+1))=some (fileOf zk):=fun k hk=>⟨_,hF.at_ k _ (ab hk)⟩
 have qz:∀j,v.ownBlock=some j->j≠bx:=fun j e e2=>s1.own_ne o1 (by decide) j e e2
 have hk0:gI.length<=40:=by omega
 generalize hkz:gI.length=K at*;rw[o9]at o1;obtain⟨A0,cp0,rfl⟩:=aW o1;have H1:=Y8 k1 o1 hfin hat hsep oV qz iy;have H2:=Y1 (show ∃A cp sQ c,aV w1 D b room sQ c∧St w1 bx 316 (Xo b box bF m K (.slice A (K-0) cp))∧(0<K->∃g,A0=some ⟨g,0,none⟩∧A=some ⟨g,0,none⟩∧K-0<=cp)∧pG F' sQ 0∧Keeps (fun k=>D k∨k=bx) w1 w1 from
  ⟨A0,cp0,F',c,D1,s1,fun h0=>by obtain⟨g,e⟩:=gY o1 h0;exact⟨g,e,e,mM o1⟩,pG.nil _,Keeps.refl _ _⟩)
 clear hD hs hM ho hF hT hz hsep oV t1 k1 s1 o1 D1 hfin hat qz hkz iy;go_enter func196,ntmps196
 go_wp2_with fail
 go_loopg [3] K (fun kq v3 wr=>∃j:Nat,kq+j=K∧aG (∃A cp sQ c,aV wr D b room sQ c∧St wr bx 316 (Xo b box bF m K (.slice A (K-j) cp))∧(j<K->∃g,A0=some ⟨g,0,none⟩∧A=some ⟨g,j,none⟩∧K-j<=cp)∧pG F' sQ j∧Keeps (fun k=>D k∨k=bx) w1 wr))
 case atStart=>exact⟨0,by omega,H2⟩
 case round=>
  obtain⟨j,hj,hA2⟩:=hrel;obtain⟨A,cp,sQ,c'',pU,hsr,hAr,hG,hk⟩:=hA2.out;have c5:=hsr.cell 5 rfl;have c0':=hsr.cell 0 rfl;by_cases hlt:j<K
  .obtain⟨g,hg,rfl,hcp⟩:=hAr hlt;obtain⟨n,hn⟩:∃n,K-j=n+1:=⟨K-j-1,by omega⟩
   rw[hn]at hsr c5 hcp;obtain⟨k1,o1,hfin,hat,hsep,oV,qz,iy⟩:=H1.out;have or:=hk.own o1 fun i e h=>h.elim (hsep i (oV i e)) (qz i e)
   subst hg;obtain⟨g',e',hcells,-⟩:=dZ or;injection e' with e';subst e';have cf:=hcells j _ (QZ hlt);have hpos:(0:Int)<((n+1:Nat):Int):=by omega
   obtain⟨zk,ZN⟩:=hat j hlt;have hx:sQ (nf box (j+1))=some (fileOf zk):=by
    rw[hG.other _ fun i hi e=>by have:=o_ (by omega) (by omega) e;omega];exact ZN
   have Fx:=hsep _ CV;have HR:=Y7 pU hsr hG hk hx hcp Fx;obtain⟨n1,hn1⟩:=ex (n+1)
   rw[<-hn1]at c5 hpos hcp;have hnn:=Y2 hn1 hn;clear pU hG hk hsr k1 hfin hat hsep iy o1 oV qz or hcells hA2 hAr ZN hx Fx hn1 hn
   go_wp2_with fail
   refine dG [] [0,1,2,3,4,5,6,7,8,9] [10,11] (by kernel_rfl) (fun _ _ x _ _ h=>by cases x<;>exact h) (by kernel_rfl) ?_;simp only[aJ,a_,bb,bj,bk];refine au ?_
   repeat quiet_step (fail)
   refine wpQuiet_nil ?_;rintro _ ⟨nq,rfl⟩;obtain⟨pU,hsr,hG,hk,hx,ZT,Fx⟩:=HR.out;have hrm:=qI (pU.keep (S:=fun _=>False) ((Keeps.refl _ wr).drewN nq) fun _ _=>id) (rn box (j+1)) (by have:=(yV (k:=j+1) (by omega)).2;unfold maxLen;omega) hx;clear pU hsr hG hk hx ZT Fx
   go_wp2_with fail
   refine hrm.mono ?_;clear hrm;rintro e w4 ⟨rfl,hD4,kC⟩;obtain⟨pU,hsr,hG,hk,hx,ZT,Fx⟩:=HR.out;have k4:=((Keeps.refl D wr).drewN nq).trans kC.1 fun _ h=>.inl h
   have s4:=hsr.keep k4 Fx;rw[<-hnn.out.1]at s4;have c54:=s4.cell 5 rfl;have f54:=s4.frozen 5;have hsl:=fun W=>sG.J2 ⟨g,j,none⟩ n1 cp 1 (by omega) (by have:=hnn.out.1;omega) W
   obtain⟨A',hA'⟩:=ex (if cp=1 then some (⟨g,j,none⟩:dd)else some ⟨g,j+1,none⟩)
   obtain⟨n2,hn2⟩:=ex (K-(j+1))
   obtain⟨cp2,hcp2⟩:=ex (cp-1)
   have hvv:sliced (some ⟨g,j,none⟩) 1 n1 cp 1=.slice A' n2 cp2:=by
    unfold sliced;rw[hA',hn2,hcp2,show n1-1=K-(j+1) by have:=hnn.out;omega];rfl
   rw[show(1:Int).toNat=1 from rfl,hvv]at hsl;have s5:St (w4.setCell ⟨bx,5,none⟩ (.slice A' n2 cp2)) bx 316 (Xo b box bF m K (.slice A' n2 cp2)):=s4.set 5 _;have k5:Keeps (fun k=>k=bx) w4 (w4.setCell ⟨bx,5,none⟩ (.slice A' n2 cp2)):=(Keeps.refl (fun k=>k=bx) w4).setCell (a:=⟨bx,5,none⟩) (.inl rfl) _;have H5:=Y1 (show ∃A cp' sQ c,aV (w4.setCell ⟨bx,5,none⟩ (.slice A' n2 cp2)) D b room sQ c∧St (w4.setCell ⟨bx,5,none⟩ (.slice A' n2 cp2)) bx 316 (Xo b box bF m K (.slice A (K-(j+1)) cp'))∧(j+1<K->∃g',some (⟨g,0,none⟩:dd)=some ⟨g',0,none⟩∧A=some ⟨g',j+1,none⟩∧K-(j+1)<=cp')∧pG F' sQ (j+1)∧Keeps (fun k=>D k∨k=bx) w1 (w4.setCell ⟨bx,5,none⟩ (.slice A' n2 cp2))from by
    obtain⟨e1,e2⟩:=hnn.out;refine⟨A',cp2,_,_,hD4.keep k5 fun k h e=>Fx (e▸h),by rw[<-hn2];exact s5,fun h=>⟨g,rfl,?_,by omega⟩,hG.add,(hk.trans (k4.mono fun _ _ h=>Or.inl h) fun _ h=>.inl h).trans k5 fun k e=>.inl (.inr e)⟩;rw[hA',if_neg (by omega)])
   obtain⟨k1,hk1⟩:∃k1,k1+(j+1)=K:=⟨K-(j+1),by omega⟩
   clear pU hsr hG hk hx ZT Fx k4 s4 s5 k5 hD4 kC hvv hA' hn2 hcp2
   go_wp2_with fail
   go_roundg k1
   case measure=>omega
   case rel=>exact⟨j+1,by omega,H5⟩
  .have hjk:j=K:=by omega
   subst hjk;rw[cX]at c5;clear hAr;have HR:=Y3 pU hG hk;clear pU hsr hG hk hA2
   go_wp2_with fail
   go_ret;obtain⟨pU,hG,hk⟩:=HR.out;obtain⟨k1,o1,hfin,hat,hsep,oV,qz,iy⟩:=H1.out;rw[hfin _ hG]at pU;exact⟨rfl,c'',pU,(k1.mono fun k _ e=>Or.inr (e▸L_)).trans hk fun k h=>.inl (h.elim .inl fun e=>.inr (e▸CV)),fun k h=>.inl (.inl h)⟩
def msg(K:Int)(x:Int):Int:=if K=1 then x+1 else x
theorem adu(w:an){K st x o u:Int}(hK:K=1∨K=2)(hx:0<=x)(hx2:x+1<18446744073709551616):
 cW ae 249 #[.agg #[.int .i64 K,.int .u32 st],.int .u64 x,.int .i64 o,.int .u32 u] w fun e w'=>e=.returned (.int .u64 (msg K x))∧Below w.heap.size w w':=by
 have s0:=St.new w 24 #[.int .i64 K,.int .u32 st];have c0:=s0.cell 0 rfl;have HB:=Y1 ((Below.refl _ w).alloc (cq _) (.cells #[.int .i64 K,.int .u32 st] 24 (0,0)));clear s0;rcases hK with rfl|rfl
 .go_enter di,df
  go_wp2_with fail
  refine(acI _ x 1 hx (by decide) hx2).mono ?_;rintro e w1 ⟨rfl,rfl⟩
  go_wp2_with fail
  go_ret;exact⟨rfl,HB.out⟩
 .go_enter di,df
  go_wp2_with fail
  go_ret;exact⟨rfl,HB.out⟩
def qA(w:an)(m q:Nat):Prop:=∃f,eU w 22 m q f∧∀kl v,f kl=some v->∃x:Int,v=.int .i64 x
theorem Dk:Maps.Keyed ae 22:=Maps.int_keyed cx
theorem Xz(w:an):(zeroValue 3).run ae w=.ok (.int .i64 0) w:=by kernel_rfl
theorem qA.keep{S:Nat->Prop}{w w':an}{m q:Nat}(h:qA w m q)(hk:Keeps S w w')(hs:¬S m):qA w' m q:=by
 obtain⟨f,h1,h2⟩:=h;exact⟨f,h1.keep hk hs,h2⟩
theorem qA.lt{w:an}{m q:Nat}(h:qA w m q):m<w.heap.size:=h.choose_spec.1.lt
theorem qA.made(w:an):qA (w.alloc (.map #[] 0)) w.heap.size 0:=⟨_,eU.made w 22,fun _ _ h=>by cases h⟩
theorem qA.look{q:Nat}(h:qA w m q){a:Nat}(ha:a<4294967296):∃x:Int,∀w',w'.heap[m]? =w.heap[m]? ->(Instr.lookup 355 (.map (some m)) (.int .u32 (a:Nat)) false).run ae w'=.ok (.int .i64 x) w':=by
 obtain⟨f,h1,h2⟩:=h;have hkey:keyOf ae 22 (.int .u32 (a:Nat))=some (.int .u32 (a:Nat)):=Maps.keyOf_int_mk cx (WalkArith.wf_u32 (by omega));cases hf:f (.int .u32 (a:Nat))with
 |none=>exact⟨0,fun w' he=>by rw[(h1.move he).look Dk ca (Xz w') hkey,hf];rfl⟩
 |some v=>
  obtain⟨x,rfl⟩:=h2 _ _ hf;exact⟨x,fun w' he=>by rw[(h1.move he).look Dk ca (Xz w') hkey,hf];rfl⟩
theorem qA.store{w:an}{m q:Nat}(h:qA w m q)(hq:q<1000000){a:Nat}(ha:a<4294967296)(x:Int):
 ∃w',(Instr.mapUpdate 355 (.map (some m)) (.int .u32 (a:Nat)) (.int .i64 x)).run ae w=.ok () w'∧qA w' m (q+1)∧w.mapTurned w' m:=by
 obtain⟨f,h1,h2⟩:=h;have hkey:keyOf ae 22 (.int .u32 (a:Nat))=some (.int .u32 (a:Nat)):=Maps.keyOf_int_mk cx (WalkArith.wf_u32 (by omega));obtain⟨w',r1,r2,r3⟩:=h1.store Dk ca (by unfold maxLen;omega) hkey (by trivial) (.int .i64 x);refine⟨w',r1,⟨_,r2,fun kl v hv=>?_⟩,r3⟩;by_cases e:kl=.int .u32 (a:Nat)
 .subst e;rw[upd_same]at hv;injection hv with hv;exact⟨x,hv.symm⟩
 .rw[aM _ _ e]at hv;exact h2 _ _ hv
structure lZ (w:an) (AV AL:Option dd) (n cv cl:Nat) (V:List Int) (L:List Bool):Prop where
 v:w.ownsRow 0 36 1 (.slice AV n cv) n (nums .u64 V)
 l:w.ownsRow 0 4 1 (.slice AL n cl) n (bools L)
variable {AL AV:Option dd}{L:List Bool}{V:List Int}
theorem lZ.keep{S:Nat->Prop}{w':an}(h:lZ w AV AL n cv cl V L)(hk:Keeps S w w')(hS:∀a,AV=some a∨AL=some a->¬S a.block):lZ w' AV AL n cv cl V L:=
 ⟨hk.own h.v fun k e=>by
  cases AV with
  |none=>cases e
  |some a=>injection e with e;exact e▸hS a (.inl rfl),hk.own h.l fun k e=>by
  cases AL with
  |none=>cases e
  |some a=>injection e with e;exact e▸hS a (.inr rfl)⟩
theorem lZ.len(h:lZ w AV AL n cv cl V L):V.length=n∧L.length=n:=by
 have h1:=h.v.1;have h2:=h.l.1;simp[nums,bools]at h1 h2;exact⟨h1,h2⟩
theorem lZ.at_(h:lZ w AV AL n cv cl V L){v:Nat}(hv:v<n):
 ∃gv gl,AV=some ⟨gv,0,none⟩∧AL=some ⟨gl,0,none⟩∧w.cell? ⟨gv,v,none⟩=some (.int .u64 (V.getD v 0))∧w.cell? ⟨gl,v,none⟩=some (.bool (L.getD v false)):=by
 obtain⟨gv,rfl⟩:=gY h.v (by omega);obtain⟨gl,rfl⟩:=gY h.l (by omega);obtain⟨g1,e1,c1,-⟩:=dZ h.v;obtain⟨g2,e2,c2,-⟩:=dZ h.l;injection e1 with e1;injection e2 with e2;subst e1 e2;obtain⟨l1,l2⟩:=h.len;refine⟨_,_,rfl,rfl,c1 v _ ?_,c2 v _ ?_⟩
 .unfold nums;rw[bt,ab (by omega),aq,ab (by omega)];rfl
 .unfold bools;rw[bt,ab (by omega),aq,ab (by omega)];rfl
variable {es:List Ed}
theorem Q7{base:Nat}{A:Option dd}(h:w.ownsRow base 46 3 (.slice A m cw) m (Nt es)){k:Nat}{e:Ed}(he:es[k]? =some e):∃g,A=some ⟨g,0,none⟩∧w.cell? ⟨g,k*3,none⟩=some (.int .u32 (e.a:Nat))∧w.cell? ⟨g,k*3+1,none⟩=some (.int .u32 (e.b:Nat))∧w.cell? ⟨g,k*3+2,none⟩=some (.int .u32 (e.c:Nat)):=by
 have hat:∀(l:List Ed) (i:Nat),l[i]? =some e->∀j u,(ev e)[j]? =some u->(Nt l)[i*3+j]? =some u:=by
  intro l
  induction l with
  |nil=>intro i hi;simp at hi
  |cons x l ih=>
   intro i hi j u hu;cases i with
   |zero=>
    obtain rfl:x=e:=by simpa using hi
    simp only[Nt,cM,cd,Nat.zero_mul,Nat.zero_add];rw[aE (af.1 hu).1];exact hu
   |succ i=>
    have:=ih i (by simpa using hi) j u hu;simp only[Nt,cM,cd]at this⊢;rw[ax (by simp[ev];omega),show(i+1)*3+j-(ev x).length=i*3+j by simp[ev];omega];exact this
 have hl:=h.1;have h0:=hat es k he 0 _ rfl;have hlt:=(af.1 h0).1;obtain⟨g,rfl⟩:=gY h (by omega);obtain⟨g',e',c,-⟩:=dZ h;injection e' with e';subst e';exact⟨g,rfl,c _ _ h0,c _ _ (hat es k he 1 _ rfl),c _ _ (hat es k he 2 _ rfl)⟩
def uL(e:Ed):Nat×Nat:=(e.a,e.b)
theorem Mf(ms:Int->Int)(es:List Ed)(e:Ed)(V:List Int)(L:List Bool):sent ms ((es++[e]).map uL) V L=sent ms (es.map uL) V L++if L.getD e.a false then[((e.b:Int),ms (V.getD e.a 0))]else[]:=by
 rw[cC,vV]
 congr 1
 unfold sent uL;simp only[cM,List.map_nil,a_,bb]
 split<;>simp_all
theorem uM(ms:Int->Int)(E:zH)(V:List Int)(L:List Bool):(sent ms E V L).length<=E.length:=List.length_filterMap_le _ _
theorem wO.keep{S:Nat->Prop}{w w':an}{D T:Nat->Prop}{b bx bF room c0:Nat}{F:Files}{A:List Rc}(h:wO w D T b bx bF room c0 F A)(hk:Keeps S w w')(hS:∀j,D j∨T j->¬S j):wO w' D T b bx bF room c0 F A:=by
 obtain⟨⟨M,gI,F',c,h1,h2,h3⟩,h4⟩:=h;exact⟨⟨M,gI,F',c,h1.keep hk fun j hj=>hS j (.inl hj),h2.keep hk fun j hj=>hS j (.inr hj),h3⟩,h4⟩
theorem Vo{AW:Option dd}{kd st:Int}(h:wO w D T b bx bF room c0 F A)(hw:w.ownsRow 0 46 3 (.slice AW m cw) m (Nt es))(hm:es.length=m)(hc:lZ w AV AL n cv cl V L)(hS:∀a,AV=some a∨AL=some a∨AW=some a->¬D a.block∧¬T a.block)(Vp:∀k,D k∨T k->k<w.heap.size)(hok:∀e∈es,e.ok n)(hn:n<=12)(hkd:kd=1∨kd=2)(hV:∀v,v<n->L.getD v false=true->0<=V.getD v 0∧V.getD v 0+1<18446744073709551616)(hfree:∀i,1<=i->i<100->F (nf box i)=none)(hA:A.length+m<=40)(hb:1<=bF)(hroom:c0+3*40+3<=room)(hc0:c0<90000):
 cW ae 227 #[.pointer (some ⟨bx,0,none⟩),.agg #[.int .i64 kd,.int .u32 st],.agg #[.slice AV n cv,.slice AL n cl],.slice AW m cw] w fun e w'=>e=.returned (.int .i64 0)∧∃D' T',wO w' D' T' b bx bF room c0 F (A++sent (msg kd) (es.map uL) V L)∧Stp (jC D T) (jC D' T') w w'∧∀j,T' j->T j∨w.heap.size<=j:=by
 obtain⟨w1,hw1⟩:∃w1,w1=((w.alloc (.cells #[.int .i64 kd,.int .u32 st] 24 (0,0))).alloc (.cells #[.slice AV n cv,.slice AL n cl] 253 (0,0))).alloc (.map #[] 0):=⟨_,rfl⟩
 have hmm:= @run_makeMap ae;have z4:(kd==4)=false:=by rcases hkd with rfl|rfl<;>rfl
 have HW:=Y9 h hw hm hc hS Vp hok hV hfree;clear h hw hm hc hS Vp hok hV hfree;go_enter func227,ntmps227
 go_wp2_with fail
 rw[<-hw1];have hz:w1.heap.size=w.heap.size+1+1+1:=by rw[hw1];simp
 have ka:Keeps (fun _=>False) w (w.alloc (.cells #[.int .i64 kd,.int .u32 st] 24 (0,0))):=(Keeps.refl _ w).alloc _;have sp:St w1 w.heap.size 24 [.int .i64 kd,.int .u32 st]:=by rw[hw1];exact((St.new _ _ _).alloc _).alloc _
 have sc:St w1 (w.heap.size+1) 253 [.slice AV n cv,.slice AL n cl]:=by
  have:=(St.new (w.alloc (.cells #[.int .i64 kd,.int .u32 st] 24 (0,0))) 253 #[.slice AV n cv,.slice AL n cl]).alloc (.map #[] 0);rw[hw1];simpa using this
 have mi:qA w1 (w.heap.size+1+1) 0:=by
  have:=qA.made ((w.alloc (.cells #[.int .i64 kd,.int .u32 st] 24 (0,0))).alloc (.cells #[.slice AV n cv,.slice AL n cl] 253 (0,0)));rw[hw1];simpa using this
 have k1:Keeps (fun _=>False) w w1:=by rw[hw1];exact(ka.alloc _).alloc _
 have H1:=Y4 k1 sp sc mi;clear hw1 hz ka sp sc mi k1 hmm
 go_loopg [20] m (fun kq v20 wr=>∃k:Nat,kq+k=m∧v20=.int .i64 (k:Nat)∧aG (Keeps (fun _=>False) w wr∧St wr w.heap.size 24 [.int .i64 kd,.int .u32 st]∧St wr (w.heap.size+1) 253 [.slice AV n cv,.slice AL n cl]∧qA wr (w.heap.size+1+1) k))
 case atStart=>exact⟨0,by omega,rfl,H1⟩
 case round=>
  obtain⟨k,hk,rfl,hA2⟩:=hrel;by_cases hlt:k<m
  .have hlt':(k:Int)<m:=by omega
   obtain⟨h,hw,hm,hc,hS,Vp,hok,hV,hfree⟩:=HW.out;obtain⟨k1,sp,sc,mi⟩:=hA2.out;obtain⟨e,he⟩:∃e,es[k]? =some e:=⟨_,ab (by omega)⟩
   obtain⟨ea,eb,ec⟩:=hok e (al he);obtain⟨gw,rfl,g0,g1,g2⟩:=Q7 hw he;have g0:=k1.cell g0 id;have g1:=k1.cell g1 id;have g2:=k1.cell g2 id;obtain⟨x,hlk⟩:=mi.look (a:=e.a) (by omega);have hlk:=hlk (wr.alloc (.cells #[.int .u32 (e.a:Nat),.int .u32 (e.b:Nat),.int .u32 (e.c:Nat)] 46 (0,0))) (Below.heap_alloc _ _ _ mi.lt);have kb:Keeps (fun _=>False) wr (wr.alloc (.cells #[.int .u32 (e.a:Nat),.int .u32 (e.b:Nat),.int .u32 (e.c:Nat)] 46 (0,0))):=(Keeps.refl _ wr).alloc _;have d0:=(St.new wr 46 #[.int .u32 (e.a:Nat),.int .u32 (e.b:Nat),.int .u32 (e.c:Nat)]).cell 0 rfl;obtain⟨w5,hst,mi5,t5⟩:=(mi.keep kb id).store (by omega) (a:=e.a) (by omega) (wrap64 (x+1));have k5:=(kb.mono fun _ _ h=>h.elim).trans ((Keeps.refl (fun j=>j=w.heap.size+1+1) _).turned (.inl rfl) t5) fun j h=>.inl h
   have H5:=Y1 (show Keeps (fun _=>False) w w5∧St w5 w.heap.size 24 [.int .i64 kd,.int .u32 st]∧St w5 (w.heap.size+1) 253 [.slice AV n cv,.slice AL n cl]∧qA w5 (w.heap.size+1+1) (k+1)from
    ⟨k1.trans k5 fun j e=>.inr (by omega),sp.keep k5 (by omega),sc.keep k5 (by omega),mi5⟩)
   obtain⟨k2,hk2⟩:∃k2,k2+(k+1)=m:=⟨m-(k+1),by omega⟩
   clear h hw hm hc hS Vp hok hV hfree k1 sp sc mi he mi5 t5 k5 kb hA2
   go_wp2_with fail
   go_roundg k2
   case measure=>omega
   case rel=>exact⟨k+1,by omega,by simp,H5⟩
  .have hkm:k=m:=by omega
   have hlt':¬(k:Int)<m:=by omega
   obtain⟨k1,sp,sc,mi⟩:=hA2.out;have c0k:=sp.cell 0 rfl;have H2:=Y4 k1 sp sc mi;clear k1 sp sc mi hA2
   go_wp2_with fail
   clear hlt hlt' hkm hk;generalize hwA:wr=wA at*;have H3:=Y1 (show wA.heap.size>=w.heap.size+3∧qA wA (w.heap.size+1+1) k from⟨by have:=H2.out.2.2.2.lt;omega,H2.out.2.2.2⟩);clear hwA
   go_loopg [35] m (fun kq v35 wr=>∃k:Nat,kq+k=m∧v35=.int .i64 (k:Nat)∧aG (∃D' T',wO wr D' T' b bx bF room c0 F (A++sent (msg kd) ((es.take k).map uL) V L)∧Stp (jC D T) (jC D' T') wA wr∧∀j,T' j->T j∨w.heap.size<=j))
   case atStart=>
    refine⟨0,by omega,rfl,⟨D,T,?_,Stp.refl _ _,fun _ h=>.inl h⟩⟩;simpa[sent]using HW.out.1.keep H2.out.1 fun _ _=>id
   case round=>
    obtain⟨j,hj,rfl,hA2⟩:=hrel;obtain⟨D',T',hM,hst,Q8⟩:=hA2.out;obtain⟨h,hw,hm,hc,hS,Vp,hok,hV,hfree⟩:=HW.out;obtain⟨kA,sp,sc,mi⟩:=H2.out;by_cases hlt:j<m
    .have hlt':(j:Int)<m:=by omega
     obtain⟨e,he⟩:∃e,es[j]? =some e:=⟨_,ab (by omega)⟩
     have hoe:=hok e (al he);obtain⟨ea,eb,ec⟩:=hoe;have hnew:∀i,w.heap.size<=i->¬jC D T i:=fun i hi hh=>by have:=Vp i hh;omega
     have sp:=sp.keep hst.1 (hnew _ (by omega));have sc:=sc.keep hst.1 (hnew _ (by omega));have mi:=mi.keep hst.1 (hnew _ (by omega));have cf:=(hc.keep kA fun _ _=>id).keep hst.1 fun a ha hh=>hh.elim (hS a (ha.elim .inl fun h=>.inr (.inl h))).1 (hS a (ha.elim .inl fun h=>.inr (.inl h))).2
     obtain⟨gw,rfl,g0,g1,g2⟩:=Q7 hw he;have hgw:=hS _ (.inr (.inr rfl));have mv:∀{o:Nat} {u:cF},w.cell? ⟨gw,o,none⟩=some u->wr.cell? ⟨gw,o,none⟩=some u:=fun h=>hst.1.cell (kA.cell h id) fun hh=>hh.elim hgw.1 hgw.2
     have g0:=mv g0;have g1:=mv g1;have g2:=mv g2;obtain⟨gv,gl,rfl,rfl,cv',cl'⟩:=cf.at_ ea;have c1:=sc.cell 1 rfl;obtain⟨w5,rQ⟩:=ex (wr.alloc (.cells #[.int .u32 (e.a:Nat),.int .u32 (e.b:Nat),.int .u32 (e.c:Nat)] 46 (0,0)))
     have k5:Keeps (fun _=>False) wr w5:=by rw[rQ];exact(Keeps.refl _ wr).alloc _
     have s5:St w5 wr.heap.size 46 [.int .u32 (e.a:Nat),.int .u32 (e.b:Nat),.int .u32 (e.c:Nat)]:=by rw[rQ];exact St.new _ _ _
     have d0:=s5.cell 0 rfl;have c51:=k5.cell c1 id;have cl5:=k5.cell cl' id;rw[rQ]at d0 c51 cl5;have hlc:=ea;have ahX:((e.a:Nat):Int)<n:=by omega
     obtain⟨j1,hj1⟩:∃j1,j1+(j+1)=m:=⟨m-(j+1),by omega⟩
     have htk:es.take (j+1)=es.take j++[e]:=by rw[cY,he];rfl
     have hsn:=Mf (msg kd) (es.take j) e V L;rw[<-htk]at hsn;by_cases hlv:L.getD e.a false=true
     .rw[hlv]at cl5 hsn;simp only[if_true]at hsn;obtain⟨hx1,hx2⟩:=hV e.a ea hlv;generalize hgx:V.getD e.a 0=x0 at hx1 hx2 hsn cv';have z5:IntKind.u64.wrap ((e.b:Nat):Int)=(e.b:Nat):=by rw[IntKind.wrap_u64];omega
      obtain⟨u,hlk⟩:=mi.look (a:=e.a) (by omega);have adv:=mi.lt;have kw:∀W,Below w5.heap.size w5 W->Keeps (fun _=>False) wr W:=fun W h=>k5.below h
      have q1:∀W,Below w5.heap.size w5 W->W.cell? ⟨w.heap.size,0,none⟩=some (.int .i64 kd)∧W.cell? ⟨w.heap.size,1,none⟩=some (.int .u32 st)∧W.cell? ⟨w.heap.size+1,0,none⟩=some (.slice (some ⟨gv,0,none⟩) n cv):=fun W h=>⟨(kw W h).cell (sp.cell 0 rfl) id,(kw W h).cell (sp.cell 1 rfl) id,(kw W h).cell (sc.cell 0 rfl) id⟩
      have q2:∀W,Below w5.heap.size w5 W->W.cell? ⟨gv,e.a,none⟩=some (.int .u64 x0)∧W.cell? ⟨wr.heap.size,0,none⟩=some (.int .u32 (e.a:Nat))∧W.cell? ⟨wr.heap.size,2,none⟩=some (.int .u32 (e.c:Nat)):=fun W h=>⟨(kw W h).cell cv' id,(Keeps.of_below (S:=fun _=>False) h).cell (s5.cell 0 rfl) id,(Keeps.of_below (S:=fun _=>False) h).cell (s5.cell 2 rfl) id⟩
      have q3:=fun W h=>hlk W ((kw W h).at_ adv id)
      have HQ:=Y5 q1 q2 q3 s5 k5;have HM:=Y4 hM hst hsn Q8;have hfr:=Y1 hfree;have hAj:(A++sent (msg kd) ((es.take j).map uL) V L).length<=39:=by
       rw[ao];have:=uM (msg kd) ((es.take j).map uL) V L;rw[ba,List.length_take]at this;omega
      clear h hw hm hc hS Vp hok hV hfree kA sp sc mi hM hst Q8 he hnew cf hgw mv k5 s5 hlv htk hsn hA2 q1 q2 q3 kw hlk cv' adv hgx
      go_wp2_with fail
      rw[<-rQ];clear rQ cl5 c51 d0;refine gF (Below w5.heap.size w5) [1,3,7,8,11] [0,2,4,5,6,9,10,12] [13] [] [14] (by kernel_rfl) (fun _ _ x _ _ h=>by cases x<;>exact h) ((Below.refl _ w5).drew) (by kernel_rfl) ?_;simp only[aJ,a_,bb,bj,bk]
      repeat (refine aI (fun K hK=>?_);go_simp;refine hK _ ?_;clear hK K)
      refine au ?_;refine ak (fun K hK=>?_);go_simp;refine⟨.agg #[.int .i64 kd,.int .u32 st],fun w' hw'=>(by simp[(HQ.out.1 w' hw').1,(HQ.out.1 w' hw').2.1,Result.andThen]),hK _ ?_⟩;clear hK K;refine ak (fun K hK=>?_);go_simp;refine⟨_,fun w' hw'=>(by rw[(HQ.out.1 w' hw').2.2];rfl),hK _ ?_⟩;clear hK K;refine ak (fun K hK=>?_);go_simp;refine⟨_,fun w' hw'=>(by rw[(HQ.out.2.1 w' hw').2.1];rfl),hK _ ?_⟩;clear hK K;refine ak (fun K hK=>?_);go_simp;refine⟨_,fun _ _=>rfl,hK _ ?_⟩;clear hK K;refine ak (fun K hK=>?_);go_simp;refine⟨_,fun w' hw'=>(by rw[(HQ.out.2.1 w' hw').1];rfl),hK _ ?_⟩;clear hK K;refine ak (fun K hK=>?_);go_simp;refine⟨_,fun w' hw'=>(by rw[(HQ.out.2.1 w' hw').2.1];rfl),hK _ ?_⟩;clear hK K;refine ak (fun K hK=>?_);go_simp;refine⟨.int .i64 u,fun w' hw'=>(by rw[HQ.out.2.2.1 w' hw'];rfl),hK _ ?_⟩;clear hK K;refine ak (fun K hK=>?_);go_simp;refine⟨_,fun w' hw'=>(by rw[(HQ.out.2.1 w' hw').2.2];rfl),hK _ ?_⟩;clear hK K;refine bD ?_;intro W hb0;have HB0:=Y1 hb0;clear hb0;refine aH (fun K hK=>?_);go_simp;refine(adu W hkd hx1 hx2).mono ?_;rintro e1 w7 ⟨rfl,Mh⟩;refine hK _ _ (HB0.out.trans (Mh.mono HB0.out.size)) ?_;clear hK K;refine aQ ?_;refine au ?_;have b7:=HB0.out.trans (Mh.mono HB0.out.size);have k7:=HQ.out.2.2.2.2.below b7;have d1:=(Keeps.of_below (S:=fun _=>False) b7).cell (HQ.out.2.2.2.1.cell 1 rfl) id;have Iu:=ZL (r:=((e.b:Int),msg kd x0)) (HM.out.1.keep k7 fun _ _=>id) hfr.out (by omega) ⟨⟨by dsimp only;omega,by dsimp only;omega⟩,by
       have:0<=msg kd x0∧msg kd x0<18446744073709551616:=by unfold msg;split<;>omega
       exact this⟩ hb (by omega) hc0
      have H7:=Y1 k7;generalize msg kd x0=y at*;clear b7 Mh k7
      go_wp2_with fail
      refine Iu.mono ?_;clear Iu;rintro e1 w8 ⟨rfl,D8,T8,LZ,lG,hT8⟩;obtain⟨hM,hst,hsn,Q8⟩:=HM.out;have HR:=Y1 (show ∃D' T',wO w8 D' T' b bx bF room c0 F (A++sent (msg kd) ((es.take (j+1)).map uL) V L)∧Stp (jC D T) (jC D' T') wA w8∧∀j,T' j->T j∨w.heap.size<=j from⟨D8,T8,by rw[hsn,<-cm];exact LZ,(show Stp (jC D T) (jC D' T') wA w7 from⟨hst.1.trans H7.out fun _ h=>h.elim,hst.2⟩).trans lG,fun j h=>(hT8 j h).elim (Q8 j) fun hh=>.inr (aw H2.out.1.size (aw hst.1.size (aw H7.out.size hh)))⟩);clear hM hst hsn LZ lG Q8 hT8
      go_wp2_with fail
      go_roundg j1
      case measure=>omega
      case rel=>exact⟨j+1,by omega,by simp,HR⟩
     .have hlv:L.getD e.a false=false:=by simpa using hlv
      rw[hlv]at cl5 hsn;simp only[Bool.false_eq_true,if_false,da]at hsn;have HR:=Y1 (show ∃D' T',wO w5 D' T' b bx bF room c0 F (A++sent (msg kd) ((es.take (j+1)).map uL) V L)∧Stp (jC D T) (jC D' T') wA w5∧∀j,T' j->T j∨w.heap.size<=j from⟨D',T',by rw[hsn];exact hM.keep k5 fun _ _=>id,⟨hst.1.trans k5 fun _ h=>h.elim,hst.2⟩,Q8⟩);rw[rQ]at HR;clear h hw hm hc hS Vp hok hV hfree kA sp sc mi hM hst Q8 he hnew cf hgw mv rQ k5 s5 hlv htk hsn hA2
      go_wp2_with fail
      go_roundg j1
      case measure=>omega
      case rel=>exact⟨j+1,by omega,by simp,HR⟩
    .have hjm:j=m:=by omega
     have hlt':¬(j:Int)<m:=by omega
     rw[cA (by omega)]at hM;have HE:=Y3 hM hst Q8;clear h hw hm hc hS Vp hok hV hfree kA sp sc mi hM hst Q8 hA2
     go_wp2_with fail
     go_ret;obtain⟨hM,hst,Q8⟩:=HE.out;exact⟨rfl,D',T',hM,⟨(H2.out.1.mono fun _ _ h=>h.elim).trans hst.1 fun _ h=>.inl h,fun i h=>(hst.2 i h).imp id fun hh=>aw H2.out.1.size hh⟩,Q8⟩
section
variable {w0 w wr w8:an} {D D8 T8:Nat->Prop} {b bs:Nat} {sp:SP} {room c c8:Nat} {F F8:Files} {lab:Nat->Nat} {bg:Bool} {at_:Nat} {ends:List Int} {cs:List (Nat×Nat)} {R:List (List Ed)} {g:Nat->Bool}
theorem lH.ZU(h:lH w wr D b bs sp room c F lab bg at_ ends cs g R)(hk:Keeps D w0 w):lH w0 wr D b bs sp room c F lab bg at_ ends cs g R:=
 {h with
  keep:=hk.trans h.keep fun _ h=>.inl h
  Bo:=fun k e=>(h.Bo k e).imp id fun hh=>aw hk.size hh
  fr:=fun k e1 e2=>aw hk.size (h.fr k e1 e2)}
theorem lH.relabel{lab':Nat->Nat}(h:lH w0 wr D b bs sp room c F lab bg at_ ends cs g R)(hk:Keeps (fun k=>lab k=1∨lab k=3) wr w8)(Dz:aV w8 (fun k=>lab' k=1) b room F8 c8)(hF:∀i,i<cs.length->g i=false->F8=F)(hl:∀j k,j≠0->j≠1->j≠3->(lab' k=j↔lab k=j))(hl1:∀k,lab' k=1->D k∨w0.heap.size<=k)(hl3:∀k,lab' k=3->w0.heap.size<=k∧k<w8.heap.size):lH w0 w8 D b bs sp room c8 F8 lab' bg at_ ends cs g R:=by
 obtain⟨h1,⟨es',s1,s2,s3,s4,s5,s6,s7⟩,h3,h4,h5,h6,h7,h8,h9,h10,h11⟩:=h;have n2:∀{k:Nat},lab k=2->¬(lab k=1∨lab k=3):=fun e hh=>by omega
 have e2:=fun k e=>(hl 2 k (by decide) (by decide) (by decide)).2 e
 refine⟨Dz,⟨es',s1.keep hk (n2 h3),hk.own s2 fun k e=>?_,fun a e=>e2 _ (s3 a e),(hk.at_ (ag.1 s4).1 (n2 s5)).trans s4,e2 _ s5,s6,s7⟩,e2 _ h3,h4,h5,fun i x r hx hr=>?_,h7,fun k hk'=>?_,h9.trans hk fun k hh=>?_,fun k hk'=>?_,fun k k1 k2=>?_⟩
 .obtain⟨a,ha⟩:∃a,sp.L=some a:=by
   cases hL:sp.L with
   |none=>rw[hL]at e;cases e
   |some a=>exact⟨a,rfl⟩
  rw[ha]at e;have e:a.block=k:=by simpa[ar]using e
  subst e;exact n2 (s3 a ha)
 .have hi:=(af.1 hx).1;obtain⟨p1,p2,p3⟩:=h6 i x r hx hr;have ei:(fun k=>lab' k=i+4)=fun k=>lab k=i+4:=by
   funext k
   exact propext (hl (i+4) k (by omega) (by omega) (by omega))
  rw[ei];refine⟨e2 _ p1,fun e=>(p2 e).keep hk (n2 p1) fun k e hh=>by omega,fun e=>?_⟩;rw[hF i hi e];exact(p3 e).keep hk (n2 p1) fun k e hh=>by omega
 .by_cases e1:lab' k=1
  .exact Dz.lt e1
  .by_cases e3:lab' k=3
   .exact(hl3 k e3).2
   .exact ai (h8 k (by rw[<-(hl (lab' k) k hk' e1 e3).1 rfl]at hk';exact fun h0=>by have:=(hl (lab' k) k (by omega) e1 e3).1 rfl;omega)) hk.size
 .rcases hh with hh|hh
  .exact h10 k hh
  .exact .inr (h11 k (by omega) (by omega))
 .exact hl1 k hk'
 .by_cases e3:lab' k=3
  .exact(hl3 k e3).1
  .have:=(hl (lab' k) k k1 k2 e3).1 rfl;exact h11 k (by omega) (by omega)
open Classical in
noncomputable def uN (lab:Nat->Nat) (D8 T8:Nat->Prop):Nat->Nat:=fun k=>if D8 k then 1 else if T8 k then 3 else if lab k=1∨lab k=3 then 0 else lab k
theorem Vq(lab:Nat->Nat)(D8 T8:Nat->Prop):(fun k=>uN lab D8 T8 k=1)=D8:=by
 funext k
 refine propext ⟨fun h=>?_,fun h=>by unfold uN;rw[if_pos h]⟩;unfold uN at h
 split at h
 .assumption
 .split at h
  .cases h
  .split at h
   .cases h
   .rename_i hh
    exact absurd (Or.inl h) hh
theorem Kg{lab:Nat->Nat}{D8 T8:Nat->Prop}(hs:∀k,T8 k->¬D8 k):(fun k=>uN lab D8 T8 k=3)=T8:=by
 funext k
 refine propext ⟨fun h=>?_,fun h=>by unfold uN;rw[if_neg (hs k h),if_pos h]⟩;unfold uN at h
 split at h
 .cases h
 .split at h
  .assumption
  .split at h
   .cases h
   .rename_i hh
    exact absurd (Or.inr h) hh
theorem lH.box(h:lH w0 wr D b bs sp room c F lab bg at_ ends cs (fun _=>true) R)(hst:Stp (jC (fun k=>lab k=1) (fun k=>lab k=3)) (jC D8 T8) wr w8)(Dz:aV w8 D8 b room F8 c8)(hsep:∀j,T8 j->¬D8 j)(iy:∀j,T8 j->j<w8.heap.size)(hT0:∀j,T8 j->w0.heap.size<=j)(hD0:∀j,D8 j->D j∨w0.heap.size<=j):
 lH w0 w8 D b bs sp room c8 F8 (uN lab D8 T8) bg at_ ends cs (fun _=>true) R:=by
 have e1:=Vq lab D8 T8;have e3:=Kg (lab:=lab) hsep;have hno:∀k,(D8 k∨T8 k)->lab k=0∨lab k=1∨lab k=3:=fun k hk=>(hst.2 k hk).elim .inr fun hh=>.inl (aa fun hc=>by have:=h.bd k hc;omega)
 refine h.relabel hst.1 (by rw[e1];exact Dz) (fun _ _ e=>by cases e) (fun j k j0 j1 j3=>?_) (fun k hk=>hD0 k ((congrFun e1 k).mp hk)) fun k hk=>⟨hT0 k ((congrFun e3 k).mp hk),iy k ((congrFun e3 k).mp hk)⟩
 by_cases d:D8 k
 .have:=hno k (.inl d);have e:=(congrFun e1 k).mpr d;constructor<;>intro hh<;>omega
 .by_cases tt:T8 k
  .have:=hno k (.inr tt);have e:=(congrFun e3 k).mpr tt;constructor<;>intro hh<;>omega
  .unfold uN;rw[if_neg d,if_neg tt]
   split<;>constructor<;>intro hh<;>omega
theorem lH.beside(h:lH w wr D b bs sp room c F lab bg at_ ends cs g R)(hk:Keeps D w0 w){T:Nat->Prop}(hT0:∀j,T j->w0.heap.size<=j∧j<w.heap.size)(iI:∀j,T j->¬D j):
 ∃lab',lH w0 wr D b bs sp room c F lab' bg at_ ends cs g R∧(fun k=>lab' k=1)=(fun k=>lab k=1)∧(fun k=>lab' k=3)=T∧∀k,lab k=0->¬T k->lab' k=0:=by
 have hS:∀k,T k->lab k=3∨lab k=0:=fun k hk=>.inr (aa fun h0=>by
  have:=hT0 k hk;by_cases h1:lab k=1
  .exact(h.Bo k h1).elim (iI k hk) fun hh=>by omega
  .have:=h.fr k h0 h1;omega)
 have e3:=fC (lab:=lab) (i:=3) (S:=T) (by decide);have ej:=fun j (h1:j≠0) (h2:j≠3)=>eY (lab:=lab) hS h1 h2
 have hsz:=h.keep.size;refine⟨dR lab 3 T,(h.ZU hk).relabel (Keeps.refl _ _) (by rw[ej 1 (by decide) (by decide)];exact h.disk) (fun _ _ _=>rfl) (fun j k j0 _ j3=>by rw[show(dR lab 3 T k=j)=(lab k=j)from congrFun (ej j j0 j3) k]) (fun k hk'=>?_) fun k hk'=>?_,ej 1 (by decide) (by decide),e3,fun k h0 hT=>iL h0 hT⟩
 .exact(h.Bo k ((congrFun (ej 1 (by decide) (by decide)) k).mp hk')).imp id fun hh=>aw hk.size hh
 .have:=hT0 k ((congrFun e3 k).mp hk');exact⟨this.1,by omega⟩
end
variable {D T:Nat->Prop}{F:Files}{b base bF bx c c0 cl cp cv gl gv i j k n room:Nat}{w:an}
theorem wO.nil(h:wO w D T b bx bF room c0 F []):∃c,aV w D b room F c∧pF w T bx b bF [] 0∧c<=c0:=by
 obtain⟨⟨M,gI,F',c,h1,h2,h3,h4,h5,h6,h7⟩,h8⟩:=h;have hl:=uK h6;simp only[List.length_nil]at h5;obtain rfl:M=[]:=bz (by omega);obtain rfl:gI=[]:=bz (by omega);have e:F'=F:=funext fun x=>h3.other x fun i hi=>by simp at hi
 subst e;exact⟨c,h1,h2,by simpa using h7⟩
theorem wO.mk0(h1:aV w D b room F c)(h2:pF w T bx b bF [] 0)(hc:c<=c0)(hs:∀j,T j->¬D j):wO w D T b bx bF room c0 F []:=
 ⟨⟨[],[],F,c,h1,h2,BF.nil F,sD.refl _,by simp,fun _ h=>(by cases h),by simpa using hc⟩,hs⟩
def XA(w:an)(T:Nat->Prop)(b bx bF c0:Nat)(F F':Files)(c:Nat)(A:List Rc):Prop:=
 ∃M gI,pF w T bx b bF M gI.length∧BF F F' gI∧sD (M++gI.flatten) A∧M.length+gI.flatten.length<=A.length∧(∀zs∈gI,zs≠[]∧∀r∈zs,Wf r)∧c<=c0+3*gI.flatten.length
variable {A:List Rc}
theorem XA.mk{F':Files}(h:XA w T b bx bF c0 F F' c A)(hD:aV w D b room F' c)(hs:∀j,T j->¬D j):wO w D T b bx bF room c0 F A:=by
 obtain⟨M,gI,h1,h2⟩:=h;exact⟨⟨M,gI,F',c,hD,h1,h2⟩,hs⟩
theorem wO.to(h:wO w D T b bx bF room c0 F A):∃F' c,aV w D b room F' c∧XA w T b bx bF c0 F F' c A:=by
 obtain⟨⟨M,gI,F',c,hD,h1,h2⟩,hs⟩:=h;exact⟨F',c,hD,M,gI,h1,h2⟩
theorem XA.keep{S T:Nat->Prop}{w w':an}{b bx bF c0 c:Nat}{F F':Files}{A:List Rc}(h:XA w T b bx bF c0 F F' c A)(hk:Keeps S w w')(hS:∀j,T j->¬S j):XA w' T b bx bF c0 F F' c A:=by
 obtain⟨M,gI,h1,h2⟩:=h;exact⟨M,gI,h1.keep hk hS,h2⟩
def ZV(w0 w1 wr:an)(D T:Nat->Prop)(b bx bs bF room c0:Nat)(sp:SP)(F:Files)(ends:List Int)(cs:List (Nat×Nat))(Rs:List (List Ed))(kd:Int)(V:List Int)(L:List Bool)(s j:Nat):Prop:=
 ∃lab sQ c'' bg R' O,lH w0 wr D b bs sp room c'' sQ lab bg j ends cs (fun _=>bg) R'∧XA wr (fun k=>lab k=3) b bx bF c0 F sQ c'' (sent (msg kd) (O.map uL) V L)∧(O++R'.flatten).Perm Rs.flatten∧(j=s->R'.flatten=[])∧
  Keeps (jC D T) w1 wr∧∀k,k<w1.heap.size->lab k≠0->D k∨T k
variable {AL AV:Option dd}{L L':List Bool}{V V':List Int}{kd:Int}
theorem IL{w0:an}{s:Nat}{Rs:List (List Ed)}{st:Int}(h:wO w D T b bx bF room c0 F [])(hk:Keeps D w0 w)(hT:∀j,T j->w0.heap.size<=j∧j<w.heap.size)(hDl:∀j,D j->j<w0.heap.size)(hR:Rs.length=s)(hs:1<=s)(hs2:s<=6)(hn:n<=12)(hF:∀i r,Rs[i]? =some r->F (nm (sn i))=some (fileOf (r.map pk)))(hok:∀r∈Rs,∀e∈r,e.ok n)(hfl:Rs.flatten.length<=39)(hc:lZ w AV AL n cv cl V L)(hS:∀a,AV=some a∨AL=some a->a.block<w0.heap.size∧¬D a.block)(hkd:kd=1∨kd=2)(hV:∀v,v<n->L.getD v false=true->0<=V.getD v 0∧V.getD v 0+1<18446744073709551616)(hfree:∀i,1<=i->i<100->F (nf box i)=none)(hb:1<=bF)(hroom:c0+3*40+3<=room)(hc0:c0<90000):
 cW ae 195 #[.pointer (some ⟨b,0,none⟩),.pointer (some ⟨bx,0,none⟩),.agg #[.int .i64 kd,.int .u32 st],.int .i64 (s:Nat),.agg #[.slice AV n cv,.slice AL n cl]] w fun e w'=>∃v l,e=.returned (.tuple #[v,.int .i64 0])∧w'.ownsRow w.heap.size 283 2 v l.length (recs l)∧(l.Pairwise fun x y=>x.1<y.1)∧
  (∀k,iq (sent (msg kd) (Rs.flatten.map uL) V L) k (look l k))∧∃D' T' A,wO w' D' T' b bx bF room c0 F A∧A.length<=39∧Stp (jC D T) (jC D' T') w w'∧∀k,v.ownBlock=some k->¬D' k∧¬T' k:=by
 obtain⟨w1,hw1⟩:∃w1,w1=(w.alloc (.cells #[.int .i64 kd,.int .u32 st] 24 (0,0))).alloc (.cells #[.slice AV n cv,.slice AL n cl] 253 (0,0)):=⟨_,rfl⟩
 have z1:w1.heap.size=w.heap.size+1+1:=by rw[hw1];simp
 have sp1:St w1 w.heap.size 24 [.int .i64 kd,.int .u32 st]:=by rw[hw1];exact(St.new _ _ _).alloc _
 have Vr:St w1 (w.heap.size+1) 253 [.slice AV n cv,.slice AL n cl]:=by
  have:=St.new (w.alloc (.cells #[.int .i64 kd,.int .u32 st] 24 (0,0))) 253 #[.slice AV n cv,.slice AL n cl];rw[hw1];simpa using this
 have k1:Keeps (fun _=>False) w w1:=by rw[hw1];exact((Keeps.refl _ w).alloc _).alloc _
 obtain⟨c,hD,hB,hcc⟩:=h.nil;have hns:=IK (hD.keep k1 fun _ _=>id) hn hs hs2 hR hF fun r hr e he=>⟨ai (hok r hr e he).1 hn,ai (hok r hr e he).2.1 hn,(hok r hr e he).2.2⟩
 have c0':=Vr.cell 0 rfl;have HW:=Y9 h hk hT hDl hok hc hS hV hfree;have H1:=Y6 z1 sp1 Vr k1 hB hcc;clear h hk hT hDl hF hok hc hS hV hfree z1 sp1 Vr k1 hD hB hcc;go_enter func195,ntmps195
 go_wp2_with fail
 rw[<-hw1];refine hns.mono ?_;clear hns;rintro e w2 ⟨bs,sp,lab,ends,cs,rfl,hSw,hcl,hel,hen,hex⟩;have h0:ZV w0 w1 w2 D T b bx bs bF room c0 sp F ends cs Rs kd V L s 0:=by
  obtain⟨h,hk,hT,hDl,hok,hc,hS,hV,hfree⟩:=HW.out;obtain⟨z1,sp1,Vr,k1,hB,hcc⟩:=H1.out;have k01:=hk.trans k1 fun _ h=>h.elim
  obtain⟨lab',p1,p2,p3,p4⟩:=hSw.beside k01 (T:=T) (fun j hj=>⟨(hT j hj).1,by have:=(hT j hj).2;omega⟩) h.sep;have k2:=(k1.mono fun _ _ h=>h.elim).trans hSw.keep fun _ h=>.inl h
  refine⟨lab',F,c,false,Rs,[],p1,?_,List.Perm.refl _,fun e=>by omega,hSw.keep.mono fun _ _ h=>.inl h,fun k hk' h0=>aa fun hc=>?_⟩
  .rw[p3];exact⟨[],[],hB.keep k2 h.sep,BF.nil F,sD.refl _,by simp[sent],fun _ h=>(by cases h),by simpa using hcc⟩
  .refine h0 (p4 k (aa fun h1=>?_) fun hh=>hc (.inr hh));by_cases e1:lab k=1
   .rcases hSw.Bo k e1 with hh|hh
    .exact hc (.inl hh)
    .omega
   .have:=hSw.fr k h1 e1;omega
 have H0:=Y1 h0;have HE:=Y2 hen hex;clear hSw h0 hen hex
 go_wp2_with fail
 go_loopg [14] s (fun kq v14 wr=>∃j,kq+j=s∧aG (ZV w0 w1 wr D T b bx bs bF room c0 sp F ends cs Rs kd V L s j))
 case atStart=>exact⟨0,by omega,H0⟩
 case round=>
  obtain⟨j,hj,hA⟩:=hrel;obtain⟨lab',sQ,c'',bg,R',O,hSw,hM,hp,hnil,hkw,hin⟩:=hA.out;by_cases hlt:j<s
  .have hex:=HE.out.2;obtain⟨x,hx⟩:∃x,ends[j]? =some x:=⟨_,ab (by omega)⟩
   obtain⟨x0,x1⟩:=hex x (al hx);obtain⟨en,rfl⟩:∃en:Nat,x=(en:Nat):=⟨x.toNat,by omega⟩
   have hpl:=hp.length_eq;rw[ao]at hpl;have hw0:=hSw.keep.size;have hnx:=Vn hSw hx (by omega) (by omega) (by omega) (by omega) (by omega) hw0;have HR:=Y6 hSw hM hp hkw hin hx;clear hSw hM hp hnil hkw hin hA hx hex x0
   go_wp2_with fail
   refine hnx.mono ?_;clear hnx;rintro e w3 ⟨v3,rfl,hE⟩;obtain⟨Da,out,R2,q1,q2,q3,q4,q5,q6,q7,q8⟩:=hE;obtain⟨hSw,hM,hp,hkw,hin,hx⟩:=HR.out;obtain⟨h,hk,hT,hDl,hok,hc,hS,hV,hfree⟩:=HW.out;obtain⟨z1,sp1,Vr,k1,hB,hcc⟩:=H1.out;obtain⟨AW,cw,rfl⟩:=aW q2;have XB:=hkw.trans q6 fun i hi=>by
    rcases az i w1.heap.size with hh|hh
    .exact .inl (hin i hh hi.1)
    .exact .inr hh
   have IQ:∀i,w.heap.size<=i->¬jC D T i:=fun i hi hh=>hh.elim (fun hh=>by have:=hDl i hh;have:=hk.size;omega) fun hh=>by have:=(hT i hh).2;omega
   have Q9:=sp1.keep XB (IQ _ (cq _));have Vs:=Vr.keep XB (IQ _ (by omega));have hc1:=hc.keep k1 fun _ _=>id
   have hc3:=hc1.keep XB fun a ha hh=>by
    have:=hS a ha;exact hh.elim this.2 fun hh=>by have:=(hT _ hh).1;omega
   have Dx:XA w3 (fun k=>Da k=3) b bx bF c0 F sQ c'' (sent (msg kd) (O.map uL) V L):=by
    rw[q8];exact hM.keep q6 fun i hi hh=>hh.2 hi
   have hMS:=Dx.mk q1.disk fun i h3 h1=>by omega
   have hsl:=uM (msg kd) (O.map uL) V L;rw[ba]at hsl;have ZW:=q4.length_eq;rw[ao]at ZW;have Q_:∀e∈out++R2.flatten,e.ok n:=fun e he=>by
    have h1:=hp.subset (cE _ (q4.subset he));obtain⟨r,hr,he⟩:=c_.1 h1;exact hok r hr e he
   have hsn:=Vo (st:=st) (kd:=kd) hMS (own_base' q2 (dq _)) rfl hc3 (fun a ha=>by
    rcases ha with ha|ha|ha
    .have:=hS a (.inl ha);exact⟨fun h1=>(q1.Bo _ h1).elim this.2 fun hh=>by omega,fun h3=>by have:=q1.fr _ (by omega) (show Da a.block≠1 by omega);omega⟩
    .have:=hS a (.inr ha);exact⟨fun h1=>(q1.Bo _ h1).elim this.2 fun hh=>by omega,fun h3=>by have:=q1.fr _ (by omega) (show Da a.block≠1 by omega);omega⟩
    .have:=q3 a.block (by rw[ha];rfl);omega) (fun i hi=>q1.bd i (by omega)) (fun e he=>Q_ e (List.mem_append_left _ he)) hn hkd hV hfree (by omega) hb hroom hc0
   have d0:=Q9.cell 0 rfl;have d1:=Q9.cell 1 rfl;have e0:=Vs.cell 0 rfl;have e1:=Vs.cell 1 rfl;have H3:=Y6 q1 q4 q5 XB Q_ q7;have HPL:=Y2 hsl ZW;clear hSw hM hp hkw hin hx h hk hT hDl hok hc hS hV hfree z1 sp1 Vr k1 hB hcc q1 q2 q3 q4 q5 q6 q7 q8 XB IQ Q9 Vs hc1 hc3 Dx hMS hsl ZW Q_
   go_wp2_with fail
   refine hsn.mono ?_;clear hsn;rintro e w8 ⟨rfl,D8,T8,LZ,lG,hT8⟩;have HN:=Y1 (show ZV w0 w1 w8 D T b bx bs bF room c0 sp F ends cs Rs kd V L s (j+1)from by
    obtain⟨hSw,hM,hp,hkw,hin,hx⟩:=HR.out;obtain⟨q1,q4,q5,XB,Q_,q7⟩:=H3.out;obtain⟨h,hk,hT,hDl,hok,hc,hS,hV,hfree⟩:=HW.out;obtain⟨z1,sp1,Vr,k1,hB,hcc⟩:=H1.out;obtain⟨F8,c8,Dz,hX8⟩:=LZ.to;have iy:∀i,T8 i->i<w8.heap.size:=by
     obtain⟨M,gI,⟨m,v,p1,p2,p3,p4,p5,p6,p7⟩,-⟩:=hX8;exact p7
    have ahY:=q1.keep.size;have hT0:=fun i hi=>(hT8 i hi).elim (fun hh=>q1.fr i (by omega) (by omega)) fun hh=>by omega
    have hD0:=fun i hi=>(lG.2 i (.inl hi)).elim (fun hh=>hh.elim (fun hh=>q1.Bo i hh) fun hh=>.inr (q1.fr i (by omega) (by omega))) fun hh=>.inr (by omega)
    have hin2:∀i,i<w1.heap.size->Da i≠0->D i∨T i:=fun i hi h0=>hin i hi fun h1=>h0 (q7 i (by have:=hkw.size;omega) h1)
    have hq:=q1.box lG Dz LZ.sep iy hT0 hD0;refine⟨_,F8,c8,true,R2,O++out,hq,?_,?_,fun ej=>?_,XB.trans lG.1 fun i hi=>?_,fun i hi h0=>?_⟩
    .rw[Kg LZ.sep,cC,vV];exact hX8
    .rw[cm];exact(List.Perm.append_left _ q4).trans hp
    .have hen:en=n:=by
      have h1:=HE.out.1;rw[show s-1=j by omega,hx]at h1;injection h1 with h1;omega
     refine List.flatten_eq_nil_iff.2 fun r hr=>?_
     cases r with
     |nil=>rfl
     |cons e r=>
      have h1:=q5 _ hr e rfl;have h2:=(Q_ e (cE _ (c_.2 ⟨_,hr,by simp⟩))).1;omega
    .rcases az i w1.heap.size with hh|hh
     .exact .inl (hin2 i hh (by rcases hi with hi|hi<;>omega))
     .exact .inr hh
    .refine hin2 i hi fun h2=>h0 ?_
     have hn:¬(D8 i∨T8 i):=fun hh=>(lG.2 i hh).elim (fun h3=>by rcases h3 with h3|h3<;>omega) fun h3=>by have:=XB.size;omega
     unfold uN;rw[if_neg fun hh=>hn (.inl hh),if_neg fun hh=>hn (.inr hh),h2];simp)
   clear LZ lG hT8
   go_wp2_with fail
   obtain⟨k1,hk1⟩:∃k1,k1+(j+1)=s:=⟨s-(j+1),by omega⟩
   go_roundg k1
   case measure=>omega
   case rel=>exact⟨j+1,by omega,HN⟩
  .have hjs:j=s:=by omega
   have hnl:=hnil hjs;rw[hnl,da]at hp;have hnx:cW ae 225 #[Ptr bs] wr fun e w'=>e=.returned (.tuple #[.slice none 0 0,.bool false,.int .i64 0])∧∃n,w'=wr.drewN n:=by
    have:=hSw;rw[hjs,<-hel]at this;exact this.end_
   have HR:=Y5 hSw hM hp hkw hin;have hpl:=hp.length_eq;clear hSw hM hp hnil hkw hin hA hnl
   go_wp2_with fail
   refine hnx.mono ?_;clear hnx;rintro e w3 ⟨rfl,nq,hw3⟩;have k3:Keeps (fun _=>False) wr w3:=by rw[hw3];exact(Keeps.refl _ wr).drewN nq
   clear hw3;have hal:=ZM ((HR.out.2.1.mk HR.out.1.disk fun i h3 h1=>by omega).keep k3 fun _ _=>id) (by
    have:=uM (msg kd) (O.map uL) V L;rw[ba]at this;omega)
   have H3:=Y1 k3;clear k3
   go_wp2_with fail
   refine hal.mono ?_;clear hal;rintro e w4 ⟨v,l,rfl,o4,hup,oD,Zh,kC⟩;have H4:=Y5 o4 hup oD Zh kC;clear o4 hup oD Zh kC
   go_wp2_with fail
   refine bodyPost_ret (results_tmp2 rfl _ _ _) rfl ?_;obtain⟨hSw,hM,hp,hkw,hin⟩:=HR.out;obtain⟨o4,hup,oD,Zh,kC⟩:=H4.out;obtain⟨z1,sp1,Vr,k1,hB,hcc⟩:=H1.out;have k4:Keeps (jC D T) w1 w4:=((hkw.trans H3.out fun _ h=>h.elim).trans kC.1 fun i hi=>?_)
   .refine⟨v,l,rfl,own_base' o4 ?_,hup,fun k=>?_,_,_,_,Zh,?_,⟨(k1.mono fun _ _ h=>h.elim).trans k4 fun _ h=>.inl h,fun i hi=>?_⟩,fun i e=>?_⟩
    .have:=k1.size;have:=hkw.size;have:=H3.out.size;omega
    .exact sD.perm (Le (hp.map uL)) k _ (oD k)
    .have:=uM (msg kd) (O.map uL) V L;rw[ba]at this;omega
    .rcases az i w1.heap.size with hh|hh
     .exact .inl (hin i hh (by rcases hi with hi|hi<;>omega))
     .have:=k1.size;exact .inr (by omega)
    .have h1:=gB o4 i e;have h2:=H3.out.size;constructor<;>(intro hh;have:=hSw.bd i (by omega);omega)
   .rcases az i w1.heap.size with hh|hh
    .exact .inl (hin i hh (by omega))
    .exact .inr hh
def Mi(kd:Int)(st n:Nat):Prop:=(kd=1∧st<n)∨(kd=2∧st=0)
theorem Mi.kind{st:Nat}(h:Mi kd st n):kd=1∨kd=2:=h.imp And.left And.left
theorem oq{st:Nat}(h:Mi kd st n)(hn:n<=12):fM.f kd (st:Nat) (n:Nat)=some true:=by
 unfold fM.f;rcases h with⟨rfl,h⟩|⟨rfl,rfl⟩
 .have:wrap64 ((st:Nat):Int)=st:=by unfold wrap64;omega
  rw[this];simp;rw[if_pos (by omega)];simp[h]
 .simp;omega
theorem ZX{st:Nat}(h:Mi kd st n):lY.f kd (st:Nat)=some 2:=by
 unfold lY.f;rcases h with⟨rfl,h⟩|⟨rfl,rfl⟩<;>simp
theorem Dl{st:Nat}(h:Mi kd st n)(x:Int)(o:Option Int):dI.f 40 kd (st:Nat) x (o.getD 0) o.isSome=some (AX x o):=by
 unfold dI.f;cases o with
 |none=>
  rcases h with⟨rfl,h⟩|⟨rfl,rfl⟩<;>simp[dI.j0,AX]
 |some s=>
  rcases h with⟨rfl,h⟩|⟨rfl,rfl⟩<;>simp[dI.j0,AX]<;>split<;>simp_all
theorem Fy(L:List Bool)(hl:L.length<=1000):∀(d i k:Nat),i+d=L.length->d<k->∃r,bq.l0 k L true (L.length:Int) (i:Int)=some r∧(0<=r↔∃v,i<=v∧v<L.length∧L.getD v false=true)
 |0,i,k+1,hi,_=>by
  refine⟨-1,?_,by constructor;(intro h;omega);(rintro⟨v,h1,h2,_⟩;omega)⟩;unfold bq.l0;rw[if_neg (by omega)]
 |d+1,i,k+1,hi,hk=>by
  have hw:wrap64 ((i:Int)+1)=((i+1:Nat):Int):=by unfold wrap64;omega
  have hr:rE false L (i:Int)=L.getD i false:=by simp[rE]
  unfold bq.l0;rw[if_pos (by omega),if_pos (by omega),if_pos (by omega),hr,hw];by_cases hv:L.getD i false=true
  .rw[hv];exact⟨i,by simp,by constructor;(intro _;exact⟨i,cq _,by omega,hv⟩);(intro _;omega)⟩
  .have hv:L.getD i false=false:=by simpa using hv
   rw[hv];obtain⟨r,h1,h2⟩:=Fy L hl d (i+1) k (by omega) (by omega);refine⟨r,by simpa using h1,h2.trans ⟨?_,?_⟩⟩
   .rintro⟨v,a,b,c⟩;exact⟨v,by omega,b,c⟩
   .rintro⟨v,a,b,c⟩;refine⟨v,?_,b,c⟩;rcases az i v with hh|hh
    .omega
    .obtain rfl:v=i:=by omega
     rw[hv]at c;cases c
theorem Ra(V:List Int)(hl:L.length=n)(hn:n<=1000):∃q,jM.f 2000 V L=some q∧(q=true↔Still n L):=by
 obtain⟨r,h1,h2⟩:=Fy L (by omega) L.length 0 2000 (by omega) (by omega);refine⟨!decide (r>=0),?_,?_⟩
 .unfold jM.f dF.f bq.f;rw[show((0:Nat):Int)=0 from rfl]at h1;rw[h1];rfl
 .simp only[Bool.not_eq_true',decide_eq_false_iff_not,ge_iff_le];rw[h2];unfold Still;subst hl;constructor
  .intro h v hv;cases hh:L.getD v false
   .rfl
   .exact absurd ⟨v,dq _,hv,hh⟩ h
  .rintro h ⟨v,_,hv,hh⟩;rw[h v hv]at hh;cases hh
def Mj(l:List Rc)(k:Nat)(lk:List Rc):Prop:=∃pre,l=pre++lk∧(∀r∈pre,r.1<(k:Int))∧∀r∈lk,(k:Int)<=r.1
theorem Mj.start{l:List Rc}(h:∀r∈l,0<=r.1):Mj l 0 l:=⟨[],rfl,fun _ h=>(by cases h),fun r hr=>by simpa using h r hr⟩
theorem yY{l:List Rc}(h:l.Pairwise fun x y=>x.1<y.1):nU l:=by
 unfold nU;exact List.pairwise_map.2 (h.imp fun h e=>by omega)
variable {r:Rc}
theorem Mj.hit{l t:List Rc}(hs:l.Pairwise fun x y=>x.1<y.1)(h:Mj l k (r::t))(hr:r.1=(k:Int)):look l (k:Int)=some r.2∧Mj l (k+1) t:=by
 obtain⟨pre,rfl,h1,h2⟩:=h;refine⟨by rw[<-hr];exact uw (yY hs) (by simp),pre++[r],by simp,fun x hx=>?_,fun x hx=>?_⟩
 .rcases cD.1 hx with hx|hx
  .have:=h1 x hx;omega
  .simp at hx;subst hx;omega
 .have:=(cU.1 (cI.1 hs).2.1).1 x hx;omega
theorem Mj.miss{l lk:List Rc}(hs:l.Pairwise fun x y=>x.1<y.1)(h:Mj l k lk)(hh:∀r,lk.head? =some r->r.1≠(k:Int)):look l (k:Int)=none∧Mj l (k+1) lk:=by
 obtain⟨pre,rfl,h1,h2⟩:=h;have hgt:∀r∈lk,(k:Int)<r.1:=fun r hr=>by
  cases lk with
  |nil=>cases hr
  |cons x t=>
   have hx:=hh x rfl;have hx2:=h2 x (by simp);rcases List.mem_cons.1 hr with rfl|hr
   .omega
   .have:=(cU.1 (cI.1 hs).2.1).1 r hr;omega
 refine⟨qR.2 fun r hr e=>?_,pre,rfl,fun x hx=>by have:=h1 x hx;omega,fun x hx=>by have:=hgt x hx;omega⟩;rcases cD.1 hr with hr|hr
 .have:=h1 r hr;omega
 .have:=hgt r hr;omega
structure Dm (n:Nat) (V:List Int) (l:List Rc) (k:Nat) (V':List Int) (L':List Bool):Prop where
 hv:V'.length=n
 hl:L'.length=n
 at_:∀v,v<k->(V'.getD v 0,L'.getD v false)=AX (V.getD v 0) (look l (v:Int))
theorem Dm.step{l:List Rc}(h:Dm n V l k V' L')(hk:k<n){x:Int}{b:Bool}(hx:(x,b)=AX (V.getD k 0) (look l (k:Int))):Dm n V l (k+1) (V'.set k x) (L'.set k b):=by
 obtain⟨h1,h2,h3⟩:=h;refine⟨by simpa using h1,by simpa using h2,fun v hv=>?_⟩;rw[dL _ _ _ _ _ (by omega),dL _ _ _ _ _ (by omega)];by_cases e:k=v
 .subst e;rw[if_pos rfl,if_pos rfl,hx]
 .rw[if_neg e,if_neg e];exact h3 v (by omega)
theorem yZ(V:List Int)(k:Nat)(x:Int):(nums .u64 V).set k (.int .u64 x)=nums .u64 (V.set k x):=by simp[nums,dj]
theorem Mk(L:List Bool)(k:Nat)(b:Bool):(bools L).set k (.bool b)=bools (L.set k b):=by simp[bools,dj]
theorem adw(ad:dd)(len cap:Nat)(h1:1<=len)(W:an):(Instr.slice 279 (.slice (some ad) len cap) (some (.int .i64 1)) none none).run ae W=.ok (sliced (some ad) 1 len cap 2) W:=by
 rw[run_slice_l W 279 (some ad) len cap (by kernel_rfl) .i64 1 (by omega) (by omega),show(sizeOf (ae.elem 279)).run ae W=.ok 2 W by kernel_rfl];rfl
theorem Vt(h:i<V.length):(nums .u64 V)[i]? =some (.int .u64 (V.getD i 0)):=by
 simp[nums,aq,h]
theorem uO(h:i<L.length):(bools L)[i]? =some (.bool (L.getD i false)):=by
 simp[bools,aq,h]
theorem lZ.ends(h:lZ w AV AL n cv cl V L)(hn:0<n):∃gv gl,AV=some ⟨gv,0,none⟩∧AL=some ⟨gl,0,none⟩:=by
 obtain⟨g1,h1⟩:=gY h.v hn;obtain⟨g2,h2⟩:=gY h.l hn;exact⟨g1,g2,h1,h2⟩
theorem lZ.ne(h:lZ w (some ⟨gv,0,none⟩) (some ⟨gl,0,none⟩) n cv cl V L):gv≠gl:=fun e=>by
 obtain⟨c1,h1⟩:=gG h.v gv rfl;obtain⟨c2,h2⟩:=gG h.l gl rfl;subst e;rw[h1]at h2;injection h2 with h2;injection h2 with _ h2;cases h2
theorem lZ.spot(h:lZ w (some ⟨gv,0,none⟩) (some ⟨gl,0,none⟩) n cv cl V L)(hk:k<n):
 w.cell? ⟨gv,k,none⟩=some (.int .u64 (V.getD k 0))∧w.cell? ⟨gl,k,none⟩=some (.bool (L.getD k false))∧w.frozen? ⟨gv,k,none⟩=false∧w.frozen? ⟨gl,k,none⟩=false:=by
 obtain⟨l1,l2⟩:=h.len;obtain⟨g1,e1,h1,f1⟩:=dZ h.v;obtain⟨g2,e2,h2,f2⟩:=dZ h.l;injection e1 with e1;injection e2 with e2;subst e1;subst e2;exact⟨h1 k _ (Vt (by omega)),h2 k _ (uO (by omega)),f1 k,f2 k⟩
theorem lZ.set{w:an}{gv gl n cv cl k:Nat}{V:List Int}{L:List Bool}(h:lZ w (some ⟨gv,0,none⟩) (some ⟨gl,0,none⟩) n cv cl V L)(hk:k<n)(x:Int)(b:Bool):
 lZ ((w.setCell ⟨gv,k,none⟩ (.int .u64 x)).setCell ⟨gl,k,none⟩ (.bool b)) (some ⟨gv,0,none⟩) (some ⟨gl,0,none⟩) n cv cl (V.set k x) (L.set k b):=by
 obtain⟨l1,l2⟩:=h.len;have hne:=h.ne;refine⟨?_,?_⟩
 .rw[<-yZ];refine b_ (p:=⟨gl,k,none⟩) (nJ h.v k _ (by simp[nums];omega)) (fun e=>?_) _;injection e with e;exact hne e.symm
 .rw[<-Mk];refine nJ (b_ (p:=⟨gv,k,none⟩) h.l (fun e=>?_) _) k _ (by simp[bools];omega);injection e with e;exact hne e
theorem Mj.at_{l t:List Rc}(h:Mj l k (r::t))(hj:j+(t.length+1)=l.length):l[j]? =some r:=by
 obtain⟨pre,rfl,-,-⟩:=h;have:j=pre.length:=by simp at hj;omega
 subst this;simp
theorem ZY{g:Nat}{l:List Rc}(h:w.ownsRow base 283 2 (.slice (some ⟨g,0,none⟩) n c) n (recs l))(hr:l[j]? =some r):w.cell? ⟨g,j*2,none⟩=some (.int .u64 r.1)∧w.cell? ⟨g,j*2+1,none⟩=some (.int .u64 r.2):=by
 obtain⟨g',e',h',-⟩:=dZ h;injection e' with e';subst e';obtain⟨q0,q1⟩:=oL l j r hr;exact⟨h' _ _ q0,h' _ _ q1⟩
def Fz(Al A:Option dd)(l lk:List Rc)(cp j:Nat):Prop:=j+lk.length=l.length∧(lk≠[]->∃g,Al=some ⟨g,0,none⟩∧A=some ⟨g,j*2,none⟩∧lk.length<=cp)
theorem Fz.start{A:Option dd}{l:List Rc}(h:w.ownsRow base 283 2 (.slice A l.length cp) l.length (recs l)):Fz A A l l cp 0:=
 ⟨by omega,fun hl=>by
  obtain⟨g,e⟩:=gY h (cJ.2 hl);exact⟨g,e,by rw[e],mM h⟩⟩
theorem Fz.step{Al A:Option dd}{l t:List Rc}(h:Fz Al A l (r::t) cp j):∃A',sliced A 1 (t.length+1) cp 2=.slice A' t.length (cp-1)∧Fz Al A' l t (cp-1) (j+1):=by
 obtain⟨h1,h2⟩:=h;obtain⟨g,e1,rfl,h3⟩:=h2 (by simp);rw[List.length_cons]at h1 h3;refine⟨_,rfl,by omega,fun ht=>⟨g,e1,?_,by omega⟩⟩;have:=cJ.2 ht;rw[if_neg (by omega)];simp[Addr.add]
theorem Dm.start{l:List Rc}(h1:V.length=n)(h2:L.length=n):Dm n V l 0 V L:=⟨h1,h2,fun _ h=>by omega⟩
variable {E:zH}{ms:Int->Int}
theorem Dm.sup{l:List Rc}(h:Dm n V l n V' L')(hb:∀k,iq (sent ms E V L) k (look l k)):Sup ms n E V L V' L':=
 ⟨h.hv,h.hl,fun v hv=>⟨_,hb v,h.at_ v hv⟩⟩
theorem keys_in{l:List Rc}(hb:∀k,iq (sent ms E V L) k (look l k))(hup:l.Pairwise fun x y=>x.1<y.1)(hE:∀e∈E,e.2<n):∀r∈l,0<=r.1∧r.1<(n:Int):=fun r hr=>by
 have h:=hb r.1;rw[uw (yY hup) hr]at h;obtain⟨e,he,-,h2,-⟩:=yC.1 h.1;have:=hE e he;omega
def pq(w9 wr:an)(g1 g2 n c1 c2:Nat)(V:List Int)(l:List Rc)(k:Nat):Prop:=
 ∃V' L',lZ wr (some ⟨g1,0,none⟩) (some ⟨g2,0,none⟩) n c1 c2 V' L'∧Dm n V l k V' L'∧Keeps (fun j=>j=g1∨j=g2) w9 wr
theorem pq.step{w9 wr w':an}{g1 g2 n c1 c2 k:Nat}{V:List Int}{l:List Rc}(h:pq w9 wr g1 g2 n c1 c2 V l k)(hb:Keeps (fun _=>False) wr w')(hk:k<n){x:Int}{b:Bool}(hx:(x,b)=AX (V.getD k 0) (look l (k:Int))):
 pq w9 ((w'.setCell ⟨g1,k,none⟩ (.int .u64 x)).setCell ⟨g2,k,none⟩ (.bool b)) g1 g2 n c1 c2 V l (k+1):=by
 obtain⟨V',L',h1,h2,h3⟩:=h;exact⟨_,_,(h1.keep hb fun _ _=>id).set hk x b,h2.step hk hx,((h3.trans (hb.mono fun _ _ h=>h.elim) fun _ h=>.inl h).setCell (a:=⟨g1,k,none⟩) (.inl (.inl rfl)) _).setCell (a:=⟨g2,k,none⟩) (.inl (.inr rfl)) _⟩
theorem pq.keep{w9 wr w':an}{g1 g2 n c1 c2 k:Nat}{V:List Int}{l:List Rc}(h:pq w9 wr g1 g2 n c1 c2 V l k)(hb:Keeps (fun _=>False) wr w'):pq w9 w' g1 g2 n c1 c2 V l k:=by
 obtain⟨V',L',h1,h2,h3⟩:=h;exact⟨V',L',h1.keep hb fun _ _=>id,h2,h3.trans (hb.mono fun _ _ h=>h.elim) fun _ h=>.inl h⟩
theorem pq.put{w9 wr:an}{g1 g2 c1 c2:Nat}{l:List Rc}(h:pq w9 wr g1 g2 n c1 c2 V l k)(hk:k<n)(x:Int):pq w9 (wr.setCell ⟨g1,k,none⟩ (.int .u64 x)) g1 g2 n c1 c2 V l k:=by
 obtain⟨V',L',h1,h2,h3⟩:=h;obtain⟨l1,l2⟩:=h1.len;refine⟨V'.set k x,L',⟨?_,b_ (p:=⟨g1,k,none⟩) h1.l (fun e=>by injection e with e;exact h1.ne e) _⟩,⟨by simpa using h2.hv,h2.hl,fun v hv=>?_⟩,h3.setCell (a:=⟨g1,k,none⟩) (.inl (.inl rfl)) _⟩
 .rw[<-yZ];exact nJ h1.v k _ (by simp[nums];omega)
 .rw[dL _ _ _ _ _ (by omega),if_neg (by omega)];exact h2.at_ v hv
end Go.Proofs.YtlhhcnknclnlaaaGreatDoor.Top
