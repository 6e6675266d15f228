/- Parts of the proof. -/
import Derived.Shelf.SlSortCmp.NoneTotal
import Derived.RangeFuncNested
import Derived.RangeFuncBound
import Derived.RangeFuncCalls
import Derived.RangeFuncLeaves
import Derived.RangeFuncBox
import Derived.RangeFuncFrom
import Derived.Shelf.Abstract
import Derived.Shelf.RegionOpen
import Derived.WalkKit
import Derived.OwnWalkIn
import Derived.TacticsInMore
import Derived.LoopNIn
import Derived.LoopIn
import Derived.Maps.AppendAt
import Derived.Deep.LoopGhost
import Derived.Test.YtlhhcnknclnlaaaGreatDoorS01
import Derived.Test.YtlhhcnknclnlaaaGreatDoorS03
set_option linter.all false
set_option maxRecDepth 100000
set_option maxHeartbeats 16000000
open Nat renaming lt_of_lt_of_le->aa,le_refl->ao,le_trans->cC,zero_le->cM,zero_add->cY,le_of_eq->fp
open Go.Sort renaming grow->ab,alloc_eq_grow->az,flatK->bb,grow_grow->bk,heap_grow_old->cD,putCells->dq,size_flatK->dy,putRow->eh,ahead->et,grow_empty->eM,mapBlock->eN
open Go.Proofs.Tryz renaming prog->ae,underlying383->bz,underlying366->ca,underlying279->c_,ntmps271->dr,func271->du,ntmps283->ek,ntmps275->eo,func280->ey,func283->eJ,func275->eK,ntmps280->eQ,ntmps282->eS,ntmps274->eW,ntmps270->fb,ntmps257->fc,ntmps265->fe,t283->fg,func269->fh,func282->fi,func274->fk,func270->fl,func257->fm,func265->ft,t383->fw,t366->fy
open List renaming getElem?_cons_succ->af,getElem?_cons_zero->ag,filterMap_cons->al,filterMap_nil->an,getElem?_eq_getElem->ax,eq_nil_of_length_eq_zero->ba,getD_eq_getElem?_getD->cd,length_set->cq,set_append_right->cx,getElem?_take->cE,take_of_length_le->cF,getElem?_eq_none->cH,length_cons->cI,length_take->cJ,append_toArray->cX,getElem?_append_right->df,drop_eq_getElem_cons->dg,getElem?_eq_some_iff->di,size_toArray->dj,push_toArray->dp,cons_append->dt,drop_eq_nil_of_le->dv,length_nil->dC,nil_append->dE,take_append_drop->ef,ext_getElem?->ew,take_add_one->ez,flatten_cons->eI,map_cons->eR
open Go renaming Value->ai,World->aq,TypeId->bj,Calls->cy,FuncId->cG
open Go.RowKit renaming Below->ar
open Go.RowKit.Below renaming refl->aw
open Array renaming getElem?_eq_getElem->aE,getElem?_eq_some_iff->bt,getElem?_toList->cm,replicate_succ->cN,replicate_zero->cU,getElem?_modify->dT
open Go.IntKind renaming wrap_i64->a_,i64->cz
open Go.Calls renaming grown_of->cA
open Go.Value renaming slice->cW,ownBlock->da,int->fv
open Go.Result renaming andThen->dd
open Go.Act renaming eval->de
open Go.Proofs.Tryz
namespace Go.Proofs.YtlhhcnknclnlaaaGreatDoor.Top
open Go Go.WideShapes Go.RowKit Go.Proofs.YtlhhcnknclnlaaaGreatDoor.iH Go.Proofs.YtlhhcnknclnlaaaGreatDoor.Oct Go.Proofs.ah.aN Go.Proofs.ah.bA
def EL:Go.Shelf.Ren:=⟨fun|6=>279|15=>65|14=>285|28=>85|29=>86|20=>286|21=>287|22=>288|23=>289|24=>290|25=>291|26=>292|27=>293|46=>294|47=>97|48=>98|49=>295|50=>296|57=>297|n=>n,fun|22=>279|24=>283|25=>389|3=>3|39=>75|0=>0|53=>22|55=>36|4=>4|46=>154|45=>153|50=>159|5=>5|9=>9|66=>172|70=>176|76=>197|77=>198|n=>n,fun|n=>n⟩
theorem J4:Go.Proofs.SlLaysF0.n6 ae EL:=
 {mixed:=by kernel_rfl,
  f6:=⟨Tryz.f279.name,by decide,func279.trans (congrArg some (by kernel_rfl))⟩,
  f14:=⟨Tryz.f285.name,by decide,func285.trans (congrArg some (by kernel_rfl))⟩,
  f15:=func65.trans (congrArg some (by kernel_rfl)),
  f20:=⟨Tryz.f286.name,by decide,func286.trans (congrArg some (by kernel_rfl))⟩,
  f21:=⟨Tryz.f287.name,by decide,func287.trans (congrArg some (by kernel_rfl))⟩,
  f22:=⟨Tryz.f288.name,by decide,func288.trans (congrArg some (by kernel_rfl))⟩,
  f23:=⟨Tryz.f289.name,by decide,func289.trans (congrArg some (by kernel_rfl))⟩,
  f24:=⟨Tryz.f290.name,by decide,func290.trans (congrArg some (by kernel_rfl))⟩,
  f25:=⟨Tryz.f291.name,by decide,func291.trans (congrArg some (by kernel_rfl))⟩,
  f26:=⟨Tryz.f292.name,by decide,func292.trans (congrArg some (by kernel_rfl))⟩,
  f27:=⟨Tryz.f293.name,by decide,func293.trans (congrArg some (by kernel_rfl))⟩,
  f28:=func85.trans (congrArg some (by kernel_rfl)),
  f29:=func86.trans (congrArg some (by kernel_rfl)),
  f46:=⟨Tryz.f294.name,by decide,func294.trans (congrArg some (by kernel_rfl))⟩,
  f47:=func97.trans (congrArg some (by kernel_rfl)),
  f48:=func98.trans (congrArg some (by kernel_rfl)),
  f49:=⟨Tryz.f295.name,by decide,func295.trans (congrArg some (by kernel_rfl))⟩,
  f50:=⟨Tryz.f296.name,by decide,func296.trans (congrArg some (by kernel_rfl))⟩,
  f57:=⟨Tryz.f297.name,by decide,func297.trans (congrArg some (by kernel_rfl))⟩,
  t0:=underlying0,
  a0:=isAgg0,
  z0:=sizeOf0,
  v0:=zeroValue0,
  t3:=underlying3,
  a3:=isAgg3,
  z3:=sizeOf3,
  v3:=zeroValue3,
  t4:=underlying4,
  a4:=isAgg4,
  z4:=sizeOf4,
  v4:=zeroValue4,
  t5:=underlying5,
  a5:=isAgg5,
  z5:=sizeOf5,
  v5:=zeroValue5,
  t9:=underlying9,
  a9:=isAgg9,
  z9:=sizeOf9,
  v9:=zeroValue9,
  t22:=c_,
  a22:=isAgg279,
  z22:=sizeOf279,
  v22:=zeroValue279,
  t25:=underlying389,
  a25:=isAgg389,
  z25:=sizeOf389,
  v25:=zeroValue389,
  t39:=underlying75,
  a39:=isAgg75,
  z39:=sizeOf75,
  v39:=zeroValue75,
  t45:=underlying153,
  a45:=isAgg153,
  z45:=sizeOf153,
  v45:=zeroValue153,
  t46:=underlying154,
  a46:=isAgg154,
  z46:=sizeOf154,
  v46:=zeroValue154,
  t50:=underlying159,
  a50:=isAgg159,
  z50:=sizeOf159,
  v50:=zeroValue159,
  t53:=underlying22,
  a53:=isAgg22,
  z53:=sizeOf22,
  v53:=zeroValue22,
  t55:=underlying36,
  a55:=isAgg36,
  z55:=sizeOf36,
  v55:=zeroValue36,
  t66:=underlying172,
  a66:=isAgg172,
  z66:=sizeOf172,
  v66:=zeroValue172,
  t70:=underlying176,
  a70:=isAgg176,
  z70:=sizeOf176,
  v70:=zeroValue176,
  t76:=underlying197,
  a76:=isAgg197,
  z76:=sizeOf197,
  v76:=zeroValue197,
  t77:=underlying198,
  a77:=isAgg198,
  z77:=sizeOf198,
  v77:=zeroValue198}
theorem Qi(w:aq)(r k:Rc):cy ae 281 #[rg r,rg k] w fun e w'=>e=.returned (.bool (nu r k))∧∃os,w'=ab w os:=by
 obtain⟨r1,r2⟩:=r;obtain⟨k1,k2⟩:=k;have hB:∃os,(w.alloc (.cells #[.int .u64 r1,.int .u64 r2] 283 (0,0))).alloc (.cells #[.int .u64 k1,.int .u64 k2] 283 (0,0))=ab w os:=⟨_,by rw[az,az,bk]⟩
 have HB:=Y1 hB;clear hB;unfold rg nu;go_enter func281,ntmps281;by_cases h1:r1<k1
 .go_wp2
  go_ret;exact⟨by simp[h1],HB.out⟩
 .by_cases h2:r1=k1
  .subst h2
   go_wp2
   go_ret;exact⟨by simp,HB.out⟩
  .go_wp2
   go_ret;exact⟨by simp[h1,h2],HB.out⟩
theorem sI(w:aq)(os:Array Obj):ar w.heap.size w (ab w os):=⟨rfl,rfl,rfl,by simp,fun _ hk=>cD _ _ hk⟩
theorem LA(w:aq)(r k:Rc):cy ae 269 #[rg r,rg k] w fun e w'=>e=.returned (.int .i64 (cmp r k))∧∃os,w'=ab w os:=by
 have s0:St (w.alloc (.cells #[.int .u64 r.1,.int .u64 r.2] 283 (0,0))) w.heap.size 283 [.int .u64 r.1,.int .u64 r.2]:=St.new _ _ _;have hB:∃os,(w.alloc (.cells #[.int .u64 r.1,.int .u64 r.2] 283 (0,0))).alloc (.cells #[.int .u64 k.1,.int .u64 k.2] 283 (0,0))=ab w os:=⟨_,by rw[az,az,bk]⟩
 have s1:=s0.alloc (.cells #[.int .u64 k.1,.int .u64 k.2] 283 (0,0));have x1:St ((w.alloc (.cells #[.int .u64 r.1,.int .u64 r.2] 283 (0,0))).alloc (.cells #[.int .u64 k.1,.int .u64 k.2] 283 (0,0))) (w.heap.size+1) 283 [.int .u64 k.1,.int .u64 k.2]:=by
  simpa using St.new (w.alloc (.cells #[.int .u64 r.1,.int .u64 r.2] 283 (0,0))) 283 #[.int .u64 k.1,.int .u64 k.2]
 have HB:=Y3 hB s1 x1;clear hB s1 x1 s0;have hb1:=Qi;obtain⟨z,hz⟩:=ex (cmp r k)
 rw[<-hz];have HZ:=Y1 hz;clear hz;unfold rg at hb1⊢;go_enter fh,ntmps269
 go_wp2_with fail
 generalize ((w.alloc (.cells #[.int .u64 r.1,.int .u64 r.2] 283 (0,0))).alloc (.cells #[.int .u64 k.1,.int .u64 k.2] 283 (0,0)))=W1 at*;refine(hb1 W1 r k).mono ?_;rintro e W2 ⟨rfl,os2,rfl⟩;have B2:∃os,ab W1 os2=ab w os:=by obtain⟨os,h⟩:=HB.out.1;exact⟨_,by rw[h,bk]⟩
 have b2:=sI W1 os2;have s2:St (ab W1 os2) w.heap.size 283 _:=(b2.block _ HB.out.2.1.lt).trans HB.out.2.1;have x2:St (ab W1 os2) (w.heap.size+1) 283 _:=(b2.block _ HB.out.2.2.lt).trans HB.out.2.2;generalize ab W1 os2=W2 at*;have c0:=s2.cell 0 rfl;have c1:=s2.cell 1 rfl;have d0:=x2.cell 0 rfl;have d1:=x2.cell 1 rfl;have HC:=Y1 B2;clear b2 B2 s2 x2;cases h1:nu r k with
 |true=>
  have H1:=Y1 h1;clear h1
  go_wp2
  go_ret;exact⟨by simp[HZ.out,cmp,H1.out],HC.out⟩
 |false=>
  have H1:=Y1 h1;clear h1
  go_wp2_with fail
  refine(hb1 W2 k r).mono ?_;rintro e W3 ⟨rfl,os3,acM⟩;have B3:=Y1 (show ∃os,W3=ab w os by obtain⟨os,h⟩:=HC.out;exact⟨_,by rw[acM,h,bk]⟩);clear acM c0 c1 d0 d1;cases h2:nu k r with
  |true=>
   have H2:=Y1 h2;clear h2
   go_wp2
   go_ret;exact⟨by simp[HZ.out,cmp,H1.out,H2.out],B3.out⟩
  |false=>
   have H2:=Y1 h2;clear h2
   go_wp2
   go_ret;exact⟨by simp[HZ.out,cmp,H1.out,H2.out],B3.out⟩
theorem lF(x y:Rc):ltOf cmp x y=nu x y:=by
 unfold ltOf cmp;cases h1:nu x y<;>cases h2:nu y x<;>simp
theorem Uv:Sort.SWO (ltOf cmp) where
 irrefl x:=by rw[lF];exact jW.irrefl x
 trans x y z:=by rw[lF,lF,lF];exact jW.trans x y z
 ntrans x y z:=by rw[lF,lF,lF];exact jW.ntrans x y z
theorem Bd(d:Array Rc):(bb rv 2 d).toList=recs d.toList:=by
 refine ew fun i=>?_
 by_cases hi:i<d.size*2
 .have h1:=Sort.get_flatK rv 2 d i hi;have h2:(bb rv 2 d).toList[i]? =some (rv d[i/2]!)[i%2]! :=by
   rw[<-h1,cm,aE (by simpa using hi),getElem!_pos (bb rv 2 d) i (by simpa using hi)]
  rw[h2];have hk:i/2<d.size:=by omega
  have hr:d.toList[i/2]? =some d[i/2]! :=by rw[cm,aE hk,getElem!_pos d (i/2) hk]
  obtain⟨q0,q1⟩:=oL _ _ _ hr;rcases Nat.mod_two_eq_zero_or_one i with h|h
  .rw[show i/2*2=i by omega]at q0;rw[q0,h];rfl
  .rw[show i/2*2+1=i by omega]at q1;rw[q1,h];rfl
 .rw[cH (by simp;omega),cH (by rw[jm];simp;omega)]
variable {d':Array Rc}
theorem Uw{d:Array Rc}(h:Sort.PermIn 0 d.size d d'):d'.toList.Perm d.toList:=by
 have:=h.2.2;rwa [show d'.extract 0 d.size=d' by rw[<-h.1];simp,show d.extract 0 d.size=d by simp]at this
theorem Y_(h:Sort.SortedIn (ltOf cmp) 0 d'.size d'):wZ d'.toList:=by
 unfold wZ;rw[List.pairwise_iff_getElem];intro i j hi hj hij;have:=h i j (cM _) hij (by simpa using hj);rw[lF,getElem!_pos d' j (by simpa using hj),getElem!_pos d' i (by simpa using hi)]at this;simpa using this
theorem EM(w:aq)(g n:Nat)(d:Array Rc)(os:Array Obj)(cur:Array ai)(t:bj)(hg:w.heap[g]? =some (.cells cur t (0,0))):
 (sortWorldK rv 2 w g 0 n d os).heap[g]? =some (.cells (dq id 0 (bb rv 2 d) cur) t (0,0))∧(∀k,k<w.heap.size->k≠g->(sortWorldK rv 2 w g 0 n d os).heap[k]? =w.heap[k]?)∧w.heap.size<=(sortWorldK rv 2 w g 0 n d os).heap.size:=by
 have hgl:=(bt.1 hg).1;refine⟨?_,fun k hk hne=>?_,size_sortWorldK_c rv 2 w g 0 n d os⟩
 .show(ab (eh id (et w n) g 0 (bb rv 2 d)) os).heap[g]? =_;rw[cD _ _ (by simpa[eh,eN,et]using hgl)];show((w.heap.modify g _)[g]?)=_;rw[dT,if_pos rfl,hg];rfl
 .show(ab (eh id (et w n) g 0 (bb rv 2 d)) os).heap[k]? =_;rw[cD _ _ (by simpa[eh,eN,et]using hk)];show((w.heap.modify g _)[k]?)=_;rw[dT,if_neg (Ne.symm hne)]
theorem Ux{w:aq}{B n:Nat}{v:ai}{l:List Rc}(ho:w.ownsRow B 283 2 v n (recs l))(hn:l.length=n)(hs:n<1000000):
 cy ae 279 #[v,.func (.func 269) #[] #[]] w fun e w'=>e=.returned (.tuple #[])∧∃l',w'.ownsRow B 283 2 v n (recs l')∧l'.Perm l∧wZ l'∧Keeps (fun k=>v.ownBlock=some k) w w':=by
 have eg:∀args w,(callFunc 269 args).run ae w=.ok (.enter 269 args) w:=enters_of fh (by kernel_rfl) rfl;rcases ho.2 with⟨rfl,rfl⟩|⟨g,cap,cur,rfl,h2,hg,h4,h5,h6,h7⟩
 .have hl:=ba hn;subst hl;refine(AnyF.slices_SortFunc_none J4 none 0 (.func (.func 269) #[] #[]) w).mono ?_;rintro e w' ⟨rfl,rfl⟩;exact⟨rfl,[],ho,List.Perm.refl _,List.Pairwise.nil,Keeps.refl _ _⟩
 .have hF:∀j,j<n*2->cur[j]? =some (bb rv 2 l.toArray)[j]! :=by
   intro j hj;have h1:(recs l)[j]? =cur[j]? :=by rw[<-h7,cE,if_pos hj];simp
   have h2:j<(bb rv 2 l.toArray).size:=by rw[dy];simpa[hn]using hj
   rw[<-h1,show recs l=(bb rv 2 l.toArray).toList by rw[Bd],cm,aE h2,getElem!_pos (bb rv 2 l.toArray) j h2]
  have hH:Sort.HoldsK rv 2 w g 0 l.toArray:=by
   intro j hj;rw[dy]at hj;have hj:j<n*2:=by simpa[hn]using hj
   refine⟨?_,by simp[World.frozen?,hg]⟩;have:=hF j hj;simp only[World.cell?,hg,cY];exact this
  have hcmp:CmpLays ae 269 #[] rv 2 cmp g 0 l.toArray.size w:=fun m os dk _ x y=>by
   refine(LA _ x y).mono ?_;rintro e w' ⟨rfl,os',rfl⟩;exact⟨rfl,0,os',rfl⟩
  have hcon:=AnyQ.slices_SortFunc J4 2 (fun w=>isAgg283 w) (fun w=>sizeOf283 w) rv (fun _=>rfl) (fun x v hv=>by simp[rv]at hv;rcases hv with rfl|rfl<;>rfl) cmp Uv 269 #[] g 0 cap l.toArray w eg hcmp hH (bt.1 hg).1 (by simp;omega);rw[show l.toArray.size=n by simpa using hn]at hcon;refine hcon.mono ?_;rintro e w' ⟨rfl,d',m,os,hp,hS,rfl⟩;have hp':=Uw (d:=l.toArray) (by rw[show l.toArray.size=n by simpa using hn];exact hp);have hds:d'.size=n:=by rw[hp.1];simpa using hn
  obtain⟨a1,a2,a3⟩:=EM w g m d' os cur 283 hg;have hps:(dq id 0 (bb rv 2 d') cur).size=cur.size:=by simp[dq]
  refine⟨rfl,d'.toList,⟨by rw[jm];simp[hds];omega,.inr ⟨g,cap,_,rfl,h2,a1,h4,h5,by rw[hps];exact h6,?_⟩⟩,by simpa using hp',Y_ (by rw[hds];exact hS),⟨rfl,rfl,rfl,a3,fun k hk hne=>a2 k hk fun e=>hne (by simp[da,e])⟩⟩;refine ew fun j=>?_
  rw[cE];by_cases hj:j<n*2
  .have hjc:j<cur.size:=by
    have:=(bt.1 (hF j hj)).1;exact this
   have hjf:j<(bb rv 2 d').size:=by rw[dy,hds];exact hj
   rw[if_pos hj,<-Bd,cm,cm,dq,Array.getElem?_mapIdx,aE hjc,aE hjf];simp only[Option.map_some,cM,true_and,cY,Nat.sub_zero,if_pos hjf,id,getElem!_pos (bb rv 2 d') j hjf]
  .rw[if_neg hj,cH (by rw[jm];simp[hds];omega)]
end Go.Proofs.YtlhhcnknclnlaaaGreatDoor.Top
namespace Go.Proofs.YtlhhcnknclnlaaaGreatDoor.Top
open Go Go.WideShapes Go.RowKit Go.Shelf Go.Proofs.YtlhhcnknclnlaaaGreatDoor.iH Go.Proofs.YtlhhcnknclnlaaaGreatDoor.Oct Go.Proofs.ah.aN Go.Proofs.ah.bA
section
attribute [local go_sem] Oper.semAt_some
theorem LB(F:Fence)(n:Nat)(h7:F.fn 280)(hro:F.round=none)(hn:1<=n)(l Bs n₀ b off len cap:Nat)(zs:List Rc)(hlen:zs.length=len)(jh:len<=1000000)(hb:b<n₀)(J Jx:List Rc->aq->Prop)(hY:∀pre x W,J pre W->pre.length<len->YieldAt F (n-1) ae l #[rg x] W fun e W'=>   (e=.returned (.bool true)∧J (pre++[x]) W'∧ar n₀ W W')∨(e=.returned (.bool false)∧Jx (pre++[x]) W'))(W:aq)(hn0:n₀<=W.heap.size)(hJ:AbidesFrom W.heap.size J)(pI:W.cell? ⟨Bs,0,none⟩=some (.slice (some ⟨b,off,none⟩) len cap))(hc:∀j u,(recs zs)[j]? =some u->W.cell? ⟨b,off+j,none⟩=some u)(h0:J [] W):
 CallsIn F n ae 280 #[.func (.yield l) #[] #[],.pointer (some ⟨Bs,0,none⟩)] W fun e W'=>(∃v,e=.returned v)∧
  ((∃ys,ys=zs∧J ys W')∨(∃pre,pre <+: zs∧Jx pre W')):=by
 refine callsIn_of_wp ey rfl h7 ?_ hro;simp only[eQ,dj,cI,dC,Nat.reduceAdd,Nat.reduceSub,cN,cU,dp,cX,dE,dt];have HC:=Y2 hc h0;clear hc
 gi_wp2
 gi_loopw [7] (fun i wr=>∃k:Nat,k<=len∧i=.int .i64 k∧aG (J (zs.take k) wr∧ar n₀ W wr)) (fun i _=>len-(intOf i).toNat)
 case atStart=>exact⟨0,cM _,rfl,⟨HC.out.2,aw _ _⟩⟩
 case round=>
  obtain⟨k,hk,rfl,hR⟩:=hrel;by_cases hlt:k<len
  .obtain⟨r,hr⟩:∃r,zs[k]? =some r:=⟨_,ax (by omega)⟩
   obtain⟨q0,q1⟩:=oL zs k r hr;have x0:=(hR.out.2.cell (p:=⟨b,off+k*2,none⟩) hb).trans (HC.out.1 _ _ q0);have x1:=(hR.out.2.cell (p:=⟨b,off+k*2+1,none⟩) hb).trans (HC.out.1 _ _ q1);have bN:=Boxed.new wr 283 (.int .u64 0);have hJa:=hJ _ wr (wr.alloc (.cells #[.int .u64 r.1,.int .u64 r.2] 283 (0,0))) none hR.out.1 (World.grownBy_alloc wr _ none) (fun r e=>by cases e);obtain⟨fn,tmps,assign,body,hy,hRd⟩:=hY _ r _ hJa (by rw[cJ];omega);have HQ:=Y1 (show ar n₀ wr (wr.alloc (.cells #[.int .u64 r.1,.int .u64 r.2] 283 (0,0)))∧zs.take (k+1)=zs.take k++[r]from⟨(aw _ wr).alloc (cC hn0 hR.out.2.size) _,by rw[ez,hr];rfl⟩);clear q0 q1 hr hJa bN;have hlt':(k:Int)<len:=by omega
   unfold rg at hy
   gi_wp2
   refine hRd.mono ?_;rintro e W3 (⟨rfl,hJ3,hk3⟩|⟨rfl,hJx3⟩)
   .have HZ:=Y2 hJ3 hk3;clear hJ3 hk3 hRd
    gi_wp2
    go_roundw
    case rel=>exact⟨k+1,by omega,by simp,⟨by rw[HQ.out.2];exact HZ.out.1,hR.out.2.trans (HQ.out.1.trans HZ.out.2)⟩⟩
    case measure=>simp[intOf];omega
   .have HZ:=Y1 hJx3;clear hJx3 hRd
    gi_wp2
    refine bodyPost_ret (results_none rfl _ _ _) rfl ?_;exact⟨⟨_,rfl⟩,.inr ⟨_,by rw[<-HQ.out.2];exact List.take_prefix _ _,HZ.out⟩⟩
  .obtain rfl:k=len:=by omega
   have hlt':¬(k:Int)<k:=by omega
   gi_wp2
   go_end0
   exact⟨⟨_,rfl⟩,.inl (by have:=hR.out.1;rwa [cF (by omega)]at this)⟩
def jD(n₀:Nat)(W:aq)(sv:ai)(zs:List Rc):Prop:=
 ∃A cap,sv=.slice A zs.length cap∧(A=none->zs=[])∧∀a,A=some a->a.block<n₀∧∃b off,a=⟨b,off,none⟩∧∀j u,(recs zs)[j]? =some u->W.cell? ⟨b,off+j,none⟩=some u
variable {sv:ai}{zs:List Rc}
theorem jD.below{n₀:Nat}{A B:aq}(h:ar n₀ A B):jD n₀ A sv zs->jD n₀ B sv zs
 |⟨a,cap,e,h1,h2⟩=>⟨a,cap,e,h1,fun x hx=>by
  obtain⟨hb,b,off,rfl,hc⟩:=h2 x hx;exact⟨hb,b,off,rfl,fun j u hj=>(h.cell (p:=⟨b,off+j,none⟩) hb).trans (hc j u hj)⟩⟩
theorem zN(F:Fence)(n:Nat)(h7:F.fn 280)(hro:F.round=none)(l Bs:Nat)(a:Option Addr)(cap:Nat)(J:List Rc->aq->Prop)(W:aq)(pI:W.cell? ⟨Bs,0,none⟩=some (.slice a 0 cap))(h0:J [] W):
 CallsIn F n ae 280 #[.func (.yield l) #[] #[],.pointer (some ⟨Bs,0,none⟩)] W fun e W'=>(∃v,e=.returned v)∧J [] W':=by
 refine callsIn_of_wp ey rfl h7 ?_ hro;simp only[eQ,dj,cI,dC,Nat.reduceAdd,Nat.reduceSub,cN,cU,dp,cX,dE,dt]
 gi_wp2
 gi_loopw [7] (fun i wr=>i=.int .i64 0∧J [] wr) (fun _ _=>0)
 case atStart=>exact⟨rfl,h0⟩
 case round=>
  obtain⟨rfl,hJs⟩:=hrel
  gi_wp2
  go_end0
  exact⟨⟨_,rfl⟩,hJs⟩
theorem EN(F:Fence)(n:Nat)(h7:F.fn 280)(hro:F.round=none)(hn:1<=n)(Bs n₀:Nat)(sv:ai)(zs:List Rc)(jh:zs.length<=1000000)(w:aq)(pI:Bs<w.heap.size)(hn₀:n₀<=w.heap.size)(hc:w.cell? ⟨Bs,0,none⟩=some sv)(hI:jD n₀ w sv zs):
 SeqStopsK F n ae 280 #[.pointer (some ⟨Bs,0,none⟩)] (fun x:Rc=> #[rg x]) (ar n₀) (fun ys=>ys=zs) (fun pre=>pre <+: zs) zs.length w:=fun l J Jx W hW hJ _ hY h0=>by
 have hc':=(hW.cell (p:=⟨Bs,0,none⟩) pI).trans hc;obtain⟨A,cap,rfl,h1,h2⟩:=hI.below (hW.mono hn₀);by_cases hz:zs=[]
 .subst hz;exact(zN F n h7 hro l Bs A cap J W hc' h0).mono fun e W' ⟨he,hj⟩=>⟨he,.inl ⟨_,rfl,hj⟩⟩
 .cases A with
  |none=>exact absurd (h1 rfl) hz
  |some a=>
   obtain⟨hb,b,off,rfl,hcs⟩:=h2 _ rfl;exact LB F n h7 hro hn l Bs n₀ b off zs.length cap zs rfl jh hb J Jx hY W (cC hn₀ hW.size) hJ hc' hcs h0
theorem J5(w:aq)(v:ai)(hv:∃a n c,v=.slice a n c):cy ae 268 #[v] w fun e w'=>e=.returned (.func (.func 280) #[] #[.pointer (some ⟨w.heap.size,0,none⟩)])∧w'=w.alloc (.cells #[v] 279 (0,0)):=by
 obtain⟨a,n,c,rfl⟩:=hv;go_enter func268,ntmps268
 go_wp2
 go_ret;exact⟨rfl,rfl⟩
theorem Uy:(ae.info? 283).map (fun i=>(i.zero,i.size,i.bytes))=some (some (.agg #[.int .u64 0,.int .u64 0]),2,16):=by kernel_rfl
theorem Ie(F:Fence)(n:Nat)(h3:F.fn 284)(h5:F.fn 280)(hro:F.round=none)(hn:3<=n)(Bs:Nat)(sv:ai)(zs:List Rc)(jh:zs.length<=1000000)(w:aq)(pI:Bs<w.heap.size)(hc:w.cell? ⟨Bs,0,none⟩=some sv)(hI:jD w.heap.size w sv zs):
 CallsIn F n ae 284 #[.slice none 0 0,.func (.func 280) #[] #[.pointer (some ⟨Bs,0,none⟩)]] w fun e W'=>∃v,e=.returned v∧W'.ownsRow w.heap.size 283 2 v zs.length (recs zs)∧ar w.heap.size w W':=by
 have h1:1<=n:=by omega
 obtain⟨i0,hi,hz0,hz1,hz2⟩:=info_parts Uy;refine callsIn_of_wp_marks func284 rfl h3 ?_ hro;simp only[ntmps284,dj,cI,dC,Nat.reduceAdd,Nat.reduceSub,cN,cU,dp,cX,dE,dt]
 gi_wp2
 have bO:=Boxed.new w 279 (.slice none 0 0);have hB0:ar w.heap.size w (w.alloc (.cells #[.slice none 0 0] 279)):=(aw _ w).alloc (ao _) _;refine wpIn_rangeFunc_ownH hro h1 (gf:=280) (lb:= #[.pointer (some ⟨Bs,0,none⟩)]) rfl h5 (enters_of ey (by kernel_rfl) rfl)
  (EN F (n-1) h5 hro (by omega) Bs w.heap.size sv zs jh _ (by simp;omega) (by simp) ((hB0.cell (p:=⟨Bs,0,none⟩) pI).trans hc) (hI.below hB0)) belowK_t (belowK_b (by simp)) (aw _ _) (fun _=>rfl)
  (fun pre W=>(∃v,Boxed W w.heap.size 279 v∧W.ownsRow w.heap.size 283 2 v pre.length (recs pre)∧True)∧ar w.heap.size w W)
  (fun _ _ _=>False)
  (OwnFrom.and (Own.from (holdsRow_own w.heap.size w.heap.size 279 283 2 (fun pre=>pre.length) (fun pre=>recs pre) (fun _ _=>True)) _) (ownFrom_below (ao _) (by simp)))
  (fun _ _ _ _ _ hs _ _=>hs)
  ⟨⟨_,bO,World.ownsRow_nil _ _ 283 2,trivial⟩,hB0⟩
  (fun x a' W=>∃Bx,w.heap.size<Bx∧W.heap[Bx]? =some (.cells #[.int .u64 x.1,.int .u64 x.2] 283 (0,0))∧a'={tmps:= #[.slice none 0 0,.func (.func 280) #[] #[.pointer (some ⟨Bs,0,none⟩)],.pointer (some ⟨w.heap.size,0,none⟩),undef,.slice none 0 0,.pointer (some ⟨Bx,0,none⟩),.func (.func 280) #[] #[.pointer (some ⟨Bs,0,none⟩)],rg x,undef,undef,undef,undef,undef],defers:=[]})
  (fun x a' _ X Y row hs hg hr=>by obtain⟨Bx,h1,h2,h3⟩:=hs;exact⟨Bx,h1,(hg.block Bx (bt.1 h2).1 (fun e=>by obtain⟨_,o,ho,hoc⟩:=hr _ e.symm;rw[h2]at ho;cases ho;cases hoc)).trans h2,h3⟩)
  ?assign ?body ?done ?stop
 case assign=>
  rintro l pre x W K ⟨⟨v,bv,ho,-⟩,hB⟩ hK;unfold rg at hK⊢
  gi_wp2
  exact hK _ _ ((KeepsOthers.alloc _ _).from _) ((aw _ W).alloc hB.size _) ⟨⟨v,bv.alloc _,ho.alloc _,trivial⟩,hB.alloc hB.size _⟩ ⟨W.heap.size,bv.lt,heap_alloc_new _ _,rfl⟩
 case body=>
  rintro l pre x a' W hl ⟨r,hr⟩ ⟨⟨v,bv,ho,-⟩,hB⟩ ⟨Bx,hBx,bX,rfl⟩ hlt;have hS:St W Bx 283 [.int .u64 x.1,.int .u64 x.2]:=bX;have x0:=hS.cell 0 rfl;have x1:=hS.cell 1 rfl;have c0:=bv.cell;have f0:=bv.frozen;unfold rg;have hnew:=St.new W 283 #[.int .u64 x.1,.int .u64 x.2];have hsz:=hB.size
  gi_wp2_with (gi_at_builtin;refine wpListIn_append_own _ rfl _ _ 279 rfl w.heap.size 283 i0 (.agg #[.int .u64 0,.int .u64 0]) 2 16 c_ hi hz0 hz1 hz2 rfl (by decide) _ _ _ rfl (ho.alloc _) ⟨W.heap.size,0,none⟩ 1 1 (rv x) rfl rfl ?c1 ?c2 ?c3 ?c4 ?c5 ?_)
  case c1=>
   intro j u hj
   match j,hj with
   |0,hj=>cases hj;simp
   |1,hj=>cases hj;simp
  case c2=>intro u hu;simp[rv]at hu;rcases hu with rfl|rfl<;>rfl
  case c3=>unfold maxLen;omega
  case c4=>omega
  case c5=>first|omega|(simp;omega)
  intro v' w1 hown' hgrow _;obtain⟨g',cap',rfl⟩:=ownsRow_succ hown';obtain⟨hv1,hv2,hr2,hk2,hb2⟩:=bv.appended (by decide) ho hB.size (ao _) hown' hgrow;have hc1:=hv1.cell;have hf1:=hv1.frozen;have HH:=Y5 hk2 hb2 hv2 hr2 hB;clear hr2 hk2 hb2 hv2 hv1 hgrow hown' hB hnew x0 x1 c0 f0 bv ho
  gi_wp2
  obtain⟨hk2,hb2,hv2,hr2,hB⟩:=HH.out;exact⟨hk2.from _,hb2,⟨_,hv2,by simpa[recs]using hr2,trivial⟩,hB.trans hb2⟩
 case done=>
  rintro D zs' W hD rfl ⟨⟨v,bv,ho,-⟩,hB⟩ hK;have c0:=bv.cell;obtain⟨A,cp,rfl⟩:=aW ho;have HH:=Y3 ho hB hK
  gi_wp2
  refine⟨by simp,.inl ⟨_,_,rfl,run_takeDeferred hK,?_⟩⟩;exact⟨_,results_tmp rfl _ _ _,_,rfl,ownsRow_putObj ho _ hK rfl,hB.trans (belowK_b (w:=w) (ao _) W D _ _ (by simp at hD;omega) hK rfl rfl)⟩
 case stop=>
  rintro D c pre W _ _ h _;exact h.elim
variable {Bs:Nat}{w:aq}
theorem Ig(jh:zs.length<=1000000)(pI:Bs<w.heap.size)(hc:w.cell? ⟨Bs,0,none⟩=some sv)(hI:jD w.heap.size w sv zs):
 cy ae 278 #[.func (.func 280) #[] #[.pointer (some ⟨Bs,0,none⟩)]] w fun e W'=>∃v,e=.returned v∧W'.ownsRow w.heap.size 283 2 v zs.length (recs zs)∧ar w.heap.size w W':=by
 have hA:=callsIn_wide.1 (Ie Fence.wide 6 trivial trivial rfl (by omega) Bs sv zs jh w pI hc hI);clear hc hI;go_enter func278,ntmps278
 go_wp2_with (go_at_call 284;refine hA.mono ?_;rintro e w' ⟨v,rfl,ho,hb⟩;obtain⟨A,cp,rfl⟩:=aW ho;have HH:=Y2 ho hb;clear ho hb)
 go_ret;exact⟨_,rfl,HH.out⟩
theorem Bf(jh:zs.length<1000000)(pI:Bs<w.heap.size)(hc:w.cell? ⟨Bs,0,none⟩=some sv)(hI:jD w.heap.size w sv zs):
 cy ae 267 #[.func (.func 280) #[] #[.pointer (some ⟨Bs,0,none⟩)],.func (.func 269) #[] #[]] w fun e W'=>∃v l',e=.returned v∧W'.ownsRow w.heap.size 283 2 v zs.length (recs l')∧l'.Perm zs∧wZ l'∧ar w.heap.size w W':=by
 have hA:=Ig (by omega) pI hc hI;clear hc hI;go_enter func267,ntmps267
 go_wp2_with (go_at_call 278;refine hA.mono ?_;rintro e w1 ⟨v,rfl,ho,hb⟩;obtain⟨A,cp,rfl⟩:=aW ho;have hS:=Ux ho rfl jh;have HH:=Y2 ho hb;clear ho hb)
 refine hS.mono ?_;rintro e w2 ⟨rfl,l',ho2,hp,hs,hk⟩;have HZ:=Y1 (show w2.ownsRow w.heap.size 283 2 (.slice A zs.length cp) zs.length (recs l')∧l'.Perm zs∧wZ l'∧ar w.heap.size w w2 from
  ⟨ho2,hp,hs,HH.out.2.trans ⟨hk.1,hk.2.1,hk.2.2.1,hk.size,fun k hkl=>hk.at_ (aa hkl HH.out.2.size) fun e=>by have:=gB HH.out.1 k e;omega⟩⟩)
 clear ho2 hp hs hk hS
 go_wp2
 go_ret;exact⟨_,_,rfl,HZ.out⟩
end
end Go.Proofs.YtlhhcnknclnlaaaGreatDoor.Top
namespace Go.Proofs.YtlhhcnknclnlaaaGreatDoor.Top
open Go Go.WideShapes Go.RowKit Go.Proofs.YtlhhcnknclnlaaaGreatDoor.iH Go.Proofs.YtlhhcnknclnlaaaGreatDoor.Oct Go.Proofs.ah.aN Go.Proofs.ah.bA
def nW(w:aq)(T:Nat->Prop)(b:Nat)(how:Int)(l:List Rc):Prop:=
 ∃v,St w b 391 [.int .i64 how,v]∧w.ownsRow 0 283 2 v l.length (recs l)∧T b∧(∀k,v.ownBlock=some k->T k)∧∀k,T k->k<w.heap.size
theorem nW.keep{w w':aq}{S T:Nat->Prop}{b:Nat}{how:Int}{l:List Rc}(h:nW w T b how l)(hk:Keeps S w w')(hS:∀k,T k->¬S k):nW w' T b how l:=by
 obtain⟨v,h1,h2,h3,h4,h5⟩:=h;exact⟨v,h1.keep hk (hS _ h3),hk.own h2 fun k e=>hS k (h4 k e),h3,h4,fun k hk'=>aa (h5 k hk') hk.size⟩
theorem EO:ae.info? 283=some fg:=rfl
theorem EP:fg.zero=some (.agg #[.int .u64 0,.int .u64 0]):=rfl
variable {v:ai}{w wr:aq}
theorem mH{l:List Rc}(r:Rc)(ho:w.ownsRow 0 283 2 v l.length (recs l))(hl:l.length<1000000):
 ∃v' w',(Builtin.append_ #[279,279] 279 #[v,.slice (some ⟨w.heap.size,0,none⟩) 1 1]).run ae (w.alloc (.cells #[.int .u64 r.1,.int .u64 r.2] 283 (0,0)))=.ok v' w'∧
  w'.ownsRow 0 283 2 v' (l++[r]).length (recs (l++[r]))∧Keeps (fun k=>v.ownBlock=some k) w w'∧∀k,v'.ownBlock=some k->v.ownBlock=some k∨w.heap.size<=k:=by
 have hnew:=St.new w 283 #[.int .u64 r.1,.int .u64 r.2];obtain⟨v',w',h1,h2,h3,h4⟩:=iB (P:=ae) (w.alloc (.cells #[.int .u64 r.1,.int .u64 r.2] 283 (0,0))) 0 279 279 283 fg (.agg #[.int .u64 0,.int .u64 0]) 2 16 c_ EO EP rfl rfl rfl (by decide) v l.length (recs l) (ho.alloc _)
  ⟨w.heap.size,0,none⟩ 1 1 (rv r) rfl (fun j u hj=>by
   match j,hj with
   |0,hj=>cases hj;simp[Addr.add]
   |1,hj=>cases hj;simp[Addr.add]) (fun u hu=>by simp[rv]at hu;rcases hu with rfl|rfl<;>rfl) (by unfold maxLen;omega) (by omega) (cM _)
 refine⟨v',w',h1,by rw[ni];simpa using h2,((Keeps.refl _ w).alloc _).grown h3 fun m e=>.inl e,fun k hk=>(h4 k hk).imp id fun h=>by simp at h;omega⟩
variable {b base bx c cp g i n:Nat}{xs:List ai}
theorem dZ{e size:Nat}{a:Addr}(h:w.ownsRow base e size (.slice (some a) n c) n xs):∃g,a=⟨g,0,none⟩∧(∀j u,xs[j]? =some u->w.cell? ⟨g,j,none⟩=some u)∧∀j,w.frozen? ⟨g,j,none⟩=false:=by
 rcases h.2 with⟨h1,_⟩|⟨g,cap,cur,h1,h2,h3,h4,h5,h6,h7⟩
 .cases h1
 .injection h1 with h1 _ _;injection h1 with h1;refine⟨g,h1,fun j u hu=>?_,fun j=>by simp[World.frozen?,h3]⟩;rw[<-h7,cE]at hu
  split at hu
  .simpa[World.cell?,h3]using hu
  .cases hu
theorem nJ{e size:Nat}(h:w.ownsRow base e size (.slice (some ⟨g,0,none⟩) n c) n xs)(j:Nat)(u:ai)(hj:j<xs.length):(w.setCell ⟨g,j,none⟩ u).ownsRow base e size (.slice (some ⟨g,0,none⟩) n c) n (xs.set j u):=by
 refine⟨by rw[cq];exact h.1,?_⟩;rcases h.2 with⟨h1,_⟩|⟨g',cap,cur,h1,h2,h3,h4,h5,h6,h7⟩
 .cases h1
 .injection h1 with h1 h8 h9;injection h1 with h1;injection h1 with h1;subst h1;refine .inr ⟨g,cap,cur.setIfInBounds j u,by rw[h9],h2,?_,h4,h5,by simpa using h6,?_⟩
  .have:=heap_setCell_same w g j cur e u h3;exact this
  .have hl:=h.1;rw[Array.toList_setIfInBounds,<-h7,List.take_set]
theorem Qj(l:List Rc)(x:Rc)(z:Int):(recs (l++[x])).set (l.length*2+1) (.int .u64 z)=recs (l++[(x.1,z)]):=by
 rw[ni,ni,cx _ _ (by rw[jm];omega),jm,show l.length*2+1-2*l.length=1 by omega];rfl
theorem Uz{l:List Rc}{x:Rc}(h:l.getLast? =some x):∃l',l=l'++[x]:=List.getLast?_eq_some_iff.1 h
theorem Qk{T:Nat->Prop}{l:List Rc}(h:nW w T b 0 l)(hl:l.length<1000000)(r:Rc):
 cy ae 271 #[.pointer (some ⟨b,0,none⟩),rg r] w fun e w'=>e=.returned (.tuple #[])∧∃T',nW w' T' b 0 (l++[r])∧Stp T T' w w':=by
 obtain⟨v,hst,ho,hT,hv,hlt⟩:=h;obtain⟨A,cp,rfl⟩:=aW ho;obtain⟨W,hW⟩:=ex (w.alloc (.cells #[.int .u64 r.1,.int .u64 r.2] 283 (0,0)))
 have s1:St W b 391 [.int .i64 0,.slice A l.length cp]:=by rw[hW];exact hst.alloc _
 have n1:St W w.heap.size 283 [.int .u64 r.1,.int .u64 r.2]:=by rw[hW];exact St.new _ _ _
 have b1:ar w.heap.size w W:=by rw[hW];exact(aw _ w).alloc (ao _) _
 have c0:=s1.cell 0 rfl;have c1:=s1.cell 1 rfl;have HH:=Y5 hst ho s1 n1 b1;have hWs:W.heap.size=w.heap.size+1:=by rw[hW];simp
 clear hst ho s1 n1 b1;rw[hW]at c0 c1;unfold rg;go_enter du,dr
 go_wp2_with fail
 rw[<-hW];rw[<-hW]at c0 c1;have HW:=Y1 hW;clear hW
 go_quiet (fail)
 go_wp2_with fail
 generalize hV:W.drewN nq=V;have hB:ar w.heap.size w V:=by rw[<-hV];exact below_drewN HH.out.2.2.2.2 nq
 have sV:St V b 391 [.int .i64 0,.slice A l.length cp]:=by rw[<-hV];exact HH.out.2.2.1
 have nV:St V w.heap.size 283 [.int .u64 r.1,.int .u64 r.2]:=by rw[<-hV];exact HH.out.2.2.2.1
 have q1:∀w',ar V.heap.size V w'->w'.cell? ⟨b,1,none⟩=some (.slice A l.length cp):=fun w' hb=>(hb.cell sV.lt).trans (sV.cell 1 rfl)
 have r0:∀w',ar V.heap.size V w'->w'.cell? ⟨w.heap.size,0,none⟩=some (.int .u64 r.1):=fun w' hb=>(hb.cell nV.lt).trans (nV.cell 0 rfl)
 have r1:∀w',ar V.heap.size V w'->w'.cell? ⟨w.heap.size,1,none⟩=some (.int .u64 r.2):=fun w' hb=>(hb.cell nV.lt).trans (nV.cell 1 rfl)
 have HQ:=Y5 q1 r0 r1 hB sV;clear hV hB sV nV q1 r0 r1 c0 c1 hWs HW;refine gF (ar V.heap.size V) [0,1,2,3] [4,5] [6] [] [7,8,9,10] (by kernel_rfl) (fun _ _ x _ _ h=>by cases x<;>exact h) ((aw _ V).drew) (by kernel_rfl) ?_;simp only[aJ,al,an,af,ag]
 repeat (refine aI (fun K hK=>?_);go_simp;refine hK _ ?_;clear hK K)
 refine au ?_;refine ak (fun K hK=>?_);go_simp;refine⟨.slice A l.length cp,fun w' hw'=>(by rw[HQ.out.1 w' hw'];rfl),hK _ ?_⟩;clear hK K;refine ak (fun K hK=>?_);go_simp;refine⟨.agg #[.int .u64 r.1,.int .u64 r.2],fun w' hw'=>(by simp[HQ.out.2.1 w' hw',HQ.out.2.2.1 w' hw',dd]),hK _ ?_⟩;clear hK K;refine bD ?_;intro W0 hb0;have hB0:=HQ.out.2.2.2.1.trans (hb0.mono HQ.out.2.2.2.1.size);have s0:St W0 b 391 [.int .i64 0,.slice A l.length cp]:=(hb0.block _ HQ.out.2.2.2.2.lt).trans HQ.out.2.2.2.2;have o0:=fq HH.out.2.1 fun k hk=>hB0.block k (bJ HH.out.2.1 k hk)
 have HB:=Y4 hb0 hB0 s0 o0;clear hb0 hB0 s0 o0;refine aH (fun K hK=>?_);go_simp;refine hK _ _ (HB.out.1.alloc HB.out.1.size _) ?_;clear hK K;refine aQ (au ?_);obtain⟨hb0,hB0,s0,o0⟩:=HB.out;obtain⟨v',W1,hrun,ho1,hk1,hn1⟩:=mH r o0 hl;obtain⟨A',cp',hv'⟩:=aW ho1;subst hv';have Ql:=fun k hk=>s0.own_ne o0 (by decide) k hk
 have s1:=s0.keep hk1 fun e=>Ql _ e rfl
 have f1:=s1.frozen 1;have e1:=s1.cell 1 rfl;have HF:=Y6 s1 ho1 hk1 hn1 hB0 s0;clear s1 ho1 hk1 hn1 hb0 hB0 s0 o0 Ql;refine dh rfl (.tmp 61) (.tmp 63) 279 279 rfl (by simp[de]) (by simp[de]) hrun ?_;clear hrun
 go_wp2_with fail
 obtain⟨s1,ho1,hk1,hn1,hB0,s0⟩:=HF.out;have hkw:=((Keeps.of_below (S:=T) hB0).trans hk1 fun i hi=>.inl (hv i hi))
 have el:(l++[r]).length=l.length+1:=by simp
 rw[el]at ho1 hn1;have s2:St (W1.setCell ⟨b,1,none⟩ (.slice A' (l.length+1) cp')) b 391 [.int .i64 0,.slice A' (l.length+1) cp']:=s1.set 1 _
 go_end0
 refine⟨rfl,fun k=>T k∨(cW A' (l.length+1) cp').ownBlock=some k,⟨_,s2,by rw[el];exact b_ (p:=⟨b,1,none⟩) ho1 (fun e=>s1.own_ne ho1 (by decide) _ e.symm rfl) _,.inl hT,fun k hk=>.inr hk,fun k hk=>?_⟩,hkw.setCell (.inl hT) _,fun k hk=>?_⟩
 .have:(W1.setCell ⟨b,1,none⟩ (.slice A' (l.length+1) cp')).heap.size=W1.heap.size:=by simp
  rw[this];exact hk.elim (fun h=>aa (hlt k h) hkw.size) fun h=>bJ ho1 k h
 .exact hk.elim .inl fun h=>(hn1 k h).imp (hv k) fun h=>by have:=hB0.size;omega
theorem UA{T:Nat->Prop}{l:List Rc}(h:nW w T b 2 l)(hl:l.length<1000000)(r:Rc):
 cy ae 271 #[.pointer (some ⟨b,0,none⟩),rg r] w fun e w'=>e=.returned (.tuple #[])∧∃T',nW w' T' b 2 (lK l r)∧Stp T T' w w':=by
 obtain⟨v,hst,ho,hT,hv,hlt⟩:=h;obtain⟨A,cp,rfl⟩:=aW ho;obtain⟨W,hW⟩:=ex (w.alloc (.cells #[.int .u64 r.1,.int .u64 r.2] 283 (0,0)))
 have s1:St W b 391 [.int .i64 2,.slice A l.length cp]:=by rw[hW];exact hst.alloc _
 have n1:St W w.heap.size 283 [.int .u64 r.1,.int .u64 r.2]:=by rw[hW];exact St.new _ _ _
 have b1:ar w.heap.size w W:=by rw[hW];exact(aw _ w).alloc (ao _) _
 have c0:=s1.cell 0 rfl;have c1:=s1.cell 1 rfl;have d0:=n1.cell 0 rfl;have d1:=n1.cell 1 rfl;have HH:=Y5 hst ho s1 n1 b1;have hWs:W.heap.size=w.heap.size+1:=by rw[hW];simp
 clear hst s1 n1 b1;cases hla:l.getLast? with
 |none=>
  have hz:=List.getLast?_eq_none_iff.1 hla;have e1:lK l r=l++[r]:=by rw[hz];rfl
  have hn0:¬((l.length:Int)>0):=by rw[hz];simp
  have hn1:¬0<l.length:=by rw[hz];simp
  rw[e1];clear ho hla e1 hz;rw[hW]at c0 c1;unfold rg;go_enter du,dr
  go_wp2_with fail
  rw[<-hW];rw[<-hW]at c0 c1;have HW:=Y1 hW;clear hW
  go_quiet (fail)
  go_wp2_with fail
  clear d0 d1;generalize hV:W.drewN nq=V;have hB:ar w.heap.size w V:=by rw[<-hV];exact below_drewN HH.out.2.2.2.2 nq
  have sV:St V b 391 [.int .i64 2,.slice A l.length cp]:=by rw[<-hV];exact HH.out.2.2.1
  have nV:St V w.heap.size 283 [.int .u64 r.1,.int .u64 r.2]:=by rw[<-hV];exact HH.out.2.2.2.1
  have q1:∀w',ar V.heap.size V w'->w'.cell? ⟨b,1,none⟩=some (.slice A l.length cp):=fun w' hb=>(hb.cell sV.lt).trans (sV.cell 1 rfl)
  have r0:∀w',ar V.heap.size V w'->w'.cell? ⟨w.heap.size,0,none⟩=some (.int .u64 r.1):=fun w' hb=>(hb.cell nV.lt).trans (nV.cell 0 rfl)
  have r1:∀w',ar V.heap.size V w'->w'.cell? ⟨w.heap.size,1,none⟩=some (.int .u64 r.2):=fun w' hb=>(hb.cell nV.lt).trans (nV.cell 1 rfl)
  have HQ:=Y5 q1 r0 r1 hB sV;clear hV hB sV nV q1 r0 r1 c0 c1 hWs HW;refine gF (ar V.heap.size V) [0,1,2,3] [4,5] [6] [] [7,8,9,10] (by kernel_rfl) (fun _ _ x _ _ h=>by cases x<;>exact h) ((aw _ V).drew) (by kernel_rfl) ?_;simp only[aJ,al,an,af,ag]
  repeat (refine aI (fun K hK=>?_);go_simp;refine hK _ ?_;clear hK K)
  refine au ?_;refine ak (fun K hK=>?_);go_simp;refine⟨.slice A l.length cp,fun w' hw'=>(by rw[HQ.out.1 w' hw'];rfl),hK _ ?_⟩;clear hK K;refine ak (fun K hK=>?_);go_simp;refine⟨.agg #[.int .u64 r.1,.int .u64 r.2],fun w' hw'=>(by simp[HQ.out.2.1 w' hw',HQ.out.2.2.1 w' hw',dd]),hK _ ?_⟩;clear hK K;refine bD ?_;intro W0 hb0;have hB0:=HQ.out.2.2.2.1.trans (hb0.mono HQ.out.2.2.2.1.size);have s0:St W0 b 391 [.int .i64 2,.slice A l.length cp]:=(hb0.block _ HQ.out.2.2.2.2.lt).trans HQ.out.2.2.2.2;have o0:W0.ownsRow 0 283 2 (.slice A l.length cp) l.length (recs l):=fq HH.out.2.1 fun k hk=>hB0.block k (bJ HH.out.2.1 k hk)
  have HB:=Y4 hb0 hB0 s0 o0;clear hb0 hB0 s0 o0;refine aH (fun K hK=>?_);go_simp;refine hK _ _ (HB.out.1.alloc HB.out.1.size _) ?_;clear hK K;refine aQ (au ?_);obtain⟨hb0,hB0,s0,o0⟩:=HB.out;obtain⟨v',W1,hrun,ho1,hk1,hn1⟩:=mH r o0 hl;obtain⟨A',cp',hv'⟩:=aW ho1;subst hv';have Ql:∀k,(cW A l.length cp).ownBlock=some k->k≠b:=fun k hk=>s0.own_ne o0 (by decide) k hk
  have s1:=s0.keep hk1 fun e=>Ql _ e rfl
  have f1:=s1.frozen 1;have e1:=s1.cell 1 rfl;have HF:=Y6 s1 ho1 hk1 hn1 hB0 s0;clear s1 ho1 hk1 hn1 hb0 hB0 s0 o0 Ql;refine dh rfl (.tmp 61) (.tmp 63) 279 279 rfl (by simp[de]) (by simp[de]) hrun ?_;clear hrun
  go_wp2_with fail
  obtain⟨s1,ho1,hk1,hn1,hB0,s0⟩:=HF.out;have hkw:=((Keeps.of_below (S:=T) hB0).trans hk1 fun i hi=>.inl (hv i hi))
  have el:(l++[r]).length=l.length+1:=by simp
  rw[el]at ho1 hn1;have s2:St (W1.setCell ⟨b,1,none⟩ (.slice A' (l.length+1) cp')) b 391 [.int .i64 2,.slice A' (l.length+1) cp']:=s1.set 1 _
  go_end0
  refine⟨rfl,fun k=>T k∨(cW A' (l.length+1) cp').ownBlock=some k,⟨_,s2,by rw[el];exact b_ (p:=⟨b,1,none⟩) ho1 (fun e=>s1.own_ne ho1 (by decide) _ e.symm rfl) _,.inl hT,fun k hk=>.inr hk,fun k hk=>?_⟩,hkw.setCell (.inl hT) _,fun k hk=>?_⟩
  .have:(W1.setCell ⟨b,1,none⟩ (.slice A' (l.length+1) cp')).heap.size=W1.heap.size:=by simp
   rw[this];exact hk.elim (fun h=>aa (hlt k h) hkw.size) fun h=>bJ ho1 k h
  .exact hk.elim .inl fun h=>(hn1 k h).imp (hv k) fun h=>by have:=hB0.size;omega
 |some x=>
  obtain⟨l',hl'⟩:=Uz hla;have hA:∃a,A=some a:=by
   cases A with
   |none=>
    rcases ho.2 with⟨_,h⟩|⟨g,cap,cur,h,_⟩
    .rw[hl']at h;simp at h
    .cases h
   |some a=>exact⟨a,rfl⟩
  obtain⟨a,rfl⟩:=hA;obtain⟨g,rfl,hcl,hfr⟩:=dZ ho;obtain⟨q0,q1⟩:=oL l l'.length x (by rw[hl'];simp);have hgl:=bJ ho g rfl;have wb:=HH.out.2.2.2.2;have x0:=(wb.cell (p:=⟨g,l'.length*2,none⟩) hgl).trans (hcl _ _ q0);have x1:=(wb.cell (p:=⟨g,l'.length*2+1,none⟩) hgl).trans (hcl _ _ q1);have fx:W.frozen? ⟨g,l'.length*2+1,none⟩=false:=by
   have:=hfr (l'.length*2+1);unfold World.frozen? at this⊢;rw[wb.block g hgl];exact this
  have hln:l.length=l'.length+1:=by rw[hl'];simp
  obtain⟨N,hN⟩:=ex l'.length
  rw[<-hN]at x0 x1 fx hln;have hN1:((l.length:Int)-1)=N:=by omega
  have hN2:(l.length:Int)>0:=by omega
  have hN3:(N:Int)<(l.length:Int):=by omega
  have hN4:N<l.length:=by omega
  have hN6:0<l.length:=by omega
  have hN5:N<1000000:=by omega
  have HL:=Y4 hln hN hl' hla;clear ho hcl hfr q0 q1 wb hln hN hla hl';by_cases hk:x.1=r.1
  .have e1:lK l r=l'++[(x.1,min x.2 r.2)]:=by unfold lK;rw[HL.out.2.2.2];simp[hk,HL.out.2.2.1]
   rw[e1];clear e1;rw[hW]at c0 c1 x0 x1 d0 d1 fx;unfold rg;go_enter du,dr
   go_wp2_with fail
   rw[<-hW];rw[<-hW]at c0 c1 x0 x1 d0 d1 fx;have HW:=Y1 hW;clear hW
   go_quiet (fail)
   go_wp2_with fail
   have hNw:cz.wrap (N:Int)=N:=by rw[a_];omega
   generalize hV:W.drewN nq=V at*;have Xi:∀j,V.cell? j=W.cell? j:=fun j=>by rw[<-hV];rfl
   have hvf:∀j,V.frozen? j=W.frozen? j:=fun j=>by rw[<-hV];rfl
   rw[<-Xi]at c0 c1 x0 x1 d0 d1;rw[<-hvf]at fx;have hB:ar w.heap.size w V:=by rw[<-hV];exact below_drewN HH.out.2.2.2.2 nq
   have sV:St V b 391 [.int .i64 2,.slice (some ⟨g,0,none⟩) l.length cp]:=by rw[<-hV];exact HH.out.2.2.1
   have HQ:=Y2 hB sV;clear hV hB sV Xi hvf hWs;refine dG [0] [1,2,3,4,5,6,7,8,9,10,11,12,13,14,15,16,17,18,19,20,21,22,23] [24] (by kernel_rfl) (fun _ _ x _ _ h=>by cases x<;>exact h) (by kernel_rfl) ?_;simp only[aJ,al,an,af,ag];refine aI (fun K hK=>?_);go_simp;refine hK _ ?_;clear hK K;refine au ?_
   repeat quiet_step (first|(go_at_call 258;exact Calls.quiet_of_same (JK _ 2 _ _ (by decide))))
   refine wpQuiet_nil ?_;rintro _ ⟨n3,rfl⟩;have fx3:(V.drewN n3).frozen? ⟨g,N*2+1,none⟩=false:=fx;have cx3:(V.drewN n3).cell? ⟨g,N*2+1,none⟩=some (.int .u64 x.2):=x1;have hB3:=below_drewN HQ.out.1 n3;have sV3:St (V.drewN n3) b 391 [.int .i64 2,.slice (some ⟨g,0,none⟩) l.length cp]:=HQ.out.2;generalize V.drewN n3=Z at*;have HZ:=Y2 hB3 sV3;clear c0 c1 x0 x1 d0 d1 fx hB3 sV3 HQ;obtain⟨mz,hmz⟩:=ex (min x.2 r.2)
   rw[<-hmz];have HM:=Y1 hmz;clear hmz
   go_wp2_with fail
   obtain⟨hB3,sV3⟩:=HZ.out;obtain⟨hln,hN,hl',-⟩:=HL.out;have oZ:=fq HH.out.2.1 fun k hk=>hB3.block k (bJ HH.out.2.1 k hk)
   have hgb:=sV3.own_ne oZ (by decide) g rfl;have oP:=nJ oZ (N*2+1) (.int .u64 mz) (by rw[jm];omega);have hle:(l'++[(x.1,mz)]).length=l.length:=by rw[hl'];simp
   rw[hl',hN,Qj,<-hl',<-hN]at oP;refine bodyPost_ret (results_none rfl _ _ _) rfl ?_;rw[<-HM.out];refine⟨rfl,T,⟨_,sV3.other (Ne.symm hgb) _,by rw[hle];exact oP,hT,hv,fun k hk=>?_⟩,(Keeps.of_below (S:=T) hB3).setCell (.inl (hv g rfl)) _,fun k hk=>.inl hk⟩;have:(Z.setCell ⟨g,N*2+1,none⟩ (.int .u64 mz)).heap.size=Z.heap.size:=by simp
   rw[this];exact aa (hlt k hk) hB3.size
  .have e1:lK l r=l++[r]:=by unfold lK;rw[HL.out.2.2.2];simp[hk]
   rw[e1];clear e1;rw[hW]at c0 c1 x0 x1 d0 d1 fx;unfold rg;go_enter du,dr
   go_wp2_with fail
   rw[<-hW];rw[<-hW]at c0 c1 x0 x1 d0 d1 fx;have HW:=Y1 hW;clear hW
   go_quiet (fail)
   go_wp2_with fail
   clear hN6 d0 d1 x0 x1 fx hN1 hN2 hN3 hN4 hN5;generalize hV:W.drewN nq=V;have hB:ar w.heap.size w V:=by rw[<-hV];exact below_drewN HH.out.2.2.2.2 nq
   have sV:St V b 391 [.int .i64 2,.slice (some ⟨g,0,none⟩) l.length cp]:=by rw[<-hV];exact HH.out.2.2.1
   have nV:St V w.heap.size 283 [.int .u64 r.1,.int .u64 r.2]:=by rw[<-hV];exact HH.out.2.2.2.1
   have q1:∀w',ar V.heap.size V w'->w'.cell? ⟨b,1,none⟩=some (.slice (some ⟨g,0,none⟩) l.length cp):=fun w' hb=>(hb.cell sV.lt).trans (sV.cell 1 rfl)
   have r0:∀w',ar V.heap.size V w'->w'.cell? ⟨w.heap.size,0,none⟩=some (.int .u64 r.1):=fun w' hb=>(hb.cell nV.lt).trans (nV.cell 0 rfl)
   have r1:∀w',ar V.heap.size V w'->w'.cell? ⟨w.heap.size,1,none⟩=some (.int .u64 r.2):=fun w' hb=>(hb.cell nV.lt).trans (nV.cell 1 rfl)
   have HQ:=Y5 q1 r0 r1 hB sV;clear hV hB sV nV q1 r0 r1 c0 c1 hWs HW;refine gF (ar V.heap.size V) [0,1,2,3] [4,5] [6] [] [7,8,9,10] (by kernel_rfl) (fun _ _ x _ _ h=>by cases x<;>exact h) ((aw _ V).drew) (by kernel_rfl) ?_;simp only[aJ,al,an,af,ag]
   repeat (refine aI (fun K hK=>?_);go_simp;refine hK _ ?_;clear hK K)
   refine au ?_;refine ak (fun K hK=>?_);go_simp;refine⟨.slice (some ⟨g,0,none⟩) l.length cp,fun w' hw'=>(by rw[HQ.out.1 w' hw'];rfl),hK _ ?_⟩;clear hK K;refine ak (fun K hK=>?_);go_simp;refine⟨.agg #[.int .u64 r.1,.int .u64 r.2],fun w' hw'=>(by simp[HQ.out.2.1 w' hw',HQ.out.2.2.1 w' hw',dd]),hK _ ?_⟩;clear hK K;refine bD ?_;intro W0 hb0;have hB0:ar w.heap.size w W0:=HQ.out.2.2.2.1.trans (hb0.mono HQ.out.2.2.2.1.size);have s0:St W0 b 391 [.int .i64 2,.slice (some ⟨g,0,none⟩) l.length cp]:=(hb0.block _ HQ.out.2.2.2.2.lt).trans HQ.out.2.2.2.2;have o0:=fq HH.out.2.1 fun k hk=>hB0.block k (bJ HH.out.2.1 k hk)
   have HB:=Y4 hb0 hB0 s0 o0;clear hb0 hB0 s0 o0;refine aH (fun K hK=>?_);go_simp;refine hK _ _ (HB.out.1.alloc HB.out.1.size _) ?_;clear hK K;refine aQ (au ?_);obtain⟨hb0,hB0,s0,o0⟩:=HB.out;obtain⟨v',W1,hrun,ho1,hk1,hn1⟩:=mH r o0 hl;obtain⟨A',cp',hv'⟩:=aW ho1;subst hv';have Ql:=fun k hk=>s0.own_ne o0 (by decide) k hk
   have s1:=s0.keep hk1 fun e=>Ql _ e rfl
   have f1:=s1.frozen 1;have e1:=s1.cell 1 rfl;have HF:=Y6 s1 ho1 hk1 hn1 hB0 s0;clear s1 ho1 hk1 hn1 hb0 hB0 s0 o0 Ql;refine dh rfl (.tmp 61) (.tmp 63) 279 279 rfl (by simp[de]) (by simp[de]) hrun ?_;clear hrun
   go_wp2_with fail
   obtain⟨s1,ho1,hk1,hn1,hB0,s0⟩:=HF.out;have hkw:Keeps T w W1:=((Keeps.of_below (S:=T) hB0).trans hk1 fun i hi=>.inl (hv i hi))
   have el:(l++[r]).length=l.length+1:=by simp
   rw[el]at ho1 hn1;have s2:St (W1.setCell ⟨b,1,none⟩ (.slice A' (l.length+1) cp')) b 391 [.int .i64 2,.slice A' (l.length+1) cp']:=s1.set 1 _
   go_end0
   refine⟨rfl,fun k=>T k∨(cW A' (l.length+1) cp').ownBlock=some k,⟨_,s2,by rw[el];exact b_ (p:=⟨b,1,none⟩) ho1 (fun e=>s1.own_ne ho1 (by decide) _ e.symm rfl) _,.inl hT,fun k hk=>.inr hk,fun k hk=>?_⟩,hkw.setCell (.inl hT) _,fun k hk=>?_⟩
   .have:(W1.setCell ⟨b,1,none⟩ (.slice A' (l.length+1) cp')).heap.size=W1.heap.size:=by simp
    rw[this];exact hk.elim (fun h=>aa (hlt k h) hkw.size) fun h=>bJ ho1 k h
   .exact hk.elim .inl fun h=>(hn1 k h).imp (hv k) fun h=>by have:=hB0.size;omega
theorem Qm{base' e size:Nat}(h:w.ownsRow base e size v n xs)(hb:∀k,v.ownBlock=some k->base'<=k):w.ownsRow base' e size v n xs:=by
 refine⟨h.1,?_⟩;rcases h.2 with h|⟨g,cap,cur,h1,h2,h3⟩
 .exact .inl h
 .exact .inr ⟨g,cap,cur,h1,hb g (by rw[h1];rfl),h3⟩
theorem jD.own{n₀:Nat}{l:List Rc}(h:w.ownsRow base 283 2 v n (recs l))(hn:l.length=n)(hb:∀k,v.ownBlock=some k->k<n₀):jD n₀ w v l:=by
 obtain⟨A,c,rfl⟩:=aW h;refine⟨A,c,by rw[hn],fun e=>?_,fun a e=>?_⟩
 .rcases h.2 with⟨_,h⟩|⟨g,cap,cur,h1,_⟩
  .exact ba (by omega)
  .subst e;cases h1
 .subst e;obtain⟨g,rfl,hc,_⟩:=dZ h;exact⟨hb g rfl,g,0,rfl,fun j u hj=>by rw[cY];exact hc j u hj⟩
def SoS(w wr:aq)(bf:Nat)(how:Int)(fo:List Rc->List Rc)(v:ai)(l:List Rc)(k:Nat):Prop:=
 ∃T,nW wr T bf how (fo (l.take k))∧ar w.heap.size w wr∧(∀i,T i->w.heap.size<=i∧v.ownBlock≠some i)∧wr.ownsRow w.heap.size 283 2 v l.length (recs l)
theorem ER{zs:List Rc}(hv:jD w.heap.size w v zs)(hl:zs.length<1000000):
 cy ae 263 #[v,.int .i64 0] w fun e w'=>∃v',e=.returned (.tuple #[v',.int .i64 0])∧∃l',w'.ownsRow w.heap.size 283 2 v' zs.length (recs l')∧l'.Perm zs∧wZ l'∧ar w.heap.size w w':=by
 obtain⟨A,cap,rfl⟩:∃A cap,v=.slice A zs.length cap:=by obtain⟨A,cap,h,_⟩:=hv;exact⟨A,cap,h⟩
 have hR:=Y1 hv;clear hv;go_enter func263,ntmps263
 go_wp2_with (first|(go_at_call 264;refine(JJ _ 0 (by decide)).mono ?_;rintro e w ⟨rfl,rfl⟩)|(go_at_call 268;refine(J5 _ _ ⟨_,_,_,rfl⟩).mono ?_;rintro e w2 ⟨rfl,rfl⟩)|fail)
 obtain⟨W,hW⟩:∃W,W=(w.alloc (.cells #[.int .i64 0,.slice none 0 0] 391 (0,0))).alloc (.cells #[.slice A zs.length cap] 279 (0,0)):=⟨_,rfl⟩
 rw[<-hW];have f1:St W w.heap.size 391 [.int .i64 0,.slice none 0 0]:=by rw[hW];exact(St.new w 391 #[.int .i64 0,.slice none 0 0]).alloc _
 have f2:St W (w.heap.size+1) 279 [.slice A zs.length cap]:=by rw[hW];simpa using St.new (w.alloc (.cells #[.int .i64 0,.slice none 0 0] 391 (0,0))) 279 #[.slice A zs.length cap]
 have f3:ar w.heap.size w W:=by rw[hW];exact((aw _ w).alloc (ao _) _).alloc (by simp) _
 have f4:W.heap.size=w.heap.size+2:=by rw[hW];simp
 have f5:jD W.heap.size W (.slice A zs.length cap) zs:=by
  obtain⟨A',c',e,h1,h2⟩:=hR.out.below f3;exact⟨A',c',e,h1,fun a ha=>⟨aa (h2 a ha).1 f3.size,(h2 a ha).2⟩⟩
 refine(Bf hl f2.lt (f2.cell 0 rfl) f5).mono ?_;rintro e w1 ⟨v,l',rfl,o1,hp,hs,b1⟩;obtain⟨A1,c1,rfl⟩:=aW o1;have HW:=Y7 f1 f3 f4 o1 hp hs b1;have HL:=Y1 (show zs.length=l'.length from hp.length_eq.symm);clear f1 f2 f3 f4 f5 o1 hp hs b1 hW
 go_wp2_with fail
 go_loopg [18] zs.length (fun kq v18 wr=>∃k:Nat,kq+k=zs.length∧v18=.int .i64 (k:Nat)∧aG (SoS w wr w.heap.size 0 (fun l=>l) (.slice A1 zs.length c1) l' k))
 case atStart=>
  refine⟨0,by omega,rfl,⟨fun k=>k=w.heap.size,?_⟩⟩;obtain⟨f1,f3,f4,o1,hp,hs,b1⟩:=HW.out;have s1:St w1 w.heap.size 391 [.int .i64 0,.slice none 0 0]:=(b1.block _ f1.lt).trans f1;refine⟨⟨_,s1,World.ownsRow_nil _ _ 283 2,rfl,fun k e=>(by cases e),fun k e=>(by have e:k=w.heap.size:=e;subst e;exact s1.lt)⟩,f3.trans (b1.mono f3.size),fun i e=>⟨?_,fun h=>?_⟩,?_⟩
  .have e:i=w.heap.size:=e;omega
  .have e:i=w.heap.size:=e;have:=gB o1 i h;omega
  .rw[<-HL.out];exact iM o1 f3.size
 case round=>
  obtain⟨k,hk,rfl,hS⟩:=hrel;by_cases hlt:k<zs.length
  .have hlt':(k:Int)<zs.length:=by omega
   obtain⟨r,hr⟩:∃r,l'[k]? =some r:=⟨_,ax (by have:=HL.out;omega)⟩
   obtain⟨T,hF,hB,hT,hO⟩:=hS.out;obtain⟨q0,q1⟩:=oL l' k r hr;have hA:∃a,A1=some a:=by
    cases A1 with
    |none=>
     rcases hO.2 with⟨_,h⟩|⟨g,cap,cur,h,_⟩
     .have:=HL.out;omega
     .cases h
    |some a=>exact⟨a,rfl⟩
   obtain⟨a,rfl⟩:=hA;rw[<-HL.out]at hO;obtain⟨g,rfl,hcl,hfr⟩:=dZ hO;have x0:=hcl _ _ q0;have x1:=hcl _ _ q1;have HZ:=Y5 hF hB hT hO hr;clear hF hB hT hO hr q0 q1 hcl hfr
   go_wp2_with fail
   obtain⟨hF,hB,hT,hO,hr⟩:=HZ.out;have ka:=(Keeps.refl (fun _=>False) wr).alloc (.cells #[.int .u64 r.1,.int .u64 r.2] 283 (0,0));have hF1:=hF.keep ka fun _ _=>id
   refine(Qk hF1 (by rw[cJ];omega) r).mono ?_;rintro e w2 ⟨rfl,T2,hF2,hk2⟩;obtain⟨k1,rfl⟩:∃k1,gk=k1+1:=⟨gk-1,by omega⟩
   have e1:l'.take (k+1)=l'.take k++[r]:=by rw[ez,hr];rfl
   have afP:Keeps (fun _=>False) wr w2∨True:=.inr trivial;have hB2:ar w.heap.size w w2:=⟨hk2.1.1.trans (ka.1.trans hB.os),hk2.1.2.1.trans (ka.2.1.trans hB.tape),hk2.1.2.2.1.trans (ka.2.2.1.trans hB.output),cC hB.size (cC ka.size hk2.1.size),fun i hi=>
    (hk2.1.at_ (aa hi (cC hB.size ka.size)) fun hh=>by have:=(hT i hh).1;omega).trans ((ka.at_ (aa hi hB.size) id).trans (hB.block i hi))⟩
   have HY:=Y1 (show SoS w w2 w.heap.size 0 (fun l=>l) (.slice (some ⟨g,0,none⟩) zs.length c1) l' (k+1)from
    ⟨T2,by rw[e1];exact hF2,hB2,fun i hi=>(hk2.2 i hi).elim (hT i) fun h=>⟨cC hB.size (cC ka.size h),fun hh=>by have:=bJ hO i hh;have:=ka.size;omega⟩,by rw[<-HL.out];exact hk2.1.own (ka.own hO fun _ _=>id) fun i hi h=>(hT i h).2 hi⟩)
   clear hF hB hT hO hr hF1 hF2 hk2 hB2 e1 x0 x1 afP ka
   go_wp2
   go_roundg k1
   case measure=>omega
   case rel=>exact⟨k+1,by omega,by simp,HY⟩
  .have hkn:k=zs.length:=by omega
   subst hkn;have hlt':¬(zs.length:Int)<zs.length:=by omega
   obtain⟨T,⟨vf,hst,ho,CV,oV,iy⟩,hB,hT,hO⟩:=hS.out;rw[cF (by have:=HL.out;omega),<-HL.out]at ho;have c1:=hst.cell 1 rfl;have HZ:=Y4 ho oV hB hT;obtain⟨A2,c2,rfl⟩:=aW ho;clear hst ho CV oV iy hB hT hO
   go_wp2
   obtain⟨ho,oV,hB,hT⟩:=HZ.out;obtain⟨f1,f3,f4,o1,hp,hs,b1⟩:=HW.out;refine bodyPost_ret (results_tmp2 rfl _ _ _) rfl ?_;exact⟨_,rfl,l',Qm ho fun k e=>(hT k (oV k e)).1,hp,hs,hB⟩
theorem mixed:ae.follows .mixedOrders=true:=by kernel_rfl
def slt(h k:Hd):Bool:=nu h.1 k.1
theorem UC:Ord slt where
 irrefl _:=jW.irrefl _
 trans _ _ _:=jW.trans _ _ _
 ntrans _ _ _:=jW.ntrans _ _ _
def hv3(r:Rc)(t:ai):ai:=.agg #[.int .u64 r.1,.int .u64 r.2,t]
theorem LD(w:aq)(x y:Hd):cy ae 300 #[hv3 x.1 (.int .i64 x.2),hv3 y.1 (.int .i64 y.2)] w fun e w'=>e=.returned (.bool (hlt x y))∧∃os,w'=ab w os:=by
 obtain⟨r,i⟩:=x;obtain⟨k,j⟩:=y;have s0:St (w.alloc (.cells #[.int .u64 r.1,.int .u64 r.2,.int .i64 i] 383 (0,0))) w.heap.size 383 [.int .u64 r.1,.int .u64 r.2,.int .i64 i]:=St.new _ _ _;have hB:∃os,(w.alloc (.cells #[.int .u64 r.1,.int .u64 r.2,.int .i64 i] 383 (0,0))).alloc (.cells #[.int .u64 k.1,.int .u64 k.2,.int .i64 j] 383 (0,0))=ab w os:=⟨_,by rw[az,az,bk]⟩
 have s1:=s0.alloc (.cells #[.int .u64 k.1,.int .u64 k.2,.int .i64 j] 383 (0,0));have x1:St ((w.alloc (.cells #[.int .u64 r.1,.int .u64 r.2,.int .i64 i] 383 (0,0))).alloc (.cells #[.int .u64 k.1,.int .u64 k.2,.int .i64 j] 383 (0,0))) (w.heap.size+1) 383 [.int .u64 k.1,.int .u64 k.2,.int .i64 j]:=by
  simpa using St.new (w.alloc (.cells #[.int .u64 r.1,.int .u64 r.2,.int .i64 i] 383 (0,0))) 383 #[.int .u64 k.1,.int .u64 k.2,.int .i64 j]
 have HB:=Y3 hB s1 x1;clear hB s1 x1 s0;have hb1:=Qi;obtain⟨z,hz⟩:=ex (hlt (r,i) (k,j))
 rw[<-hz];have HZ:=Y1 hz;clear hz;unfold rg at hb1;unfold hv3;go_enter func300,ntmps300
 go_wp2_with fail
 generalize ((w.alloc (.cells #[.int .u64 r.1,.int .u64 r.2,.int .i64 i] 383 (0,0))).alloc (.cells #[.int .u64 k.1,.int .u64 k.2,.int .i64 j] 383 (0,0)))=W1 at*;refine(hb1 W1 r k).mono ?_;rintro e W2 ⟨rfl,os2,rfl⟩;have B2:∃os,ab W1 os2=ab w os:=by obtain⟨os,h⟩:=HB.out.1;exact⟨_,by rw[h,bk]⟩
 have b2:=sI W1 os2;have s2:St (ab W1 os2) w.heap.size 383 _:=(b2.block _ HB.out.2.1.lt).trans HB.out.2.1;have x2:St (ab W1 os2) (w.heap.size+1) 383 _:=(b2.block _ HB.out.2.2.lt).trans HB.out.2.2;generalize ab W1 os2=W2 at*;have c0:=s2.cell 0 rfl;have c1:=s2.cell 1 rfl;have c2:=s2.cell 2 rfl;have d0:=x2.cell 0 rfl;have d1:=x2.cell 1 rfl;have d2:=x2.cell 2 rfl;have HC:=Y1 B2;clear b2 B2 s2 x2;cases h1:nu r k with
 |true=>
  have H1:=Y1 h1;clear h1
  go_wp2
  go_ret;exact⟨by simp[HZ.out,hlt,H1.out],HC.out⟩
 |false=>
  have H1:=Y1 h1;clear h1;obtain⟨r1,r2⟩:=r;obtain⟨k1,k2⟩:=k;by_cases e1:r1=k1
  .by_cases e2:r2=k2
   .subst e1;subst e2;by_cases e3:i<j
    .have e3':(i:Int)<j:=by omega
     go_wp2
     go_ret;exact⟨by simp[HZ.out,hlt,H1.out,e3],HC.out⟩
    .have e3':¬(i:Int)<j:=by omega
     go_wp2
     go_ret;exact⟨by simp[HZ.out,hlt,H1.out,e3],HC.out⟩
   .have e2':(r2==k2)=false:=by simpa using e2
    go_wp2
    go_ret;exact⟨by simp[HZ.out,hlt,H1.out,e2],HC.out⟩
  .have e1':(r1==k1)=false:=by simpa using e1
   go_wp2
   go_ret;exact⟨by simp[HZ.out,hlt,H1.out,e1],HC.out⟩
theorem LG(w:aq)(x y:Hd):cy ae 299 #[hv3 x.1 (ptr x.2),hv3 y.1 (ptr y.2)] w fun e w'=>e=.returned (.bool (slt x y))∧∃os,w'=ab w os:=by
 obtain⟨r,i⟩:=x;obtain⟨k,j⟩:=y;have s0:St (w.alloc (.cells #[.int .u64 r.1,.int .u64 r.2,.pointer (some ⟨i,0,none⟩)] 366 (0,0))) w.heap.size 366 [.int .u64 r.1,.int .u64 r.2,.pointer (some ⟨i,0,none⟩)]:=St.new _ _ _;have hB:∃os,(w.alloc (.cells #[.int .u64 r.1,.int .u64 r.2,.pointer (some ⟨i,0,none⟩)] 366 (0,0))).alloc (.cells #[.int .u64 k.1,.int .u64 k.2,.pointer (some ⟨j,0,none⟩)] 366 (0,0))=ab w os:=⟨_,by rw[az,az,bk]⟩
 have s1:=s0.alloc (.cells #[.int .u64 k.1,.int .u64 k.2,.pointer (some ⟨j,0,none⟩)] 366 (0,0));have x1:St ((w.alloc (.cells #[.int .u64 r.1,.int .u64 r.2,.pointer (some ⟨i,0,none⟩)] 366 (0,0))).alloc (.cells #[.int .u64 k.1,.int .u64 k.2,.pointer (some ⟨j,0,none⟩)] 366 (0,0))) (w.heap.size+1) 366 [.int .u64 k.1,.int .u64 k.2,.pointer (some ⟨j,0,none⟩)]:=by
  simpa using St.new (w.alloc (.cells #[.int .u64 r.1,.int .u64 r.2,.pointer (some ⟨i,0,none⟩)] 366 (0,0))) 366 #[.int .u64 k.1,.int .u64 k.2,.pointer (some ⟨j,0,none⟩)]
 have HB:=Y3 hB s1 x1;clear hB s1 x1 s0;have hb1:=Qi;obtain⟨z,hz⟩:=ex (slt (r,i) (k,j))
 rw[<-hz];have HZ:=Y1 hz;clear hz;unfold rg at hb1;unfold hv3 ptr;go_enter func299,ntmps299
 go_wp2_with fail
 generalize ((w.alloc (.cells #[.int .u64 r.1,.int .u64 r.2,.pointer (some ⟨i,0,none⟩)] 366 (0,0))).alloc (.cells #[.int .u64 k.1,.int .u64 k.2,.pointer (some ⟨j,0,none⟩)] 366 (0,0)))=W1 at*;refine(hb1 W1 r k).mono ?_;rintro e W2 ⟨rfl,os2,rfl⟩;have B2:∃os,ab W1 os2=ab w os:=by obtain⟨os,h⟩:=HB.out.1;exact⟨_,by rw[h,bk]⟩
 have b2:=sI W1 os2;have s2:St (ab W1 os2) w.heap.size 366 _:=(b2.block _ HB.out.2.1.lt).trans HB.out.2.1;have x2:St (ab W1 os2) (w.heap.size+1) 366 _:=(b2.block _ HB.out.2.2.lt).trans HB.out.2.2;generalize ab W1 os2=W2 at*;have c0:=s2.cell 0 rfl;have c1:=s2.cell 1 rfl;have c2:=s2.cell 2 rfl;have d0:=x2.cell 0 rfl;have d1:=x2.cell 1 rfl;have d2:=x2.cell 2 rfl;have HC:=Y1 B2;clear b2 B2 s2 x2;cases h1:nu r k with
 |true=>
  have H1:=Y1 h1;clear h1
  go_wp2
  go_ret;exact⟨by simp[HZ.out,slt,H1.out],HC.out⟩
 |false=>
  have H1:=Y1 h1;clear h1
  go_wp2
  go_ret;exact⟨by simp[HZ.out,slt,H1.out],HC.out⟩
def hd0:Hd:=((0,0),0)
def hc(T:Nat->ai)(x:Hd):List ai:=[.int .u64 x.1.1,.int .u64 x.1.2,T x.2]
def hcs(T:Nat->ai)(l:List Hd):List ai:=(l.map (hc T)).flatten
theorem Ih(T:Nat->ai)(l:List Hd):(hcs T l).length=3*l.length:=by
 induction l with
 |nil=>rfl
 |cons x l ih=>simp only[hcs,eR,eI,List.length_append,cI,hc]at ih ⊢; simp at ih ⊢; omega
theorem Ii(T:Nat->ai)(l:List Hd)(x:Hd):hcs T (l++[x])=hcs T l++hc T x:=by simp[hcs]
theorem dw(T:Nat->ai):∀(l:List Hd) (i:Nat),i<l.length->∀j,j<3->(hcs T l)[i*3+j]? =(hc T (l.getD i hd0))[j]?
 |x::l,0,_,j,hj=>by
  simp only[hcs,eR,eI,Nat.zero_mul,cY];rw[List.getElem?_append_left (by simp[hc];omega)];rfl
 |x::l,i+1,h,j,hj=>by
  have ih:=dw T l i (by simpa using h) j hj;have e:hcs T (x::l)=hc T x++hcs T l:=by simp[hcs]
  rw[e,df (by simp[hc];omega),show(i+1)*3+j-(hc T x).length=i*3+j by simp[hc];omega,ih];simp
theorem J6(T:Nat->ai):∀(l:List Hd) (i:Nat) (x:Hd),i<l.length->((((hcs T l).set (i*3) (.int .u64 x.1.1)).set (i*3+1) (.int .u64 x.1.2)).set (i*3+2) (T x.2))=hcs T (l.set i x)
 |y::l,0,x,_=>by simp[hcs,hc]
 |y::l,i+1,x,h=>by
  have ih:=J6 T l i x (by simpa using h);have e:∀(z:Hd) (l:List Hd),hcs T (z::l)=hc T z++hcs T l:=fun z l=>by simp[hcs]
  rw[List.set_cons_succ,e,e,<-ih];have hlen:(hc T y).length=3:=rfl;rw[cx _ _ (by rw[hlen];omega),cx _ _ (by rw[hlen];omega),cx _ _ (by rw[hlen];omega),hlen];rw[show(i+1)*3-3=i*3 by omega,show(i+1)*3+1-3=i*3+1 by omega,show(i+1)*3+2-3=i*3+2 by omega]
def iK(te ts:bj)(T:Nat->ai)(w:aq)(S:Nat->Prop)(b:Nat)(l:List Hd):Prop:=
 ∃v,St w b ts [v]∧w.ownsRow 0 te 3 v l.length (hcs T l)∧S b∧(∀k,v.ownBlock=some k->S k)∧∀k,S k->k<w.heap.size
theorem iK.keep{te ts:bj}{T:Nat->ai}{w w':aq}{S R:Nat->Prop}{b:Nat}{l:List Hd}(h:iK te ts T w S b l)(hk:Keeps R w w')(hS:∀k,S k->¬R k):iK te ts T w' S b l:=by
 obtain⟨v,h1,h2,h3,h4,h5⟩:=h;exact⟨v,h1.keep hk (hS _ h3),hk.own h2 fun k e=>hS k (h4 k e),h3,h4,fun k hk'=>aa (h5 k hk') hk.size⟩
def LH(te ts:bj)(T:Nat->ai)(lt:Hd->Hd->Bool)(w wr:aq)(S S2:Nat->Prop)(b bx g cp:Nat)(l:List Hd)(x:Hd)(i:Nat)(m:List Hd):Prop:=
 Up lt hd0 l x m i∧St wr b ts [.slice (some ⟨g,0,none⟩) (l.length+1) cp]∧wr.ownsRow 0 te 3 (.slice (some ⟨g,0,none⟩) (l.length+1) cp) (l.length+1) (hcs T m)∧St wr bx te (hc T x)∧Stp S S2 w wr∧S2 b∧S2 g∧bx≠g∧b≠g∧∀k,S2 k->k<wr.heap.size
theorem oz{e size:Nat}(h:w.ownsRow base e size (.slice (some ⟨g,0,none⟩) n c) n xs):g<w.heap.size∧(∀j u,xs[j]? =some u->w.cell? ⟨g,j,none⟩=some u)∧∀j,w.frozen? ⟨g,j,none⟩=false:=by
 obtain⟨g',e,h1,h2⟩:=dZ h;injection e with e;subst e;exact⟨bJ h _ rfl,h1,h2⟩
theorem Keeps.grew{S:Nat->Prop}{w':aq}(h:Keeps S w w')(n:Nat)(os:Array Obj):Keeps S w (ab (w'.drewN n) os):=
 ⟨h.1,h.2.1,h.2.2.1,by have:=h.size;simp[World.drewN];omega,fun k hk hs=>(cD _ _ (aa hk h.size)).trans (h.at_ hk hs)⟩
theorem LH.grew{te ts:bj}{T:Nat->ai}{lt:Hd->Hd->Bool}{w wr:aq}{S S2:Nat->Prop}{b bx g cp:Nat}{l:List Hd}{x:Hd}{i:Nat}{m:List Hd}(h:LH te ts T lt w wr S S2 b bx g cp l x i m)(n:Nat)(os:Array Obj):LH te ts T lt w (ab (wr.drewN n) os) S S2 b bx g cp l x i m:=by
 obtain⟨a1,a2,a3,a4,a5,a6,a7,a8,a9,DF⟩:=h;have k:=(Keeps.refl (fun _=>False) wr).grew n os;exact⟨a1,a2.keep k id,k.own a3 fun _ _=>id,a4.keep k id,⟨a5.1.grew n os,a5.2⟩,a6,a7,a8,a9,fun i hi=>aa (DF i hi) k.size⟩
variable {S2:Nat->Prop}{T:Nat->ai}{m:List Hd}{te ts:bj}{x:Hd}
theorem LH.drew{lt:Hd->Hd->Bool}{S:Nat->Prop}{l:List Hd}(h:LH te ts T lt w wr S S2 b bx g cp l x i m)(n:Nat):LH te ts T lt w (wr.drewN n) S S2 b bx g cp l x i m:=h
theorem UD(h:w.ownsRow 0 te 3 (.slice (some ⟨g,0,none⟩) n c) n (hcs T m))(hi:i<m.length)(y:Hd):
 (((w.setCell ⟨g,i*3,none⟩ (.int .u64 y.1.1)).setCell ⟨g,i*3+1,none⟩ (.int .u64 y.1.2)).setCell ⟨g,i*3+2,none⟩ (T y.2)).ownsRow 0 te 3 (.slice (some ⟨g,0,none⟩) n c) n (hcs T (m.set i y)):=by
 have hl:=Ih T m;have h1:=nJ h (i*3) (.int .u64 y.1.1) (by omega);have h2:=nJ h1 (i*3+1) (.int .u64 y.1.2) (by rw[cq];omega);have h3:=nJ h2 (i*3+2) (T y.2) (by rw[cq,cq];omega);rwa [J6 T m i y hi]at h3
def sJ(w:aq)(g i:Nat)(T:Nat->ai)(y:Hd):aq:=((w.setCell ⟨g,i*3,none⟩ (.int .u64 y.1.1)).setCell ⟨g,i*3+1,none⟩ (.int .u64 y.1.2)).setCell ⟨g,i*3+2,none⟩ (T y.2)
theorem oW(w:aq)(g i:Nat)(T:Nat->ai)(y:Hd):Keeps (fun k=>k=g) w (sJ w g i T y):=
 (((Keeps.refl (fun k=>k=g) w).setCell (a:=⟨g,i*3,none⟩) (.inl rfl) _).setCell (a:=⟨g,i*3+1,none⟩) (.inl rfl) _).setCell (a:=⟨g,i*3+2,none⟩) (.inl rfl) _
theorem LH.step{lt:Hd->Hd->Bool}(o:Ord lt){S:Nat->Prop}{l:List Hd}(h:LH te ts T lt w wr S S2 b bx g cp l x i m)(hi:0<i)(hlt:lt x (m.getD ((i-1)/2) hd0)=true):
 LH te ts T lt w (sJ wr g i T (m.getD ((i-1)/2) hd0)) S S2 b bx g cp l x ((i-1)/2) (m.set i (m.getD ((i-1)/2) hd0)):=by
 obtain⟨a1,a2,a3,a4,a5,a6,a7,a8,a9,DF⟩:=h;have k:=oW wr g i T (m.getD ((i-1)/2) hd0);exact⟨SQ o a1 hi hlt,a2.keep k a9,UD a3 a1.bd _,a4.keep k a8,⟨a5.1.trans k fun j e=>e▸a5.2 g a7,a5.2⟩,a6,a7,a8,a9,fun j hj=>aa (DF j hj) k.size⟩
theorem LH.end_{lt:Hd->Hd->Bool}{S:Nat->Prop}{l:List Hd}(h:LH te ts T lt w wr S S2 b bx g cp l x i m)(hlt:0<i->lt x (m.getD ((i-1)/2) hd0)=false):
 iK te ts T (sJ wr g i T x) S2 b (m.set i x)∧HP lt hd0 (m.set i x)∧(m.set i x).Perm (x::l)∧Stp S S2 w (sJ wr g i T x):=by
 obtain⟨a1,a2,a3,a4,a5,a6,a7,a8,a9,DF⟩:=h;have k:=oW wr g i T x;obtain⟨e1,e2⟩:=X5 a1 hlt;have hl:(m.set i x).length=l.length+1:=by rw[cq];exact a1.len
 exact⟨⟨_,a2.keep k a9,by rw[hl];exact UD a3 a1.bd _,a6,fun j e=>by cases e;exact a7,fun j hj=>aa (DF j hj) k.size⟩,e1,e2,⟨a5.1.trans k fun j e=>e▸a5.2 g a7,a5.2⟩⟩
theorem vo{f:cG}{args:Array ai}(h:cy ae f args w fun e w'=>e=.returned v∧∃os,w'=ab w os):cy ae f args w fun e w'=>e=.returned v∧∃q os,w'=ab (w.drewN q) os:=
 h.mono fun _ _ ⟨he,os,hw⟩=>⟨he,0,os,hw⟩
inductive HK:bj->bj->bj->(Nat->ai)->ai->(Hd->Hd->Bool)->cG->cG->cG->cG->Prop
 |a:HK 383 380 378 (fun n=>fv .i64 (n:Nat)) (.int .i64 0) hlt 266 270 282 283
 |b:HK 366 363 361 (fun n=>Value.pointer (some ⟨n,0,none⟩)) (.pointer none) slt 256 257 274 275
section
variable {E HS SL:bj} {T:Nat->ai} {Z:ai} {lt:Hd->Hd->Bool} {uy uz uD sP:cG}
abbrev HK.e(_:HK E HS SL T Z lt uy uz uD sP):bj:=E
abbrev HK.s(_:HK E HS SL T Z lt uy uz uD sP):bj:=HS
abbrev HK.sl(_:HK E HS SL T Z lt uy uz uD sP):bj:=SL
abbrev HK.t(_:HK E HS SL T Z lt uy uz uD sP):Nat->ai:=T
abbrev HK.z(_:HK E HS SL T Z lt uy uz uD sP):ai:=Z
abbrev HK.l(_:HK E HS SL T Z lt uy uz uD sP):Hd->Hd->Bool:=lt
theorem HK.ord(j:HK E HS SL T Z lt uy uz uD sP):Ord lt:=by cases j<;>first|exact JL|exact UC
theorem HK.ne(j:HK E HS SL T Z lt uy uz uD sP):E≠HS:=by cases j<;>decide
theorem HK.nu(j:HK E HS SL T Z lt uy uz uD sP)(w:aq)(x y:Hd):cy ae (match uy with|266=>300|_=>299) #[hv3 x.1 (T x.2),hv3 y.1 (T y.2)] w fun e w'=>e=.returned (.bool (j.l x y))∧∃os,w'=ab w os:=by
 cases j
 .exact LD w x y
 .exact LG w x y
end
theorem vv(v:ai)(w:aq):Sem.run ae (method 515 383 v "Before") w=.ok (300,v) w:=by kernel_rfl
theorem vw(v:ai)(w:aq):Sem.run ae (method 515 366 v "Before") w=.ok (299,v) w:=by kernel_rfl
theorem UE:ae.info? 383=some fw:=rfl
theorem UF:ae.info? 366=some fy:=rfl
theorem UG:fw.zero=some (.agg #[.int .u64 0,.int .u64 0,.int .i64 0]):=rfl
theorem UH:fy.zero=some (.agg #[.int .u64 0,.int .u64 0,.pointer none]):=rfl
variable {T:Nat->ai}{v:ai}{w wr:aq}
theorem UJ{E HS SL:bj}{Z:ai}{lt:Hd->Hd->Bool}{uy uz uD sP:cG}(j:HK E HS SL T Z lt uy uz uD sP){l:List Hd}(x:Hd)(ho:w.ownsRow 0 E 3 v l.length (hcs T l))(hl:l.length<1000000):
 ∃v' w',(Builtin.append_ #[SL,SL] SL #[v,.slice (some ⟨w.heap.size,0,none⟩) 1 1]).run ae (w.alloc (.cells #[.int .u64 x.1.1,.int .u64 x.1.2,T x.2] E (0,0)))=.ok v' w'∧
  w'.ownsRow 0 E 3 v' (l++[x]).length (hcs T (l++[x]))∧Keeps (fun k=>v.ownBlock=some k) w w'∧∀k,v'.ownBlock=some k->v.ownBlock=some k∨w.heap.size<=k:=by
 have jk:=j;cases j
 all_goals
  have hnew:=St.new w jk.e #[.int .u64 x.1.1,.int .u64 x.1.2,jk.t x.2];obtain⟨v',w',h1,h2,h3,h4⟩:=iB (P:=ae) (w.alloc (.cells #[.int .u64 x.1.1,.int .u64 x.1.2,jk.t x.2] jk.e (0,0))) 0 jk.sl jk.sl jk.e _ (.agg #[.int .u64 0,.int .u64 0,jk.z]) 3 24 (by first|exact underlying378|exact underlying361) (by first|exact UE|exact UF) (by first|exact UG|exact UH) rfl rfl rfl (by first|decide|exact jk.ne) v l.length (hcs jk.t l) (ho.alloc _)
   ⟨w.heap.size,0,none⟩ 1 1 (hc jk.t x) rfl (fun j u hj=>by
    match j,hj with
    |0,hj=>cases hj;simp[Addr.add]
    |1,hj=>cases hj;simp[Addr.add]
    |2,hj=>cases hj;simp[Addr.add]) (fun u hu=>by simp[hc]at hu;rcases hu with rfl|rfl|rfl<;>rfl) (by unfold maxLen;omega) (by omega) (cM _)
  refine⟨v',w',h1,by rw[Ii];simpa using h2,((Keeps.refl _ w).alloc _).grown h3 fun m e=>.inl e,fun k hk=>(h4 k hk).imp id fun h=>by simp at h;omega⟩
theorem Xj{E HS SL:bj}{T:Nat->ai}{Z:ai}{lt:Hd->Hd->Bool}{uy uz uD sP:cG}(j:HK E HS SL T Z lt uy uz uD sP){w:aq}{S:Nat->Prop}{b:Nat}{l:List Hd}(h:iK E HS T w S b l)(hp:HP lt hd0 l)(hl:l.length<1000)(x:Hd):
 cy ae uy #[.pointer (some ⟨b,0,none⟩),hv3 x.1 (T x.2)] w fun e w'=>e=.returned (.tuple #[])∧∃S' l',iK E HS T w' S' b l'∧HP lt hd0 l'∧l'.Perm (x::l)∧Stp S S' w w':=by
 have jk:=j;cases j
 all_goals
  obtain⟨v,hst,ho,hT,hv,Nl⟩:=h;obtain⟨A,cp,rfl⟩:=aW ho;obtain⟨W,hW⟩:=ex (w.alloc (.cells #[.int .u64 x.1.1,.int .u64 x.1.2,jk.t x.2] jk.e (0,0)))
  have s1:St W b jk.s [.slice A l.length cp]:=by rw[hW];exact hst.alloc _
  have n1:St W w.heap.size jk.e [.int .u64 x.1.1,.int .u64 x.1.2,jk.t x.2]:=by rw[hW];exact St.new _ _ _
  have b1:ar w.heap.size w W:=by rw[hW];exact(aw _ w).alloc (ao _) _
  have c0:=s1.cell 0 rfl;have HH:=Y6 hst ho s1 n1 b1 hp;have hWs:W.heap.size=w.heap.size+1:=by rw[hW];simp
  clear hst ho s1 n1 b1 hp;rw[hW]at c0;unfold hv3
  first|go_enter func266,ntmps266|go_enter func256,ntmps256
  go_wp2_with fail
  rw[<-hW];clear c0;have HW:=Y1 hW;clear hW hWs;have q1:∀w',ar W.heap.size W w'->w'.cell? ⟨b,0,none⟩=some (.slice A l.length cp):=fun w' hb=>(hb.cell HH.out.2.2.1.lt).trans (HH.out.2.2.1.cell 0 rfl)
  have r0:∀w',ar W.heap.size W w'->w'.cell? ⟨w.heap.size,0,none⟩=some (.int .u64 x.1.1):=fun w' hb=>(hb.cell HH.out.2.2.2.1.lt).trans (HH.out.2.2.2.1.cell 0 rfl)
  have r1:∀w',ar W.heap.size W w'->w'.cell? ⟨w.heap.size,1,none⟩=some (.int .u64 x.1.2):=fun w' hb=>(hb.cell HH.out.2.2.2.1.lt).trans (HH.out.2.2.2.1.cell 1 rfl)
  have r2:∀w',ar W.heap.size W w'->w'.cell? ⟨w.heap.size,2,none⟩=some (jk.t x.2):=fun w' hb=>(hb.cell HH.out.2.2.2.1.lt).trans (HH.out.2.2.2.1.cell 2 rfl)
  have HQ:=Y4 q1 r0 r1 r2;clear q1 r0 r1 r2;refine gF (ar W.heap.size W) [0,1,2,3] [4,5] [6] [] [7,8,9,10] (by kernel_rfl) (fun _ _ x _ _ h=>by cases x<;>exact h) ((aw _ W).drew) (by kernel_rfl) ?_;simp only[aJ,al,an,af,ag]
  repeat (refine aI (fun K hK=>?_);go_simp;refine hK _ ?_;clear hK K)
  refine au ?_;refine ak (fun K hK=>?_);go_simp;refine⟨.slice A l.length cp,fun w' hw'=>(by rw[HQ.out.1 w' hw'];rfl),hK _ ?_⟩;clear hK K;refine ak (fun K hK=>?_);go_simp;refine⟨.agg #[.int .u64 x.1.1,.int .u64 x.1.2,jk.t x.2],fun w' hw'=>(by simp[HQ.out.2.1 w' hw',HQ.out.2.2.1 w' hw',HQ.out.2.2.2 w' hw',dd]),hK _ ?_⟩;clear hK K;refine bD ?_;intro W0 hb0;have hB0:ar w.heap.size w W0:=HH.out.2.2.2.2.1.trans (hb0.mono HH.out.2.2.2.2.1.size);have s0:St W0 b jk.s [.slice A l.length cp]:=(hb0.block _ HH.out.2.2.1.lt).trans HH.out.2.2.1;have n0:St W0 w.heap.size jk.e [.int .u64 x.1.1,.int .u64 x.1.2,jk.t x.2]:=(hb0.block _ HH.out.2.2.2.1.lt).trans HH.out.2.2.2.1;have o0:W0.ownsRow 0 jk.e 3 (.slice A l.length cp) l.length (hcs jk.t l):=fq HH.out.2.1 fun k hk=>hB0.block k (bJ HH.out.2.1 k hk)
  have HB:=Y5 hb0 hB0 s0 o0 n0;clear hb0 hB0 s0 o0 n0;refine aH (fun K hK=>?_);go_simp;refine hK _ _ (HB.out.1.alloc HB.out.1.size _) ?_;clear hK K;refine aQ (au ?_);obtain⟨hb0,hB0,s0,o0,n0⟩:=HB.out;obtain⟨v',W1,hrun,ho1,hk1,hn1⟩:=UJ jk x o0 (by omega);obtain⟨A',cp',hv'⟩:=aW ho1;subst hv';have Ql:∀k,(cW A l.length cp).ownBlock=some k->k≠b:=fun k hk=>s0.own_ne o0 (by first|decide|exact jk.ne) k hk
  have LJ:∀k,(cW A l.length cp).ownBlock=some k->k≠w.heap.size:=fun k hk=>by have:=bJ HH.out.2.1 k hk;omega
  have s1:St W1 b jk.s [.slice A l.length cp]:=s0.keep hk1 fun e=>Ql _ e rfl
  have n1:St W1 w.heap.size jk.e [.int .u64 x.1.1,.int .u64 x.1.2,jk.t x.2]:=n0.keep hk1 fun e=>LJ _ e rfl
  have f1:=s1.frozen 0;have e1:=s1.cell 0 rfl;have el:(l++[x]).length=l.length+1:=by simp
  rw[el]at ho1 hn1 hrun;have HF:=Y6 s1 n1 ho1 hk1 hn1 hB0;clear s1 n1 ho1 hk1 hn1 hb0 hB0 s0 o0 n0 Ql LJ el;refine dh rfl (.tmp 14) (.tmp 16) jk.sl jk.sl rfl (by simp[de]) (by simp[de]) hrun ?_;clear hrun
  go_wp2_with fail
  obtain⟨W2,hW2⟩:=ex (W1.setCell ⟨b,0,none⟩ (.slice A' (l.length+1) cp'))
  rw[<-hW2];have hA:∃g,A'=some ⟨g,0,none⟩:=by
   have ho1:=HF.out.2.2.1;rcases ho1.2 with⟨_,h⟩|⟨g,cap,cur,h,_⟩
   .omega
   .injection h with h _ _;exact⟨g,h⟩
  obtain⟨g,rfl⟩:=hA;have HS:LH jk.e jk.s jk.t jk.l w W2 S (fun k=>S k∨k=g) b w.heap.size g cp' l x l.length (l++[x]):=by
   obtain⟨s1,n1,ho1,hk1,hn1,hB0⟩:=HF.out;have hp:=HH.out.2.2.2.2.2;have hgb:g≠b:=s1.own_ne ho1 (by first|decide|exact jk.ne) g rfl;have hbw:=HH.out.1.lt;have hgn:g<w.heap.size∨w.heap.size+1<=g:=by
    have h0:=HB.out.1.size;have h1:W.heap.size=w.heap.size+1:=by rw[HW.out];simp
    rcases hn1 g rfl with h|h
    .exact .inl (Nl g (hv g h))
    .right;omega
   have hk:Keeps S w W1:=(Keeps.of_below (S:=S) hB0).trans hk1 fun i hi=>.inl (hv i hi)
   subst hW2;refine⟨Ox hp x x,s1.set 0 _,b_ (p:=⟨b,0,none⟩) ho1 (fun e=>s1.own_ne ho1 (by first|decide|exact jk.ne) _ e.symm rfl) _,n1.other (Nat.ne_of_gt hbw) _,⟨hk.setCell (.inl hT) _,fun k kk=>kk.elim .inl fun e=>?_⟩,.inl hT,.inr rfl,by omega,Ne.symm hgb,fun k kk=>?_⟩
   .rcases hgn with h|h
    .rcases hn1 g rfl with h'|h'
     .exact .inl (e▸hv g h')
     .have:=hB0.size;omega
    .right;omega
   .have:(W1.setCell ⟨b,0,none⟩ (.slice (some ⟨g,0,none⟩) (l.length+1) cp')).heap.size=W1.heap.size:=by simp
    rw[this];exact kk.elim (fun h=>aa (Nl k h) hk.size) fun e=>e▸bJ ho1 g rfl
  have HS':=Y1 HS;clear HS hW2 f1 e1 HF HB HQ HW HH
  go_loopg [4] l.length (fun kq v4 wr=>v4=.int .i64 (kq:Nat)∧∃m,aG (LH jk.e jk.s jk.t jk.l w wr S (fun k=>S k∨k=g) b w.heap.size g cp' l x kq m))
  case atStart=>exact⟨rfl,_,HS'⟩
  case round=>
   obtain⟨rfl,m,hR⟩:=hrel;obtain⟨hU,hb,ho,hx,hk,h1,h2,h3,h4,h5⟩:=hR.out;have mx:=mixed;have mt:=vv;have mt2:=vw;have hil:=hU.bd;have hml:=hU.len;obtain⟨hgl,hcl,hfr⟩:=oz ho;have cb:∀n os,(ab (wr.drewN n) os).cell? ⟨b,0,none⟩=some (.slice (some ⟨g,0,none⟩) (l.length+1) cp'):=fun n os=>cell_grown hb.lt (hb.cell 0 rfl) n os
   have x0:∀n os,(ab (wr.drewN n) os).cell? ⟨w.heap.size,0,none⟩=some (.int .u64 x.1.1):=fun n os=>cell_grown hx.lt (hx.cell 0 rfl) n os
   have x1:∀n os,(ab (wr.drewN n) os).cell? ⟨w.heap.size,1,none⟩=some (.int .u64 x.1.2):=fun n os=>cell_grown hx.lt (hx.cell 1 rfl) n os
   have x2:∀n os,(ab (wr.drewN n) os).cell? ⟨w.heap.size,2,none⟩=some (jk.t x.2):=fun n os=>cell_grown hx.lt (hx.cell 2 rfl) n os
   by_cases hi:0<gk
   .obtain⟨p,hp⟩:∃p,p=(gk-1)/2:=⟨_,rfl⟩
    have hpl:p<m.length:=by omega
    obtain⟨y,hy⟩:=ex (m.getD p hd0)
    have g0:=fun n os=>cell_grown (a:=⟨g,p*3,none⟩) hgl (hcl _ _ ((dw _ m p hpl 0 (by omega)).trans rfl)) n os
    have g1:=fun n os=>cell_grown (a:=⟨g,p*3+1,none⟩) hgl (hcl _ _ ((dw _ m p hpl 1 (by omega)).trans rfl)) n os
    have g2:=fun n os=>cell_grown (a:=⟨g,p*3+2,none⟩) hgl (hcl _ _ ((dw _ m p hpl 2 (by omega)).trans rfl)) n os
    rw[<-hy]at g0 g1 g2;have HY:=Y1 hy;clear hy;obtain⟨q,hq⟩:=ex (gk-1)
    have hw1:cz.wrap ((gk:Int)-1)=q:=by rw[a_];omega
    have hw2:cz.wrap ((q:Int)/2)=p:=by rw[a_];omega
    have hpi:(p:Int)<(l.length:Int)+1:=by omega
    have hpj:¬(p:Int)<0:=by omega
    have hi':(gk:Int)>0:=by omega
    have hpl':p<l.length+1:=by omega
    have HP1:=Y2 hp hq;have HU1:=Y3 hU hml hil;clear hq hU hb ho hx hk h1 h2 h3 h4 h5 hp hil hml hcl hfr hpl
    go_wp2_with fail
    go_quiet_grown (first|(go_at_call 300;refine cA (vo (jk.nu _ x y)))|(go_at_call 299;refine cA (vo (jk.nu _ x y))))
    have HV:=Y1 (hR.out.grew nq osq);generalize ab (wr.drewN nq) osq=V at HV;clear cb x0 x1 x2 hgl;clear g0 g1 g2;cases hl0:jk.l x y with
    |true=>
     have HL:=Y1 hl0;clear hl0
     go_wp2_with fail
     obtain⟨hU,hb,ho,hx,hk,h1,h2,h3,h4,h5⟩:=HV.out;have hil:=hU.bd;have hml:=hU.len;obtain⟨hgl,hcl,hfr⟩:=oz ho;have cb:=hb.cell 0 rfl;have f0:=hfr (gk*3);have f1:=hfr (gk*3+1);have f2:=hfr (gk*3+2);have s0:V.cell? ⟨g,gk*3,none⟩=_:=hcl _ _ ((dw _ m gk hil 0 (by omega)).trans rfl);have s1:=hcl _ _ ((dw _ m gk hil 1 (by omega)).trans rfl);have s2:=hcl _ _ ((dw _ m gk hil 2 (by omega)).trans rfl);have hpm:p<m.length:=by omega
     have g0:V.cell? ⟨g,p*3,none⟩=_:=hcl _ _ ((dw _ m p hpm 0 (by omega)).trans rfl);have g1:=hcl _ _ ((dw _ m p hpm 1 (by omega)).trans rfl);have g2:=hcl _ _ ((dw _ m p hpm 2 (by omega)).trans rfl);rw[<-HY.out]at g0 g1 g2;have hgi:(gk:Int)<(l.length:Int)+1:=by omega
     have hgj:gk<l.length+1:=by omega
     generalize m.getD gk hd0=z at s0 s1 s2;clear hU hb ho hx hk h1 h2 h3 h4 h5 hil hml hcl hfr hpm;refine dG [0] [1,2,3,4,5,6,7,8,9,10,11,12,13,14] [15] (by kernel_rfl) (fun _ _ x _ _ h=>by cases x<;>exact h) (by kernel_rfl) ?_;simp only[aJ,al,an,af,ag];refine aI (fun K hK=>?_);go_simp;refine hK _ ?_;clear hK K;refine au ?_
     repeat quiet_step (fail)
     refine wpQuiet_nil ?_;rintro _ ⟨n3,rfl⟩;have Xk:(V.drewN n3).cell? ⟨g,gk*3,none⟩=_:=s0;have s1':(V.drewN n3).cell? ⟨g,gk*3+1,none⟩=_:=s1;have s2':(V.drewN n3).cell? ⟨g,gk*3+2,none⟩=_:=s2;have Xl:(V.drewN n3).frozen? ⟨g,gk*3,none⟩=false:=f0;have UK:(V.drewN n3).frozen? ⟨g,gk*3+1,none⟩=false:=f1;have f2':(V.drewN n3).frozen? ⟨g,gk*3+2,none⟩=false:=f2;have Ij:=(HV.out.drew n3).step jk.ord hi (by rw[<-HP1.out.1,<-HY.out];exact HL.out);rw[<-HP1.out.1,<-HY.out]at Ij;unfold sJ at Ij;have HE:=Y1 Ij;clear cb g0 g1 g2 s0 s1 s2 f0 f1 f2 Ij
     go_wp2_with fail
     go_roundg p
     case measure=>have:=HP1.out.1;omega
     case rel=>exact⟨rfl,_,HE⟩
    |false=>
     have HL:=Y1 hl0;clear hl0
     go_wp2_with fail
     obtain⟨hU,hb,ho,hx,hk,h1,h2,h3,h4,h5⟩:=HV.out;have hil:=hU.bd;have hml:=hU.len;obtain⟨hgl,hcl,hfr⟩:=oz ho;have cb:=hb.cell 0 rfl;have x0:=hx.cell 0 rfl;have x1:=hx.cell 1 rfl;have x2:=hx.cell 2 rfl;have f0:=hfr (gk*3);have f1:=hfr (gk*3+1);have f2:=hfr (gk*3+2);have s0:V.cell? ⟨g,gk*3,none⟩=_:=hcl _ _ ((dw _ m gk hil 0 (by omega)).trans rfl);have s1:=hcl _ _ ((dw _ m gk hil 1 (by omega)).trans rfl);have s2:=hcl _ _ ((dw _ m gk hil 2 (by omega)).trans rfl);have hgi:(gk:Int)<(l.length:Int)+1:=by omega
     have hgj:gk<l.length+1:=by omega
     generalize m.getD gk hd0=z at s0 s1 s2;clear hU hb ho hx hk h1 h2 h3 h4 h5 hil hml hcl hfr;refine dG [0] [1,2,3,4,5,6] [7] (by kernel_rfl) (fun _ _ x _ _ h=>by cases x<;>exact h) (by kernel_rfl) ?_;simp only[aJ,al,an,af,ag];refine aI (fun K hK=>?_);go_simp;refine hK _ ?_;clear hK K;refine au ?_
     repeat quiet_step (fail)
     refine wpQuiet_nil ?_;rintro _ ⟨n3,rfl⟩;have Xk:(V.drewN n3).cell? ⟨g,gk*3,none⟩=_:=s0;have s1':(V.drewN n3).cell? ⟨g,gk*3+1,none⟩=_:=s1;have s2':(V.drewN n3).cell? ⟨g,gk*3+2,none⟩=_:=s2;have Xl:(V.drewN n3).frozen? ⟨g,gk*3,none⟩=false:=f0;have UK:(V.drewN n3).frozen? ⟨g,gk*3+1,none⟩=false:=f1;have f2':(V.drewN n3).frozen? ⟨g,gk*3+2,none⟩=false:=f2;have HE:=Y1 ((HV.out.drew n3).end_ (fun _=>by rw[<-HP1.out.1,<-HY.out];exact HL.out));unfold sJ at HE;clear cb x0 x1 x2 s0 s1 s2 f0 f1 f2
     go_wp2_with fail
     go_end0
     exact⟨rfl,_,_,HE.out⟩
   .have hi0:¬(gk:Int)>0:=by omega
    have hi1:¬0<gk:=hi;have cw:=hb.cell 0 rfl;clear hU hb ho hx hk h1 h2 h3 h4 h5 hil hml hcl hfr
    go_wp2_with fail
    go_quiet (fail)
    have HV:=Y1 (hR.out.drew nq);generalize wr.drewN nq=V at HV;clear cw cb x0 x1 x2 hgl
    go_wp2_with fail
    obtain⟨hU,hb,ho,hx,hk,h1,h2,h3,h4,h5⟩:=HV.out;have hil:=hU.bd;have hml:=hU.len;obtain⟨hgl,hcl,hfr⟩:=oz ho;have cb:=hb.cell 0 rfl;have x0:=hx.cell 0 rfl;have x1:=hx.cell 1 rfl;have x2:=hx.cell 2 rfl;have f0:=hfr (gk*3);have f1:=hfr (gk*3+1);have f2:=hfr (gk*3+2);have s0:V.cell? ⟨g,gk*3,none⟩=_:=hcl _ _ ((dw _ m gk hil 0 (by omega)).trans rfl);have s1:=hcl _ _ ((dw _ m gk hil 1 (by omega)).trans rfl);have s2:=hcl _ _ ((dw _ m gk hil 2 (by omega)).trans rfl);have hgi:(gk:Int)<(l.length:Int)+1:=by omega
    have hgj:gk<l.length+1:=by omega
    generalize m.getD gk hd0=z at s0 s1 s2;clear hU hb ho hx hk h1 h2 h3 h4 h5 hil hml hcl hfr;refine dG [0] [1,2,3,4,5,6] [7] (by kernel_rfl) (fun _ _ x _ _ h=>by cases x<;>exact h) (by kernel_rfl) ?_;simp only[aJ,al,an,af,ag];refine aI (fun K hK=>?_);go_simp;refine hK _ ?_;clear hK K;refine au ?_
    repeat quiet_step (fail)
    refine wpQuiet_nil ?_;rintro _ ⟨n3,rfl⟩;have Xk:(V.drewN n3).cell? ⟨g,gk*3,none⟩=_:=s0;have s1':(V.drewN n3).cell? ⟨g,gk*3+1,none⟩=_:=s1;have s2':(V.drewN n3).cell? ⟨g,gk*3+2,none⟩=_:=s2;have Xl:(V.drewN n3).frozen? ⟨g,gk*3,none⟩=false:=f0;have UK:(V.drewN n3).frozen? ⟨g,gk*3+1,none⟩=false:=f1;have f2':(V.drewN n3).frozen? ⟨g,gk*3+2,none⟩=false:=f2;have HE:=Y1 ((HV.out.drew n3).end_ (fun h=>absurd h hi));unfold sJ at HE;clear cb x0 x1 x2 s0 s1 s2 f0 f1 f2
    go_wp2_with fail
    go_end0
    exact⟨rfl,_,_,HE.out⟩
def acN:= @Xj _ _ _ _ _ _ _ _ _ _ .a
def acO:= @Xj _ _ _ _ _ _ _ _ _ _ .b
theorem Qn{E HS SL:bj}{T:Nat->ai}{Z:ai}{lt:Hd->Hd->Bool}{uy uz uD sP:cG}(j:HK E HS SL T Z lt uy uz uD sP){w:aq}{b g n cp:Nat}{m:List Hd}(hb:St w b HS [.slice (some ⟨g,0,none⟩) n cp])(ho:w.ownsRow 0 E 3 (.slice (some ⟨g,0,none⟩) n cp) n (hcs T m))(hn:m.length=n)(h0:0<n):
 cy ae uD #[.pointer (some ⟨b,0,none⟩)] w fun e w'=>e=.returned (.tuple #[hv3 (m.getD 0 hd0).1 (T (m.getD 0 hd0).2),.bool true])∧ar w.heap.size w w':=by
 have jk:=j;cases j
 all_goals
  obtain⟨hgl,hcl,hfr⟩:=oz ho;obtain⟨y,hy⟩:=ex (m.getD 0 hd0)
  have g0:w.cell? ⟨g,0,none⟩=_:=hcl _ _ ((dw _ m 0 (by omega) 0 (by omega)).trans rfl);have g1:w.cell? ⟨g,1,none⟩=_:=hcl _ _ ((dw _ m 0 (by omega) 1 (by omega)).trans rfl);have g2:w.cell? ⟨g,2,none⟩=_:=hcl _ _ ((dw _ m 0 (by omega) 2 (by omega)).trans rfl);rw[<-hy]at g0 g1 g2⊢;have c0:=hb.cell 0 rfl;have hbl:=hb.lt;have hne:(n==0)=false:=by simp;omega
  have hnz:¬n=0:=by omega
  have HH:=Y2 hb ho;clear hb ho hcl hfr hy hn;unfold hv3
  first|go_enter fi,eS|go_enter fk,eW
  go_wp2_with fail
  have hSt:(w.alloc (.cells #[.int .u64 y.1.1,.int .u64 y.1.2,jk.t y.2] jk.e (0,0))).heap[w.heap.size]? =some (.cells #[.int .u64 y.1.1,.int .u64 y.1.2,jk.t y.2] jk.e (0,0)):=heap_alloc_new _ _;refine bodyPost_ret (dX rfl _ _ w.heap.size jk.e #[.int .u64 y.1.1,.int .u64 y.1.2,jk.t y.2] (0,0) _ rfl hSt (by first|exact bz|exact ca) rfl (by kernel_rfl)) rfl ?_;exact⟨rfl,(aw _ w).alloc (ao _) _⟩
theorem Ik{E HS SL:bj}{T:Nat->ai}{Z:ai}{lt:Hd->Hd->Bool}{uy uz uD sP:cG}(j:HK E HS SL T Z lt uy uz uD sP){w:aq}{b:Nat}{A:Option Addr}{cp:Nat}(hb:St w b HS [.slice A 0 cp]):
 cy ae uD #[.pointer (some ⟨b,0,none⟩)] w fun e w'=>e=.returned (.tuple #[.agg #[.int .u64 0,.int .u64 0,Z],.bool false])∧ar w.heap.size w w':=by
 have jk:=j;cases j
 all_goals
  have c0:=hb.cell 0 rfl;have hbl:=hb.lt;have f0:=(St.new w jk.e #[.int .u64 0,.int .u64 0,jk.z]).frozen 0;have f1:=(St.new w jk.e #[.int .u64 0,.int .u64 0,jk.z]).frozen 1;have f2:=(St.new w jk.e #[.int .u64 0,.int .u64 0,jk.z]).frozen 2;clear hb
  first|go_enter fi,eS|go_enter fk,eW
  go_wp2_with fail
  have hS0:=St.new w jk.e #[.int .u64 0,.int .u64 0,jk.z];refine bodyPost_ret (dX rfl _ _ w.heap.size jk.e #[.int .u64 0,.int .u64 0,jk.z] (0,0) _ rfl hS0 (by first|exact bz|exact ca) rfl (by kernel_rfl)) rfl ?_;exact⟨rfl,(aw _ w).alloc (ao _) _⟩
theorem CW{E HS SL:bj}{T:Nat->ai}{Z:ai}{lt:Hd->Hd->Bool}{uy uz uD sP:cG}(j:HK E HS SL T Z lt uy uz uD sP){w:aq}{b g n cp i:Nat}(hb:St w b HS [.slice (some ⟨g,0,none⟩) n cp])(hi:n<=2*i+1)(hs:n<1000000)(hs2:i<1000000):
 cy ae sP #[.pointer (some ⟨b,0,none⟩),.int .i64 i] w fun e w'=>e=.returned (.int .i64 (-1))∧w'=w:=by
 have jk:=j;cases j
 all_goals
  have c0:=hb.cell 0 rfl;have hw1:cz.wrap (2*(i:Int))=2*(i:Int):=by rw[a_];omega
  have hw2:cz.wrap (2*(i:Int)+1)=2*(i:Int)+1:=by rw[a_];omega
  have hc:(n:Int)<=2*(i:Int)+1:=by omega
  clear hb
  first|go_enter eJ,ek|go_enter eK,eo
  go_wp2_with fail
  go_ret;exact⟨rfl,rfl⟩
theorem CX{E HS SL:bj}{T:Nat->ai}{Z:ai}{lt:Hd->Hd->Bool}{uy uz uD sP:cG}(j:HK E HS SL T Z lt uy uz uD sP){w:aq}{b g n cp i:Nat}{m:List Hd}(hb:St w b HS [.slice (some ⟨g,0,none⟩) n cp])(ho:w.ownsRow 0 E 3 (.slice (some ⟨g,0,none⟩) n cp) n (hcs T m))(hn:m.length=n)(hi:2*i+1<n)(hs:n<1000000):
 cy ae sP #[.pointer (some ⟨b,0,none⟩),.int .i64 i] w fun e w'=>∃k,e=.returned (.int .i64 (k:Nat))∧Wy (lt:=lt) (d:=hd0) m i k∧∃q os,w'=ab (w.drewN q) os:=by
 have jk:=j;cases j
 all_goals
  obtain⟨hgl,hcl,hfr⟩:=oz ho;obtain⟨k,hk⟩:∃k,k=2*i+1:=⟨_,rfl⟩
  have mx:=mixed;have mt:=vv;have mt2:=vw;have hw1:cz.wrap (2*(i:Int))=2*(i:Int):=by rw[a_];omega
  have hw2:cz.wrap (2*(i:Int)+1)=k:=by rw[a_];omega
  have hw3:cz.wrap ((k:Int)+1)=(k+1:Nat):=by rw[a_];omega
  have hc:¬(n:Int)<=(k:Int):=by omega
  have hc2:(k:Int)<n:=by omega
  have hc3:k<n:=by omega
  have cb:=hb.cell 0 rfl;have cw:∀n' os,(ab (w.drewN n') os).cell? ⟨b,0,none⟩=some (.slice (some ⟨g,0,none⟩) n cp):=fun n' os=>cell_grown hb.lt (hb.cell 0 rfl) n' os
  have hkm:k<m.length:=by omega
  obtain⟨y,hy⟩:=ex (m.getD k hd0)
  have g0:=fun n os=>cell_grown (a:=⟨g,k*3,none⟩) hgl (hcl _ _ ((dw _ m k hkm 0 (by omega)).trans rfl)) n os
  have g1:=fun n os=>cell_grown (a:=⟨g,k*3+1,none⟩) hgl (hcl _ _ ((dw _ m k hkm 1 (by omega)).trans rfl)) n os
  have g2:=fun n os=>cell_grown (a:=⟨g,k*3+2,none⟩) hgl (hcl _ _ ((dw _ m k hkm 2 (by omega)).trans rfl)) n os
  rw[<-hy]at g0 g1 g2;by_cases h2:k+1<n
  .have hk2:k+1<m.length:=by omega
   obtain⟨z,hz⟩:=ex (m.getD (k+1) hd0)
   have z0:=fun n os=>cell_grown (a:=⟨g,(k+1)*3,none⟩) hgl (hcl _ _ ((dw _ m (k+1) hk2 0 (by omega)).trans rfl)) n os
   have z1:=fun n os=>cell_grown (a:=⟨g,(k+1)*3+1,none⟩) hgl (hcl _ _ ((dw _ m (k+1) hk2 1 (by omega)).trans rfl)) n os
   have z2:=fun n os=>cell_grown (a:=⟨g,(k+1)*3+2,none⟩) hgl (hcl _ _ ((dw _ m (k+1) hk2 2 (by omega)).trans rfl)) n os
   rw[<-hz]at z0 z1 z2;obtain⟨k2,zO⟩:=ex (k+1)
   rw[<-zO]at z0 z1 z2 hw3 h2;have hc4:(k2:Int)<n:=by omega
   have HH:=Y5 hk hy hz zO hn;clear hb ho hcl hfr hk hy hz zO hn hi hkm hk2
   first|go_enter eJ,ek|go_enter eK,eo
   go_wp2_with fail
   go_quiet_grown (first|(go_at_call 300;refine cA (vo (jk.nu _ z y)))|(go_at_call 299;refine cA (vo (jk.nu _ z y))))
   cases hl0:jk.l z y with
   |true=>
    have HL:=Y1 hl0;clear hl0 g0 g1 g2 z0 z1 z2 cw
    go_wp2_with fail
    obtain⟨hk,hy,hz,zO,hn⟩:=HH.out;go_ret;refine⟨k2,rfl,?_,_,_,rfl⟩;have:=SV (lt:=jk.l) (d:=hd0) jk.ord (m:=m) (i:=i) (by omega) (by rw[show 2*i+2=k+1 by omega,show 2*i+1=k by omega,<-hy,<-hz];exact HL.out);rw[show k2=2*i+2 by omega];exact this
   |false=>
    have HL:=Y1 hl0;clear hl0 g0 g1 g2 z0 z1 z2 cw
    go_wp2_with fail
    obtain⟨hk,hy,hz,zO,hn⟩:=HH.out;go_ret;refine⟨k,rfl,?_,_,_,rfl⟩;have:=Jo (lt:=jk.l) (d:=hd0) jk.ord (m:=m) (i:=i) (by omega) (fun _=>by rw[show 2*i+2=k+1 by omega,show 2*i+1=k by omega,<-hy,<-hz];exact HL.out);rw[show k=2*i+1 by omega];exact this
  .obtain⟨k2,zO⟩:=ex (k+1)
   rw[<-zO]at hw3 h2;have hc4:¬(k2:Int)<n:=by omega
   have HH:=Y3 hk zO hn;clear hb ho hcl hfr hk hy zO hn hi hkm g0 g1 g2 cw
   first|go_enter eJ,ek|go_enter eK,eo
   go_wp2_with fail
   go_quiet (fail)
   go_wp2_with fail
   obtain⟨hk,zO,hn⟩:=HH.out;go_ret;refine⟨k,rfl,?_,nq,#[],(eM _).symm⟩;have:=Jo (lt:=jk.l) (d:=hd0) jk.ord (m:=m) (i:=i) (by omega) (fun _=>by omega);rw[show k=2*i+1 by omega];exact this
def ahl:= @Qn _ _ _ _ _ _ _ _ _ _ .a
def ahm:= @Qn _ _ _ _ _ _ _ _ _ _ .b
def afQ:= @Ik _ _ _ _ _ _ _ _ _ _ .a
def afR:= @Ik _ _ _ _ _ _ _ _ _ _ .b
def aeF:= @CW _ _ _ _ _ _ _ _ _ _ .a
def aeG:= @CW _ _ _ _ _ _ _ _ _ _ .b
def aeH:= @CX _ _ _ _ _ _ _ _ _ _ .a
def aeI:= @CX _ _ _ _ _ _ _ _ _ _ .b
def FX(te ts:bj)(T:Nat->ai)(lt:Hd->Hd->Bool)(w wr:aq)(S:Nat->Prop)(b g cp n b2 b4 b7:Nat)(f x:Hd)(z:List ai)(L m:List Hd)(i:Nat):Prop:=
 Dn lt hd0 L x m i∧m.length=n∧St wr b ts [.slice (some ⟨g,0,none⟩) n cp]∧wr.ownsRow 0 te 3 (.slice (some ⟨g,0,none⟩) n cp) n (hcs T m)∧St wr b2 te z∧St wr b4 te (hc T f)∧St wr b7 te (hc T x)∧Keeps S w wr∧S b∧S g∧(g<w.heap.size∧b<w.heap.size)∧(w.heap.size<=b2∧w.heap.size<=b4∧w.heap.size<=b7)∧b2≠b4
theorem FX.grew{te ts:bj}{T:Nat->ai}{lt:Hd->Hd->Bool}{w wr:aq}{S:Nat->Prop}{b g cp n b2 b4 b7 i:Nat}{f x:Hd}{z:List ai}{L m:List Hd}(h:FX te ts T lt w wr S b g cp n b2 b4 b7 f x z L m i)(q:Nat)(os:Array Obj):FX te ts T lt w (ab (wr.drewN q) os) S b g cp n b2 b4 b7 f x z L m i:=by
 obtain⟨a1,a2,a3,a4,a5,a6,a7,a8,a9⟩:=h;have k:=(Keeps.refl (fun _=>False) wr).grew q os;exact⟨a1,a2,a3.keep k id,k.own a4 fun _ _=>id,a5.keep k id,a6.keep k id,a7.keep k id,a8.grew q os,a9⟩
variable {L m:List Hd}{N b b2 b4 b7 base bh br cp g gr i k n:Nat}{te ts:bj}{x:Hd}
theorem FX.drew{lt:Hd->Hd->Bool}{S:Nat->Prop}{f:Hd}{z:List ai}(h:FX te ts T lt w wr S b g cp n b2 b4 b7 f x z L m i)(q:Nat):FX te ts T lt w (wr.drewN q) S b g cp n b2 b4 b7 f x z L m i:=h
theorem FX.step{lt:Hd->Hd->Bool}(o:Ord lt){S:Nat->Prop}{f:Hd}{z:List ai}(h:FX te ts T lt w wr S b g cp n b2 b4 b7 f x z L m i)(hb:b≠g)(hk:Wy (lt:=lt) (d:=hd0) m i k)(hlt:lt (m.getD k hd0) x=true):
 FX te ts T lt w (sJ wr g i T (m.getD k hd0)) S b g cp n b2 b4 b7 f x z L (m.set i (m.getD k hd0)) k:=by
 obtain⟨a1,a2,a3,a4,a5,a6,a7,a8,a9,DF,Wp,a12,a13⟩:=h;have kk:=oW wr g i T (m.getD k hd0);have h1:=a12.1;have h2:=a12.2.1;have h3:=a12.2.2;have h4:=Wp.1;exact⟨SS o a1 hk hlt,by rw[cq];exact a2,a3.keep kk hb,by rw[<-a2]at a4 ⊢; exact UD a4 a1.bd _,a5.keep kk (by omega),a6.keep kk (by omega),a7.keep kk (by omega),a8.trans kk fun j e=>.inl (e▸DF),a9,DF,Wp,a12,a13⟩
theorem FX.end_{lt:Hd->Hd->Bool}{S:Nat->Prop}{f:Hd}{z:List ai}(h:FX te ts T lt w wr S b g cp n b2 b4 b7 f x z L m i)(hb:b≠g)(hS:∀k,S k->k<w.heap.size)(hi:∀j,0<j->j<m.length->(j-1)/2=i->lt (m.getD j hd0) x=false):
 iK te ts T (sJ wr g i T x) S b (m.set i x)∧HP lt hd0 (m.set i x)∧(m.set i x).Perm L∧Keeps S w (sJ wr g i T x)∧St (sJ wr g i T x) b2 te z∧St (sJ wr g i T x) b4 te (hc T f):=by
 obtain⟨a1,a2,a3,a4,a5,a6,a7,a8,a9,DF,Wp,a12,a13⟩:=h;have kk:=oW wr g i T x;have h1:=a12.1;have h2:=a12.2.1;have h4:=Wp.1;obtain⟨e1,e2⟩:=X7 a1 hi;have hl:(m.set i x).length=n:=by rw[cq];exact a2
 have k8:=a8.trans kk (S:=S) fun j e=>.inl (e▸DF)
 exact⟨⟨_,a3.keep kk hb,by rw[hl];rw[<-a2]at a4 ⊢; exact UD a4 a1.bd _,a9,fun j e=>by cases e;exact DF,fun j hj=>aa (hS j hj) k8.size⟩,e1,e2,k8,a5.keep kk (by omega),a6.keep kk (by omega)⟩
theorem ES{l l':List Hd}{f:Hd}(hn:n+1=l.length)(hf:f=l.getD 0 hd0)(hx:x=l.getD n hd0)(hz:¬n=0)(h:l'.Perm ((l.take n).set 0 x)):(f::l').Perm l:=by
 have hl2:l.take n++[x]=l:=by
  have h:=ef n l;rw[dg (by omega),dv (by omega)]at h;rw[hx,cd,ax (by omega)];exact h
 have h1:=set_perm (l.take n) 0 x hd0 (by rw[cJ];omega);have e:(l.take n).getD 0 hd0=f:=by
  rw[hf,cd,cd,cE,if_pos (by omega)]
 rw[e]at h1;have h2:(x::l.take n).Perm l:=by
  have:=List.perm_append_singleton x (l.take n);rw[hl2]at this;exact this.symm
 exact((h.cons f).trans h1).trans h2
theorem yN{e size c:Nat}{a:Addr}{xs:List ai}(h:w.ownsRow base e size (.slice (some a) n c) n xs)(hk:k<=n):w.ownsRow base e size (.slice (some a) k c) k (xs.take (k*size)):=by
 have hks:k*size<=n*size:=Nat.mul_le_mul_right _ hk;refine⟨by rw[cJ,h.1];omega,?_⟩;rcases h.2 with⟨h1,_⟩|⟨g,cap,cur,h1,h2,h3,h4,h5,h6,h7⟩
 .cases h1
 .injection h1 with h1 h8 h9;exact .inr ⟨g,cap,cur,by rw[h1,h9],h2,h3,by omega,h5,h6,by rw[<-h7,List.take_take,Nat.min_eq_left hks]⟩
theorem Qo(T:Nat->ai)(l:List Hd)(k:Nat):(hcs T l).take (k*3)=hcs T (l.take k):=by
 induction l generalizing k with
 |nil=>simp[hcs]
 |cons x l ih=>
  cases k with
  |zero=>simp[hcs]
  |succ k=>
   have e:∀(z:Hd) (l:List Hd),hcs T (z::l)=hc T z++hcs T l:=fun z l=>by simp[hcs]
   rw[List.take_succ_cons,e,e,<-ih k,show(k+1)*3=3+k*3 by omega,List.take_append];have hlen:(hc T x).length=3:=rfl;rw[cF (by omega),hlen,show 3+k*3-3=k*3 by omega]
theorem xu{E HS SL:bj}{T:Nat->ai}{Z:ai}{lt:Hd->Hd->Bool}{uy uz uD sP:cG}(j:HK E HS SL T Z lt uy uz uD sP){w wr:aq}{S:Nat->Prop}{b g cp n b2 b4 b7 i:Nat}{f x:Hd}{z:List ai}{L m:List Hd}(h:FX E HS T lt w wr S b g cp n b2 b4 b7 f x z L m i)(hn:n<1000):
 cy ae sP #[.pointer (some ⟨b,0,none⟩),.int .i64 i] wr fun e w'=>∃v:ai,e=.returned v∧((v=.int .i64 (-1)∧n<=2*i+1)∨∃k:Nat,v=.int .i64 k∧Wy (lt:=lt) (d:=hd0) m i k)∧∃q os,w'=ab (wr.drewN q) os:=by
 have jk:=j;cases j
 all_goals
  obtain⟨a1,a2,a3,a4,a5,a6,a7,a8,a9⟩:=h;have hi:=a1.bd;by_cases hc:n<=2*i+1
  .refine(CW jk a3 hc (by omega) (by omega)).mono ?_;rintro e w' ⟨rfl,rfl⟩;exact⟨_,rfl,.inl ⟨rfl,hc⟩,0,#[],(eM _).symm⟩
  .refine(CX jk a3 a4 a2 (by omega) (by omega)).mono ?_;rintro e w' ⟨k,rfl,hk,hw⟩;exact⟨_,rfl,.inr ⟨k,rfl,hk⟩,hw⟩
theorem acP{E HS SL:bj}{T:Nat->ai}{Z:ai}{lt:Hd->Hd->Bool}{uy uz uD sP:cG}(j:HK E HS SL T Z lt uy uz uD sP){w:aq}{S:Nat->Prop}{b:Nat}{l:List Hd}(h:iK E HS T w S b l)(hp:HP lt hd0 l)(h0:0<l.length)(hl:l.length<1000):
 cy ae uz #[.pointer (some ⟨b,0,none⟩)] w fun e w'=>e=.returned (.tuple #[hv3 (l.getD 0 hd0).1 (T (l.getD 0 hd0).2),.bool true])∧∃l',iK E HS T w' S b l'∧HP lt hd0 l'∧(l.getD 0 hd0::l').Perm l∧Stp S S w w':=by
 have jk:=j;cases j
 all_goals
  obtain⟨v,hst,ho,hT,hv,Nl⟩:=h;obtain⟨A,cp,rfl⟩:=aW ho;have hA:∃g,A=some ⟨g,0,none⟩:=by
   rcases ho.2 with⟨_,h⟩|⟨g,cap,cur,h,_⟩
   .omega
   .injection h with h _ _;exact⟨g,h⟩
  obtain⟨g,rfl⟩:=hA;obtain⟨n,hn⟩:∃n,n+1=l.length:=⟨l.length-1,by omega⟩
  rw[<-hn]at hst ho hv;have hSg:S g:=hv g rfl;have hbg:b≠g:=fun e=>hst.own_ne ho (by first|decide|exact jk.ne) g rfl e.symm
  obtain⟨hgl,hcl,hfr⟩:=oz ho;obtain⟨f,hf⟩:=ex (l.getD 0 hd0)
  obtain⟨x,hx⟩:=ex (l.getD n hd0)
  have W0s:=hst.alloc (.cells #[.int .u64 0,.int .u64 0,jk.z] jk.e (0,0));have W0o:=ho.alloc (.cells #[.int .u64 0,.int .u64 0,jk.z] jk.e (0,0));have UL:=Qn jk W0s W0o hn.symm (by omega);rw[<-hf]at UL⊢;obtain⟨W0,hW0⟩:=ex (w.alloc (.cells #[.int .u64 0,.int .u64 0,jk.z] jk.e (0,0)))
  have z0:St W0 w.heap.size jk.e [.int .u64 0,.int .u64 0,jk.z]:=by rw[hW0];exact St.new _ _ _
  have b0:ar w.heap.size w W0:=by rw[hW0];exact(aw _ w).alloc (ao _) _
  have hs0:W0.heap.size=w.heap.size+1:=by rw[hW0];simp
  rw[<-hW0]at UL;have HH:=Wo hst ho hn hf hx hp z0 b0 hs0 hW0;clear hst ho hn hf hx hp z0 b0 hs0 W0s W0o hcl hfr;unfold hv3 at UL⊢
  first|go_enter fl,fb|go_enter fm,fc
  rw[hW0]at UL
  go_wp2_with fail
  refine UL.mono ?_;rintro e w1 ⟨rfl,hb1⟩;rw[<-hW0]at hb1;have HX:b<w1.heap.size∧g<w1.heap.size∧w1.cell? ⟨g,n*3,none⟩=some (.int .u64 x.1.1)∧w1.cell? ⟨g,n*3+1,none⟩=some (.int .u64 x.1.2)∧w1.cell? ⟨g,n*3+2,none⟩=some (jk.t x.2)∧w1.frozen? ⟨b,0,none⟩=false∧w1.cell? ⟨b,0,none⟩=some (.slice (some ⟨g,0,none⟩) (n+1) cp)∧
   St w1 b jk.s [.slice (some ⟨g,0,none⟩) (n+1) cp]∧w1.ownsRow 0 jk.e 3 (.slice (some ⟨g,0,none⟩) (n+1) cp) (n+1) (hcs jk.t l)∧St w1 w.heap.size jk.e [.int .u64 0,.int .u64 0,jk.z]∧ar w.heap.size w w1:=by
   obtain⟨hst,ho,hn,hf,hx,hp,z0,b0,hs0,-⟩:=HH.out;have o1:=fq (w1:=w1) ho fun k hk=>(hb1.block k (aa (bJ ho k hk) b0.size)).trans (b0.block k (bJ ho k hk))
   have s1:St w1 b jk.s [.slice (some ⟨g,0,none⟩) (n+1) cp]:=(hb1.block b (aa hst.lt b0.size)).trans ((b0.block b hst.lt).trans hst);have z1:St w1 w.heap.size jk.e [.int .u64 0,.int .u64 0,jk.z]:=(hb1.block _ z0.lt).trans z0;obtain⟨q1,q2,q3⟩:=oz o1;have hnl:n<l.length:=by omega
   rw[hx];exact⟨s1.lt,q1,q2 _ _ ((dw _ l n hnl 0 (by omega)).trans rfl),q2 _ _ ((dw _ l n hnl 1 (by omega)).trans rfl),q2 _ _ ((dw _ l n hnl 2 (by omega)).trans rfl),s1.frozen 0,s1.cell 0 rfl,s1,o1,z1,b0.trans (hb1.mono b0.size)⟩
  obtain⟨afS,afT,x0,x1,x2,fb1,c1,hs1,ho1,hz1,hbw⟩:=HX;have hbr:b<w.heap.size:=HH.out.1.lt;have hr1:w.heap.size<w1.heap.size:=hz1.lt;have y0:=hz1.cell 0 rfl;have y1:=hz1.cell 1 rfl;have y2:=hz1.cell 2 rfl;have fy0:=hz1.frozen 0;have fy1:=hz1.frozen 1;have fy2:=hz1.frozen 2;have Za:b≠w.heap.size:=by omega
  have acQ:w.heap.size≠b:=by omega
  have HB1:=Y4 hs1 ho1 hz1 hbw;have hn1:n<1000:=by have:=HH.out.2.2.1;omega
  have hn2:(n:Int)<(n:Int)+1:=by omega
  clear hb1 UL hW0 hs1 ho1 hz1 hbw;by_cases hz:n=0
  .subst hz
   go_wp2_with fail
   obtain⟨hs1,ho1,hz1,hbw⟩:=HB1.out;obtain⟨hst,ho,hn,hf,hx,hp,z0,b0,hs0,-⟩:=HH.out;have s2:=(((((hz1.other acQ (a:=⟨b,0,none⟩) (.slice (some ⟨g,0,none⟩) 0 cp)).set 0 (.int .u64 f.1.1)).set 1 (.int .u64 f.1.2)).set 2 (jk.t f.2)).alloc (.cells #[.int .u64 f.1.1,.int .u64 f.1.2,jk.t f.2] jk.e (0,0))).alloc (.cells #[.int .u64 x.1.1,.int .u64 x.1.2,jk.t x.2] jk.e (0,0));have t2:=(((((hs1.set 0 (.slice (some ⟨g,0,none⟩) 0 cp)).other (a:=⟨w.heap.size,0,none⟩) Za (.int .u64 f.1.1)).other (a:=⟨w.heap.size,1,none⟩) Za (.int .u64 f.1.2)).other (a:=⟨w.heap.size,2,none⟩) Za (jk.t f.2)).alloc (.cells #[.int .u64 f.1.1,.int .u64 f.1.2,jk.t f.2] jk.e (0,0))).alloc (.cells #[.int .u64 x.1.1,.int .u64 x.1.2,jk.t x.2] jk.e (0,0));refine bodyPost_ret (dX rfl _ _ w.heap.size jk.e #[.int .u64 f.1.1,.int .u64 f.1.2,jk.t f.2] (0,0) _ rfl s2 (by first|exact bz|exact ca) rfl (by kernel_rfl)) rfl ?_;have hkk:=((((((Keeps.of_below (S:=S) hbw).setCell (a:=⟨b,0,none⟩) (.inl hT) (.slice (some ⟨g,0,none⟩) 0 cp)).setCell (a:=⟨w.heap.size,0,none⟩) (.inr (ao _)) (.int .u64 f.1.1)).setCell (a:=⟨w.heap.size,1,none⟩) (.inr (ao _)) (.int .u64 f.1.2)).setCell (a:=⟨w.heap.size,2,none⟩) (.inr (ao _)) (jk.t f.2)).alloc (.cells #[.int .u64 f.1.1,.int .u64 f.1.2,jk.t f.2] jk.e (0,0))).alloc (.cells #[.int .u64 x.1.1,.int .u64 x.1.2,jk.t x.2] jk.e (0,0));have k1:=((((((Keeps.refl (fun k=>k=b∨k=w.heap.size) w1).setCell (a:=⟨b,0,none⟩) (.inl (.inl rfl)) (.slice (some ⟨g,0,none⟩) 0 cp)).setCell (a:=⟨w.heap.size,0,none⟩) (.inl (.inr rfl)) (.int .u64 f.1.1)).setCell (a:=⟨w.heap.size,1,none⟩) (.inl (.inr rfl)) (.int .u64 f.1.2)).setCell (a:=⟨w.heap.size,2,none⟩) (.inl (.inr rfl)) (jk.t f.2)).alloc (.cells #[.int .u64 f.1.1,.int .u64 f.1.2,jk.t f.2] jk.e (0,0))).alloc (.cells #[.int .u64 x.1.1,.int .u64 x.1.2,jk.t x.2] jk.e (0,0));have o2:=k1.own (yN ho1 (cM _)) fun k e h=>by
    have e:g=k:=by simpa[da]using e
    rcases h with h|h<;>omega
   refine⟨rfl,[],⟨_,t2,by simpa[hcs]using o2,hT,fun k e=>(by have e:g=k:=(by simpa[da]using e);exact e▸hSg),fun k hk=>aa (Nl k hk) hkk.size⟩,fun j _ h=>absurd h (by simp),?_,hkk,fun k h=>.inl h⟩
   match l,hn with
   | [y],_=>rw[hf];exact List.Perm.refl _
  have hcp:n<=cp:=by
   rcases HB1.out.2.1.2 with⟨h,_⟩|⟨g',cap,cur,h,h2,h3,h4,_⟩
   .cases h
   .injection h with _ _ h;omega
  have hnz:(n==0)=false:=by simpa using hz
  have hni:((n:Int)==0)=false:=by simp;omega
  go_wp2_with fail
  obtain⟨W2,hW2⟩:∃W2,W2=((w1.setCell ⟨b,0,none⟩ (.slice (some ⟨g,0,none⟩) n cp)).alloc (.cells #[.int .u64 f.1.1,.int .u64 f.1.2,jk.t f.2] jk.e (0,0))).alloc (.cells #[.int .u64 x.1.1,.int .u64 x.1.2,jk.t x.2] jk.e (0,0)):=⟨_,rfl⟩
  rw[<-hW2];have hD:FX jk.e jk.s jk.t jk.l w W2 S b g cp n w.heap.size w1.heap.size (w1.heap.size+1) f x [.int .u64 0,.int .u64 0,jk.z] ((l.take n).set 0 x) (l.take n) 0:=by
   obtain⟨hs1,ho1,hz1,hbw⟩:=HB1.out;obtain⟨hst,ho,hn,hf,hx,hp,z0,b0,hs0,-⟩:=HH.out;have hl2:l.take n++[x]=l:=by
    have h:=ef n l;rw[dg (by omega),dv (by omega)]at h;rw[hx,cd,ax (by omega)];exact h
   have k1:=((Keeps.refl (fun k=>k=b) w1).setCell (a:=⟨b,0,none⟩) (.inl rfl) (.slice (some ⟨g,0,none⟩) n cp)).alloc (.cells #[.int .u64 f.1.1,.int .u64 f.1.2,jk.t f.2] jk.e (0,0))|>.alloc (.cells #[.int .u64 x.1.1,.int .u64 x.1.2,jk.t x.2] jk.e (0,0));have o2:=k1.own (yN ho1 (Nat.le_succ n)) fun k e h=>by
    have e:g=k:=by simpa[da]using e
    have h:k=b:=h;omega
   rw[Qo]at o2;have t4:St ((w1.setCell ⟨b,0,none⟩ (.slice (some ⟨g,0,none⟩) n cp)).alloc (.cells #[.int .u64 f.1.1,.int .u64 f.1.2,jk.t f.2] jk.e (0,0))) w1.heap.size jk.e [.int .u64 f.1.1,.int .u64 f.1.2,jk.t f.2]:=by
    simpa using St.new (w1.setCell ⟨b,0,none⟩ (.slice (some ⟨g,0,none⟩) n cp)) jk.e #[.int .u64 f.1.1,.int .u64 f.1.2,jk.t f.2]
   have t7:St W2 (w1.heap.size+1) jk.e [.int .u64 x.1.1,.int .u64 x.1.2,jk.t x.2]:=by
    rw[hW2];simpa using St.new ((w1.setCell ⟨b,0,none⟩ (.slice (some ⟨g,0,none⟩) n cp)).alloc (.cells #[.int .u64 f.1.1,.int .u64 f.1.2,jk.t f.2] jk.e (0,0))) jk.e #[.int .u64 x.1.1,.int .u64 x.1.2,jk.t x.2]
   have hsz:=hbw.size;refine⟨Oy (by rw[hl2];exact hp) (by simp;omega),by simp;omega,?_,by rw[hW2];exact o2,by rw[hW2];exact((hz1.other acQ _).alloc _).alloc _,by rw[hW2];exact t4.alloc _,t7,?_,hT,hSg,⟨hgl,hbr⟩,⟨ao _,hsz,by omega⟩,by omega⟩
   .rw[hW2];exact((hs1.set 0 _).alloc _).alloc _
   .rw[hW2];exact(((Keeps.of_below (S:=S) hbw).setCell (a:=⟨b,0,none⟩) (.inl hT) _).alloc _).alloc _
  have HD:=Y1 hD;refine(xu jk hD hn1).mono ?_;rintro e w3 ⟨v9,rfl,hv9,q3,os3,hw3⟩;have HD3:=Y1 (show FX jk.e jk.s jk.t jk.l w w3 S b g cp n w.heap.size w1.heap.size (w1.heap.size+1) f x [.int .u64 0,.int .u64 0,jk.z] ((l.take n).set 0 x) (l.take n) 0 by rw[hw3];exact hD.grew q3 os3);have HV9:=Y1 hv9;have HB2:=HB1;clear hD hw3 hW2 hv9 x0 x1 x2 fb1 c1 y0 y1 y2 fy0 fy1 fy2 afS afT hr1 hn2 HB1
  go_wp2_with fail
  go_loopg [8,9] n (fun kq v8 v9 wr=>∃i m,kq+i=n∧v8=.int .i64 (i:Nat)∧aG ((v9=.int .i64 (-1)∧n<=2*i+1)∨∃k:Nat,v9=.int .i64 k∧Wy (lt:=jk.l) (d:=hd0) m i k)∧aG (FX jk.e jk.s jk.t jk.l w wr S b g cp n w.heap.size w1.heap.size (w1.heap.size+1) f x [.int .u64 0,.int .u64 0,jk.z] ((l.take n).set 0 x) m i))
  case atStart=>exact⟨0,l.take n,by omega,rfl,HV9,HD3⟩
  case round=>
   obtain⟨i,m,hki,rfl,hv9,hD⟩:=hrel;rcases hv9.out with⟨rfl,hno⟩|⟨k,rfl,Zb⟩
   .have HNO:=Y1 hno;have cb:=hD.out.2.2.1.cell 0 rfl;clear hno hv9
    go_wp2_with fail
    go_quiet (fail)
    have HV:=Y1 (hD.out.drew nq);generalize wr.drewN nq=V at HV;clear cb
    go_wp2_with fail
    obtain⟨hD,hm,hb,ho,hz2,Zc,hx7,hk,h1,h2,h3,h4⟩:=HV.out;have hil:=hD.bd;obtain⟨hgl,hcl,hfr⟩:=oz ho;have cb:=hb.cell 0 rfl;have x0:=hx7.cell 0 rfl;have x1:=hx7.cell 1 rfl;have x2:=hx7.cell 2 rfl;have f0:=hfr (i*3);have f1:=hfr (i*3+1);have f2:=hfr (i*3+2);have s0:V.cell? ⟨g,i*3,none⟩=_:=hcl _ _ ((dw _ m i hil 0 (by omega)).trans rfl);have s1:=hcl _ _ ((dw _ m i hil 1 (by omega)).trans rfl);have s2:=hcl _ _ ((dw _ m i hil 2 (by omega)).trans rfl);have hgi:(i:Int)<(n:Int):=by omega
    have hgj:i<n:=by omega
    generalize m.getD i hd0=z at s0 s1 s2;clear hD hm hb ho hz2 Zc hx7 hk h1 h2 h3 h4 hil hcl hfr;refine dG [0] [1,2,3,4,5,6] [7] (by kernel_rfl) (fun _ _ x _ _ h=>by cases x<;>exact h) (by kernel_rfl) ?_;simp only[aJ,al,an,af,ag];refine aI (fun K hK=>?_);go_simp;refine hK _ ?_;clear hK K;refine au ?_
    repeat quiet_step (fail)
    refine wpQuiet_nil ?_;rintro _ ⟨n3,rfl⟩;have Xk:(V.drewN n3).cell? ⟨g,i*3,none⟩=_:=s0;have s1':(V.drewN n3).cell? ⟨g,i*3+1,none⟩=_:=s1;have s2':(V.drewN n3).cell? ⟨g,i*3+2,none⟩=_:=s2;have Xl:(V.drewN n3).frozen? ⟨g,i*3,none⟩=false:=f0;have UK:(V.drewN n3).frozen? ⟨g,i*3+1,none⟩=false:=f1;have f2':(V.drewN n3).frozen? ⟨g,i*3+2,none⟩=false:=f2;have Ij:=(HV.out.drew n3).end_ hbg Nl (fun j h0 hj hji=>by have:=HNO.out;have:=HV.out.2.1;omega);have afU:w.heap.size≠w1.heap.size:=HV.out.2.2.2.2.2.2.2.2.2.2.2.2;unfold sJ at Ij;obtain⟨eA,eB,eC,eD,eE,eF⟩:=Ij;have u0:=eF.cell 0 rfl;have u1:=eF.cell 1 rfl;have u2:=eF.cell 2 rfl;have v0:=eE.cell 0 rfl;have v1:=eE.cell 1 rfl;have v2:=eE.cell 2 rfl;have fv0:=eE.frozen 0;have fv1:=eE.frozen 1;have fv2:=eE.frozen 2;have HE:=Y5 eA eB eC eD eE;clear cb x0 x1 x2 s0 s1 s2 f0 f1 f2 eA eB eC eD eE eF;obtain⟨Z,hZ⟩:∃Z,Z=(((V.drewN n3).setCell ⟨g,i*3,none⟩ (.int .u64 x.1.1)).setCell ⟨g,i*3+1,none⟩ (.int .u64 x.1.2)).setCell ⟨g,i*3+2,none⟩ (jk.t x.2):=⟨_,rfl⟩
    go_wp2_with fail
    rw[<-hZ]at HE⊢;clear hZ u0 u1 u2 v0 v1 v2 fv0 fv1 fv2 Xk s1' s2' Xl UK f2';obtain⟨eA,eB,eC,eD,eE⟩:=HE.out;have s2:=((eE.set 0 (.int .u64 f.1.1)).set 1 (.int .u64 f.1.2)).set 2 (jk.t f.2);refine bodyPost_ret (dX rfl _ _ w.heap.size jk.e #[.int .u64 f.1.1,.int .u64 f.1.2,jk.t f.2] (0,0) _ rfl s2 (by first|exact bz|exact ca) rfl (by kernel_rfl)) rfl ?_;have k1:=(((Keeps.refl (fun k=>k=w.heap.size) Z).setCell (a:=⟨w.heap.size,0,none⟩) (.inl rfl) (.int .u64 f.1.1)).setCell (a:=⟨w.heap.size,1,none⟩) (.inl rfl) (.int .u64 f.1.2)).setCell (a:=⟨w.heap.size,2,none⟩) (.inl rfl) (jk.t f.2);refine⟨rfl,m.set i x,eA.keep k1 fun k hk h=>?_,eB,?_,eD.trans k1 fun k h=>.inr (fp (Eq.symm h)),fun k h=>.inl h⟩
    .have h:k=w.heap.size:=h;have:=Nl k hk;omega
    .obtain⟨hst,ho,hn,hf,hx,hp,z0,b0,hs0,-⟩:=HH.out;exact ES hn hf hx hz eC
   .have HK:=Y1 Zb;have hkn:k<n:=by have:=Zb.1;have:=hD.out.2.1;omega
    obtain⟨hDn,hm,hb,ho,hz2,Zc,hx7,hk0,h1,h2,h3,h4⟩:=hD.out;have mx:=mixed;have mt:=vv;have mt2:=vw;obtain⟨hgl,hcl,hfr⟩:=oz ho;have hkm:k<m.length:=by omega
    have cb:∀n' os,(ab (wr.drewN n') os).cell? ⟨b,0,none⟩=some (.slice (some ⟨g,0,none⟩) n cp):=fun n' os=>cell_grown hb.lt (hb.cell 0 rfl) n' os
    have x0:∀n os,(ab (wr.drewN n) os).cell? ⟨w1.heap.size+1,0,none⟩=some (.int .u64 x.1.1):=fun n os=>cell_grown hx7.lt (hx7.cell 0 rfl) n os
    have x1:∀n os,(ab (wr.drewN n) os).cell? ⟨w1.heap.size+1,1,none⟩=some (.int .u64 x.1.2):=fun n os=>cell_grown hx7.lt (hx7.cell 1 rfl) n os
    have x2:∀n os,(ab (wr.drewN n) os).cell? ⟨w1.heap.size+1,2,none⟩=some (jk.t x.2):=fun n os=>cell_grown hx7.lt (hx7.cell 2 rfl) n os
    obtain⟨y,hy⟩:=ex (m.getD k hd0)
    have g0:=fun n os=>cell_grown (a:=⟨g,k*3,none⟩) hgl (hcl _ _ ((dw _ m k hkm 0 (by omega)).trans rfl)) n os
    have g1:=fun n os=>cell_grown (a:=⟨g,k*3+1,none⟩) hgl (hcl _ _ ((dw _ m k hkm 1 (by omega)).trans rfl)) n os
    have g2:=fun n os=>cell_grown (a:=⟨g,k*3+2,none⟩) hgl (hcl _ _ ((dw _ m k hkm 2 (by omega)).trans rfl)) n os
    rw[<-hy]at g0 g1 g2;have HY:=Y1 hy;have hk1:(k:Int)>=0:=by omega
    have hk2:(k:Int)<n:=by omega
    clear hv9 Zb hDn hm hb ho hz2 Zc hx7 hk0 h1 h2 h3 h4 hcl hfr hkm hy
    go_wp2_with fail
    go_quiet_grown (first|(go_at_call 300;refine cA (vo (jk.nu _ y x)))|(go_at_call 299;refine cA (vo (jk.nu _ y x))))
    have HV:=Y1 (hD.out.grew nq osq);generalize ab (wr.drewN nq) osq=V at HV;clear cb x0 x1 x2 hgl g0 g1 g2;cases hl0:jk.l y x with
    |true=>
     have HL:=Y1 hl0;clear hl0
     go_wp2_with fail
     obtain⟨hDn,hm,hb,ho,hz2,Zc,hx7,hk0,h1,h2,h3,h4⟩:=HV.out;have hil:=hDn.bd;obtain⟨hgl,hcl,hfr⟩:=oz ho;have cb:=hb.cell 0 rfl;have f0:=hfr (i*3);have f1:=hfr (i*3+1);have f2:=hfr (i*3+2);have s0:V.cell? ⟨g,i*3,none⟩=_:=hcl _ _ ((dw _ m i hil 0 (by omega)).trans rfl);have s1:=hcl _ _ ((dw _ m i hil 1 (by omega)).trans rfl);have s2:=hcl _ _ ((dw _ m i hil 2 (by omega)).trans rfl);have hkm:k<m.length:=by omega
     have g0:V.cell? ⟨g,k*3,none⟩=_:=hcl _ _ ((dw _ m k hkm 0 (by omega)).trans rfl);have g1:=hcl _ _ ((dw _ m k hkm 1 (by omega)).trans rfl);have g2:=hcl _ _ ((dw _ m k hkm 2 (by omega)).trans rfl);rw[<-HY.out]at g0 g1 g2;have hgi:(i:Int)<(n:Int):=by omega
     have hgj:i<n:=by omega
     generalize m.getD i hd0=z at s0 s1 s2;clear hDn hm hb ho hz2 Zc hx7 hk0 h1 h2 h3 h4 hil hcl hfr hkm;refine dG [0] [1,2,3,4,5,6,7,8,9,10,11,12] [13] (by kernel_rfl) (fun _ _ x _ _ h=>by cases x<;>exact h) (by kernel_rfl) ?_;simp only[aJ,al,an,af,ag];refine aI (fun K hK=>?_);go_simp;refine hK _ ?_;clear hK K;refine au ?_
     repeat quiet_step (fail)
     refine wpQuiet_nil ?_;rintro _ ⟨n3,rfl⟩;have Xk:(V.drewN n3).cell? ⟨g,i*3,none⟩=_:=s0;have s1':(V.drewN n3).cell? ⟨g,i*3+1,none⟩=_:=s1;have s2':(V.drewN n3).cell? ⟨g,i*3+2,none⟩=_:=s2;have Xl:(V.drewN n3).frozen? ⟨g,i*3,none⟩=false:=f0;have UK:(V.drewN n3).frozen? ⟨g,i*3+1,none⟩=false:=f1;have f2':(V.drewN n3).frozen? ⟨g,i*3+2,none⟩=false:=f2;have Ij:=(HV.out.drew n3).step jk.ord hbg HK.out (by rw[<-HY.out];exact HL.out);rw[<-HY.out]at Ij;unfold sJ at Ij;have HE:=Y1 Ij;clear cb g0 g1 g2 s0 s1 s2 f0 f1 f2 Ij;obtain⟨Z,hZ⟩:∃Z,Z=(((V.drewN n3).setCell ⟨g,i*3,none⟩ (.int .u64 y.1.1)).setCell ⟨g,i*3+1,none⟩ (.int .u64 y.1.2)).setCell ⟨g,i*3+2,none⟩ (jk.t y.2):=⟨_,rfl⟩
     go_wp2_with fail
     rw[<-hZ]at HE⊢;clear hZ Xk s1' s2' Xl UK f2';refine(xu jk HE.out hn1).mono ?_;rintro e w4 ⟨v9',rfl,acR,q4,os4,hw4⟩;have HD4:=Y1 (show FX jk.e jk.s jk.t jk.l w w4 S b g cp n w.heap.size w1.heap.size (w1.heap.size+1) f x [.int .u64 0,.int .u64 0,jk.z] ((l.take n).set 0 x) (m.set i y) k by rw[hw4];exact HE.out.grew q4 os4);have HV4:=Y1 acR;clear hw4 acR;have ahP:k>i:=by have:=HK.out.2.2.1;have:=HK.out.2.1;omega
     go_wp2_with fail
     go_roundg (n-k)
     case measure=>omega
     case rel=>exact⟨k,m.set i y,by omega,rfl,HV4,HD4⟩
    |false=>
     have HL:=Y1 hl0;clear hl0
     go_wp2_with fail
     obtain⟨hD,hm,hb,ho,hz2,Zc,hx7,hk,h1,h2,h3,h4⟩:=HV.out;have hil:=hD.bd;obtain⟨hgl,hcl,hfr⟩:=oz ho;have cb:=hb.cell 0 rfl;have x0:=hx7.cell 0 rfl;have x1:=hx7.cell 1 rfl;have x2:=hx7.cell 2 rfl;have f0:=hfr (i*3);have f1:=hfr (i*3+1);have f2:=hfr (i*3+2);have s0:V.cell? ⟨g,i*3,none⟩=_:=hcl _ _ ((dw _ m i hil 0 (by omega)).trans rfl);have s1:=hcl _ _ ((dw _ m i hil 1 (by omega)).trans rfl);have s2:=hcl _ _ ((dw _ m i hil 2 (by omega)).trans rfl);have hgi:(i:Int)<(n:Int):=by omega
     have hgj:i<n:=by omega
     generalize m.getD i hd0=z at s0 s1 s2;clear hD hm hb ho hz2 Zc hx7 hk h1 h2 h3 h4 hil hcl hfr;refine dG [0] [1,2,3,4,5,6] [7] (by kernel_rfl) (fun _ _ x _ _ h=>by cases x<;>exact h) (by kernel_rfl) ?_;simp only[aJ,al,an,af,ag];refine aI (fun K hK=>?_);go_simp;refine hK _ ?_;clear hK K;refine au ?_
     repeat quiet_step (fail)
     refine wpQuiet_nil ?_;rintro _ ⟨n3,rfl⟩;have Xk:(V.drewN n3).cell? ⟨g,i*3,none⟩=_:=s0;have s1':(V.drewN n3).cell? ⟨g,i*3+1,none⟩=_:=s1;have s2':(V.drewN n3).cell? ⟨g,i*3+2,none⟩=_:=s2;have Xl:(V.drewN n3).frozen? ⟨g,i*3,none⟩=false:=f0;have UK:(V.drewN n3).frozen? ⟨g,i*3+1,none⟩=false:=f1;have f2':(V.drewN n3).frozen? ⟨g,i*3+2,none⟩=false:=f2;have Ij:=(HV.out.drew n3).end_ hbg Nl (X8 jk.ord HK.out (by rw[<-HY.out];exact HL.out));have afU:w.heap.size≠w1.heap.size:=HV.out.2.2.2.2.2.2.2.2.2.2.2.2;unfold sJ at Ij;obtain⟨eA,eB,eC,eD,eE,eF⟩:=Ij;have u0:=eF.cell 0 rfl;have u1:=eF.cell 1 rfl;have u2:=eF.cell 2 rfl;have v0:=eE.cell 0 rfl;have v1:=eE.cell 1 rfl;have v2:=eE.cell 2 rfl;have fv0:=eE.frozen 0;have fv1:=eE.frozen 1;have fv2:=eE.frozen 2;have HE:=Y5 eA eB eC eD eE;clear cb x0 x1 x2 s0 s1 s2 f0 f1 f2 eA eB eC eD eE eF;obtain⟨Z,hZ⟩:∃Z,Z=(((V.drewN n3).setCell ⟨g,i*3,none⟩ (.int .u64 x.1.1)).setCell ⟨g,i*3+1,none⟩ (.int .u64 x.1.2)).setCell ⟨g,i*3+2,none⟩ (jk.t x.2):=⟨_,rfl⟩
     go_wp2_with fail
     rw[<-hZ]at HE⊢;clear hZ u0 u1 u2 v0 v1 v2 fv0 fv1 fv2 Xk s1' s2' Xl UK f2';obtain⟨eA,eB,eC,eD,eE⟩:=HE.out;have s2:=((eE.set 0 (.int .u64 f.1.1)).set 1 (.int .u64 f.1.2)).set 2 (jk.t f.2);refine bodyPost_ret (dX rfl _ _ w.heap.size jk.e #[.int .u64 f.1.1,.int .u64 f.1.2,jk.t f.2] (0,0) _ rfl s2 (by first|exact bz|exact ca) rfl (by kernel_rfl)) rfl ?_;have k1:=(((Keeps.refl (fun k=>k=w.heap.size) Z).setCell (a:=⟨w.heap.size,0,none⟩) (.inl rfl) (.int .u64 f.1.1)).setCell (a:=⟨w.heap.size,1,none⟩) (.inl rfl) (.int .u64 f.1.2)).setCell (a:=⟨w.heap.size,2,none⟩) (.inl rfl) (jk.t f.2);refine⟨rfl,m.set i x,eA.keep k1 fun k hk h=>?_,eB,?_,eD.trans k1 fun k h=>.inr (fp (Eq.symm h)),fun k h=>.inl h⟩
     .have h:k=w.heap.size:=h;have:=Nl k hk;omega
     .obtain⟨hst,ho,hn,hf,hx,hp,z0,b0,hs0,-⟩:=HH.out;exact ES hn hf hx hz eC
def aeJ:= @xu _ _ _ _ _ _ _ _ _ _ .a
def aeK:= @xu _ _ _ _ _ _ _ _ _ _ .b
def afV:= @acP _ _ _ _ _ _ _ _ _ _ .a
def afW:= @acP _ _ _ _ _ _ _ _ _ _ .b
theorem Xm{E HS SL:bj}{T:Nat->ai}{Z:ai}{lt:Hd->Hd->Bool}{uy uz uD sP:cG}(j:HK E HS SL T Z lt uy uz uD sP){w:aq}{S:Nat->Prop}{b:Nat}(h:iK E HS T w S b []):
 cy ae uz #[.pointer (some ⟨b,0,none⟩)] w fun e w'=>e=.returned (.tuple #[.agg #[.int .u64 0,.int .u64 0,Z],.bool false])∧ar w.heap.size w w':=by
 have jk:=j;cases j
 all_goals
  obtain⟨v,hst,ho,hT,hv,Nl⟩:=h;obtain⟨A,cp,rfl⟩:=aW ho;have W0s:=hst.alloc (.cells #[.int .u64 0,.int .u64 0,jk.z] jk.e (0,0));have UL:=Ik jk W0s;obtain⟨W0,hW0⟩:=ex (w.alloc (.cells #[.int .u64 0,.int .u64 0,jk.z] jk.e (0,0)))
  have z0:St W0 w.heap.size jk.e [.int .u64 0,.int .u64 0,jk.z]:=by rw[hW0];exact St.new _ _ _
  have b0:ar w.heap.size w W0:=by rw[hW0];exact(aw _ w).alloc (ao _) _
  have HH:=Y3 z0 b0 hW0;clear z0 b0 hst ho hv Nl W0s
  first|go_enter fl,fb|go_enter fm,fc
  go_wp2_with fail
  refine UL.mono ?_;rintro e w1 ⟨rfl,hb1⟩;rw[<-hW0]at hb1;have hz1:St w1 w.heap.size jk.e [.int .u64 0,.int .u64 0,jk.z]:=(hb1.block _ HH.out.1.lt).trans HH.out.1;have hbw:ar w.heap.size w w1:=HH.out.2.1.trans (hb1.mono HH.out.2.1.size);have hr1:w.heap.size<w1.heap.size:=hz1.lt;have y0:=hz1.cell 0 rfl;have y1:=hz1.cell 1 rfl;have y2:=hz1.cell 2 rfl;have fy0:=hz1.frozen 0;have fy1:=hz1.frozen 1;have fy2:=hz1.frozen 2;have HB1:=Y2 hz1 hbw;clear hb1 UL hW0 hz1 hbw HH
  go_wp2_with fail
  obtain⟨hz1,hbw⟩:=HB1.out;have s2:=(((hz1.set 0 (.int .u64 0)).set 1 (.int .u64 0)).set 2 (jk.z)).alloc (.cells #[.int .u64 0,.int .u64 0,jk.z] jk.e (0,0));refine bodyPost_ret (dX rfl _ _ w.heap.size jk.e #[.int .u64 0,.int .u64 0,jk.z] (0,0) _ rfl s2 (by first|exact bz|exact ca) rfl (by kernel_rfl)) rfl ?_;exact⟨rfl,(((hbw.setCell (p:=⟨w.heap.size,0,none⟩) (ao _) _).setCell (p:=⟨w.heap.size,1,none⟩) (ao _) _).setCell (p:=⟨w.heap.size,2,none⟩) (ao _) _).alloc (by simp;omega) _⟩
def acS:= @Xm _ _ _ _ _ _ _ _ _ _ .a
def acT:= @Xm _ _ _ _ _ _ _ _ _ _ .b
abbrev TI:Nat->ai:=fun n=>fv .i64 (n:Nat)
def nK(Q:Nat->Prop)(w:aq)(v:ai)(zs:List Rc):Prop:=
 ∃A cap,v=.slice A zs.length cap∧zs.length<=cap∧(A=none->zs=[])∧∀a,A=some a->Q a.block∧a.block<w.heap.size∧∃b off,a=⟨b,off,none⟩∧∀j u,(recs zs)[j]? =some u->w.cell? ⟨b,off+j,none⟩=some u
variable {Q:Nat->Prop}
theorem nK.keep{S:Nat->Prop}{w':aq}{zs:List Rc}(h:nK Q w v zs)(hk:Keeps S w w')(hS:∀k,Q k->¬S k):nK Q w' v zs:=by
 obtain⟨A,cap,e,h0,h1,h2⟩:=h;refine⟨A,cap,e,h0,h1,fun a ha=>?_⟩;obtain⟨q1,q2,b,off,rfl,q3⟩:=h2 a ha;exact⟨q1,aa q2 hk.size,b,off,rfl,fun j u hj=>hk.cell (q3 j u hj) (hS _ q1)⟩
theorem nK.own{l:List Rc}(h:w.ownsRow base 283 2 v n (recs l))(hn:l.length=n)(hb:∀k,v.ownBlock=some k->Q k):nK Q w v l:=by
 rcases h.2 with⟨rfl,hz⟩|⟨g,cap,cur,rfl,h2,h3,h4,h5,h6,h7⟩
 .have:l=[]:=ba (by omega);subst this;exact⟨none,0,rfl,ao _,fun _=>rfl,fun a e=>(by cases e)⟩
 .obtain⟨q1,q2,_⟩:=oz h;exact⟨some ⟨g,0,none⟩,cap,by rw[hn],by omega,fun e=>(by cases e),fun a e=>(by cases e;exact⟨hb g rfl,q1,g,0,rfl,fun j u hj=>(by rw[cY];exact q2 j u hj)⟩)⟩
theorem vB(y:Rc)(r:List Rc):recs (y::r)=rv y++recs r:=by simp[recs]
def mI(Q:Nat->Prop)(w:aq)(br gr N:Nat)(R:List (List Rc)):Prop:=
 ∃vs:List ai,St w br 352 [.slice (some ⟨gr,0,none⟩) N N]∧St w gr 279 vs∧vs.length=N∧R.length=N∧∀(i:Nat) (v:ai) (r:List Rc),vs[i]? =some v->R[i]? =some r->nK Q w v r
theorem mI.keep{Q S:Nat->Prop}{w w':aq}{br gr N:Nat}{R:List (List Rc)}(h:mI Q w br gr N R)(hk:Keeps S w w')(h1:¬S br)(h2:¬S gr)(hS:∀k,Q k->¬S k):mI Q w' br gr N R:=by
 obtain⟨vs,a1,a2,a3,a4,a5⟩:=h;exact⟨vs,a1.keep hk h1,a2.keep hk h2,a3,a4,fun i v r hv hr=>(a5 i v r hv hr).keep hk hS⟩
theorem mI.set{Q:Nat->Prop}{w:aq}{br gr N i:Nat}{R:List (List Rc)}{v:ai}{r:List Rc}(h:mI Q w br gr N R)(hi:i<N)(hv:nK Q w v r)(hQ:∀k,Q k->k≠gr)(hne:br≠gr):mI Q (w.setCell ⟨gr,i,none⟩ v) br gr N (R.set i r):=by
 obtain⟨vs,a1,a2,a3,a4,a5⟩:=h;have hk:=(Keeps.refl (fun k=>k=gr) w).setCell (a:=⟨gr,i,none⟩) (.inl rfl) v;refine⟨vs.set i v,a1.keep hk hne,a2.set i v,by simpa using a3,by simpa using a4,fun j u s hu hs=>?_⟩;by_cases e:i=j
 .subst e;rw[List.getElem?_set_self (by omega)]at hu hs;cases hu;cases hs;exact hv.keep hk hQ
 .rw[List.getElem?_set_ne e]at hu hs;exact(a5 j u s hu hs).keep hk hQ
theorem vC(w:aq)(n g i:Nat)(v:ai):Keeps (fun k=>k=g) w ((w.drewN n).setCell ⟨g,i,none⟩ v):=((Keeps.refl (fun k=>k=g) w).drewN n).setCell (a:=⟨g,i,none⟩) (.inl rfl) v
theorem Il{R:List (List Rc)}(hM:mI Q w br gr N R)(hr:R[i]? =some []):
 cy ae 265 #[.int .i64 (i:Nat),.pointer (some ⟨br,0,none⟩),.pointer (some ⟨bh,0,none⟩)] w fun e w'=>e=.returned (.tuple #[])∧w'=w:=by
 obtain⟨vs,a1,a2,a3,a4,a5⟩:=hM;have hi:i<N:=by have:=(di.1 hr).1;omega
 obtain⟨v,hv⟩:∃v,vs[i]? =some v:=⟨_,ax (by omega)⟩
 obtain⟨A,cap,rfl,_⟩:=a5 i v [] hv hr;have c0:=a1.cell 0 rfl;have c1:=a2.cell i hv;have hi':(i:Int)<N:=by omega
 clear a1 a2 a3 a4 a5 hr hv;go_enter ft,fe
 go_wp2_with fail
 go_end0
 exact⟨rfl,rfl⟩
theorem Im{Sh:Nat->Prop}{R:List (List Rc)}{y:Rc}{r:List Rc}{H:List Hd}(hM:mI Q w br gr N R)(hr:R[i]? =some (y::r))(hH:iK 383 380 TI w Sh bh H)(hp:HP hlt hd0 H)(hl:H.length<1000)(hb:¬Sh br)(hg:¬Sh gr)(hQ:∀k,Q k->¬Sh k∧k≠gr)(hne:br≠gr):
 cy ae 265 #[.int .i64 (i:Nat),.pointer (some ⟨br,0,none⟩),.pointer (some ⟨bh,0,none⟩)] w fun e w'=>e=.returned (.tuple #[])∧∃Sh' H',iK 383 380 TI w' Sh' bh H'∧HP hlt hd0 H'∧H'.Perm ((y,i)::H)∧mI Q w' br gr N (R.set i r)∧Keeps (fun k=>Sh k∨k=gr) w w'∧∀k,Sh' k->Sh k∨w.heap.size<=k:=by
 obtain⟨vs,a1,a2,a3,a4,a5⟩:=id hM;have hi:i<N:=by have:=(di.1 hr).1;omega
 obtain⟨v,hv⟩:∃v,vs[i]? =some v:=⟨_,ax (by omega)⟩
 obtain⟨A,cap,rfl,hcap,hA,hc⟩:=a5 i v _ hv hr;obtain⟨a,rfl⟩:∃a,A=some a:=by
  cases A with
  |none=>exact absurd (hA rfl) (by simp)
  |some a=>exact⟨a,rfl⟩
 obtain⟨q1,q2,b,off,rfl,q3⟩:=hc _ rfl;have c0:=a1.cell 0 rfl;have c1:=a2.cell i hv;have hi':(i:Int)<N:=by omega
 have y0:w.cell? ⟨b,off,none⟩=some (.int .u64 y.1):=q3 0 _ (by rw[vB];rfl);have y1:=q3 1 _ (by rw[vB];rfl);have hPu:=acN (l:=H) hH hp hl (y,i);have hln:(y::r).length=r.length+1:=rfl;rw[hln]at c1;have hz:(0:Int)<(r.length:Int)+1:=by omega
 have HH:=Y7 hM hr q3 q2 q1 hcap hv;clear a1 a2 a3 a4 a5 hr hv hM hH hp hc q3 hA hln hcap;unfold hv3 at hPu;go_enter ft,fe
 go_wp2_with fail
 refine hPu.mono ?_;rintro e w2 ⟨rfl,Sh',H',hH2,hp2,hperm,hs2⟩;have hM2:=HH.out.1.keep hs2.1 hb hg fun k hk=>(hQ k hk).1
 have c0':=hs2.1.cell (a:=⟨br,0,none⟩) c0 hb;have c1':=hs2.1.cell (a:=⟨gr,i,none⟩) c1 hg;have f1:w2.frozen? ⟨gr,i,none⟩=false:=by obtain⟨vs,_,a2,_⟩:=hM2;exact a2.frozen i
 have hcap:r.length+1<=cap:=HH.out.2.2.2.2.2.1;have hl1:(1:Int)<=(r.length:Int)+1:=by omega
 have hl2:(1:Int)<=((r.length+1:Nat):Int):=by omega
 have HZ:=Y5 hM2 hH2 hp2 hperm hs2;clear hPu c0 c1 y0 y1 hM2 hH2 hp2 hperm hs2
 go_wp2_with fail
 refine dG [1] [0,2,3,4,5,6,7] [8] (by kernel_rfl) (fun _ _ x _ _ h=>by cases x<;>exact h) (by kernel_rfl) ?_;simp only[aJ,al,an,af,ag];refine aI (fun K hK=>?_);go_simp;refine hK _ ?_;clear hK K;refine au ?_
 repeat quiet_step (fail)
 refine wpQuiet_nil ?_;rintro _ ⟨n3,rfl⟩;have ahQ:(w2.drewN n3).cell? ⟨gr,i,none⟩=some (.slice (some ⟨b,off,none⟩) (r.length+1) cap):=c1';have UK:(w2.drewN n3).frozen? ⟨gr,i,none⟩=false:=f1
 go_wp2_with fail
 all_goals
  obtain⟨hM2,hH2,hp2,hperm,hs2⟩:=HZ.out;obtain⟨-,-,q3,-⟩:=HH.out;have hq2:b<(w2.drewN n3).heap.size:=aa q2 hs2.1.size;have q4:∀j u,(recs r)[j]? =some u->(w2.drewN n3).cell? ⟨b,off+2+j,none⟩=some u:=fun j u hj=>by
   have h1:(recs (y::r))[2+j]? =some u:=by rw[vB,df (by simp[rv])];simpa[rv]using hj
   have h2:=q3 _ _ h1;have h3:=hs2.1.cell (a:=⟨b,off+(2+j),none⟩) h2 (hQ b q1).1;rw[<-Nat.add_assoc]at h3;exact h3
  go_end0
  refine⟨rfl,Sh',H',hH2.keep (vC w2 n3 gr i _) fun k hk h=>?_,hp2,hperm,mI.set (w:=w2.drewN n3) (hM2.keep (S:=fun _=>False) ((Keeps.refl (fun _=>False) w2).drewN n3) id id fun _ _=>id) hi ?_ (fun k hk=>(hQ k hk).2) hne,(hs2.1.mono (S':=fun k=>Sh k∨k=gr) fun k _ h=>Or.inl h).trans (vC w2 n3 gr i _) (fun k h=>.inl (.inr h)),hs2.2⟩
  .have h:=h;subst h;obtain⟨vs',_,a2,_⟩:=HH.out.1;have:=a2.lt;exact(hs2.2 _ hk).elim hg fun h=>by omega
  .first
    |exact⟨some ⟨b,off+2,none⟩,_,rfl,by omega,fun e=>(by cases e),fun a e=>(by cases e;exact⟨q1,hq2,b,off+2,rfl,q4⟩)⟩
    |exact⟨some ⟨b,off,none⟩,_,rfl,by omega,fun e=>(by cases e),fun a e=>(by
     cases e;have hr0:r=[]:=ba (by omega);subst hr0;exact⟨q1,hq2,b,off,rfl,fun j u hj=>(by simp[recs]at hj)⟩)⟩
end Go.Proofs.YtlhhcnknclnlaaaGreatDoor.Top
