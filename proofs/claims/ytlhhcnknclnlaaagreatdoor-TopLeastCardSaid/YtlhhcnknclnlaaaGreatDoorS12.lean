/- Parts of the proof. -/
import Derived.Test.YtlhhcnknclnlaaaGreatDoorS02
import Derived.Test.YtlhhcnknclnlaaaGreatDoorS04
import Derived.Test.YtlhhcnknclnlaaaGreatDoorS05
import Derived.Test.YtlhhcnknclnlaaaGreatDoorS08
import Derived.Test.YtlhhcnknclnlaaaGreatDoorS09
import Derived.Test.YtlhhcnknclnlaaaGreatDoorS11
set_option linter.all false
set_option maxRecDepth 100000
set_option maxHeartbeats 16000000
open List renaming getD_eq_getElem?_getD->aa,getElem?_eq_getElem->ae,getElem?_cons_succ->af,getElem?_cons_zero->ag,filterMap_cons->ai,filterMap_nil->aq,setIfInBounds_toArray->aw,set_cons_zero->aE,set_cons_succ->a_,getElem?_eq_some_iff->bj,length_map->bk,getElem_range->bz,append_cancel_left->ca,getElem?_map->cd,length_cons->cy,map_append->cD,length_nil->cE,append_toArray->cF,range->cI,size_toArray->cJ,push_toArray->cM,map_cons->cN,cons_append->cU,nil_append->cY,flatMap_cons->df,append_assoc->dg,flatten_cons->dj,perm_middle->dp,ext_getElem->dr,getElem_map->dt,mem_cons->dy,mem_map->dE,map_nil->dT
open Go.Proofs.Tryz renaming prog->ab,underlying253->cH,f183->du,func46->ef
open Nat renaming le_refl->al,le_trans->an,lt_of_lt_of_le->az,lt_irrefl->da,zero_le->eh
open Go renaming World->ao,Calls->ba,Value->cz,callsIn_wide->cX,Addr->dv,Ending->ek
open Go.Result renaming andThen->ar
open Go.World renaming block_lt_of_cell?->ax,putObj_heap_other->cW,cell?_of_block->c_,size_alloc->dq
open Go.Value renaming ownBlock->bb,int->dC
open Go.RowKit.Below renaming refl->bt,heap_setCell->de
open Option renaming map_eq_some_iff->cm
open Go.RowKit renaming Below->cq
open Go.Fence renaming wide->cx
open Array renaming replicate_succ->cA,replicate_zero->cC
open Int renaming toNat_of_nonneg->cG,toNat_natCast->di
open Or renaming inl->dd
open Go.Proofs.Tryz
namespace Go.Proofs.YtlhhcnknclnlaaaGreatDoor.Top
open Go
theorem FE{α:Type}(n v:Nat)(x d:α)(h:v<n):(List.replicate n x).getD v d=x:=by
 rw[aa,List.getElem?_replicate,if_pos h];rfl
variable {E:zH}{n:Nat}
theorem IY{st:Nat}(h:st<n):mE n E st 0 (iV 1 st n) (jE 1 st n):=by
 refine⟨fun v hv=>?_,fun v hv=>?_⟩
 .unfold iV;rw[if_pos rfl,dL _ _ _ _ _ (by simpa using h),FE _ _ _ _ hv];show _=zL (if v=st then some 0 else none);by_cases e:st=v
  .rw[if_pos e,if_pos e.symm];rfl
  .rw[if_neg e,if_neg (fun h=>e h.symm)];rfl
 .unfold jE;rw[if_pos rfl,dL _ _ _ _ _ (by simpa using h),FE _ _ _ _ hv];have e0:far E st 0 v=if v=st then some 0 else none:=rfl
  by_cases e:st=v
  .rw[if_pos e,decide_eq_true];rw[e0,if_pos e.symm]
  .rw[if_neg e,decide_eq_false];rw[e0,if_neg (fun h=>e h.symm)];exact fun h=>by cases h
theorem ah7(hE:∀e∈E,e.1<n∧e.2<n):ah3 n E (iV 2 0 n) (jE 2 0 n):=by
 have hv:∀v,v<n->(iV 2 0 n).getD v 0=v:=fun v hv=>by
  unfold iV;rw[if_neg (by decide),aa,cd,List.getElem?_range hv];rfl
 refine⟨fun v h=>?_,fun v h=>?_,fun e he hf=>?_⟩
 .rw[hv v h];have:grt E v<=v:=ah8 _ _;omega
 .rw[hv v h];exact Int.le_refl _
 .unfold jE at hf;rw[if_neg (by decide),FE _ _ _ _ (hE e he).1]at hf;cases hf
theorem FH{α β:Type}{f:α->β}:∀(zs:List β) (l:List α),zs.Perm (l.map f)->∃l':List α,l'.Perm l∧l'.map f=zs
 | [],l,h=>by
  have:l=[]:=by simpa using h.symm.eq_nil
  subst this;exact⟨[],List.Perm.refl _,rfl⟩
 |z::zs,l,h=>by
  obtain⟨a,ha,rfl⟩:=dE.1 (h.mem_iff.1 (List.mem_cons_self));obtain⟨s,t,rfl⟩:=List.append_of_mem ha;have h2:zs.Perm ((s++t).map f):=by
   rw[cD,cN]at h;rw[cD];exact(h.trans dp).cons_inv
  obtain⟨l',h3,h4⟩:=FH zs (s++t) h2;exact⟨a::l',(h3.cons a).trans dp.symm,by rw[cN,h4]⟩
end Go.Proofs.YtlhhcnknclnlaaaGreatDoor.Top
namespace Go.Proofs.YtlhhcnknclnlaaaGreatDoor.Top
open Go Go.WideShapes Go.RowKit Go.Proofs.YtlhhcnknclnlaaaGreatDoor.iH Go.Proofs.YtlhhcnknclnlaaaGreatDoor.Oct Go.Proofs.ah.aN Go.Proofs.ah.bA
theorem VB(w:ao)(p:Option dv):ba ab 172 #[.pointer p,.int .i64 0] w fun e w'=>e=.returned (.int .i64 0)∧w'=w:=by
 go_enter func172,ntmps172
 go_wp2_with fail
 go_ret;exact⟨rfl,rfl⟩
def iD(b bF q n s:Nat)(k kd:Int)(st:Nat)(has:Bool):List cz:=[.pointer (some ⟨b,0,none⟩),.int .i64 (bF:Nat),.int .u64 (q:Nat),.int .i64 (n:Nat),.int .i64 (s:Nat),.int .i64 k,.int .i64 kd,.int .u32 (st:Nat),.bool has,.bool false]
variable {F:Files}{K j n q:Nat}
theorem Kn{w:ao}{D:Nat->Prop}{b be bF room c:Nat}{s q0 n0 s0:Nat}{k kd k0 Gc:Int}{st st0:Nat}{has:Bool}(hD:aV w D b room F c)(hE:St w be 111 (iD b bF q0 n0 s0 k0 Gc st0 has))(hbe:¬D be)(h:Mx (q+1) n s k kd st)(hx:F (nm (FD++xB))=none)(hroom:c+5<=room)(hc0:c<800000):
 ba ab 171 #[.pointer (some ⟨be,0,none⟩),.agg #[.int .u64 (q:Nat),.int .i64 (n:Nat),.int .i64 (s:Nat),.int .i64 k,.int .i64 kd,.int .u32 (st:Nat)]] w fun e w'=>e=.returned (.int .i64 0)∧∃D' c' l,l.length=54∧aV w' D' b room (upd F (Kl ((q+1)%2)) (some l)) c'∧c'<=c+5∧St w' be 111 (iD b bF (q+1) n s k kd st true)∧¬D' be∧Keeps (fun j=>D j∨j=be) w w'∧∀j,D' j->D j∨w.heap.size<=j:=by
 obtain⟨q1,hq1⟩:=ex (q+1)
 have hqi:(q:Int)+1=((q1:Nat):Int):=by omega
 obtain⟨w2,hw2⟩:=ex (w.alloc (.cells #[.int .u64 ((q1:Nat):Int),.int .i64 (n:Nat),.int .i64 (s:Nat),.int .i64 k,.int .i64 kd,.int .u32 (st:Nat)] 107 (0,0)))
 have s2:St w2 w.heap.size 107 (Nw q1 n s k kd st):=by rw[hw2];exact St.new _ _ _
 have k2:Keeps (fun _=>False) w w2:=by rw[hw2];exact(Keeps.refl _ w).alloc _
 have s1:=St.new w 107 #[.int .u64 (q:Nat),.int .i64 (n:Nat),.int .i64 (s:Nat),.int .i64 k,.int .i64 kd,.int .u32 (st:Nat)];have c0:=s1.cell 0 rfl;have f0:=s1.frozen 0;have hq:IntKind.u64.wrap ((q:Int)+1)=(q:Int)+1:=by have:=h.q1;exact u64_in (by omega) (by omega)
 rw[<-hq1]at h⊢;have HQI:=Y1 hqi;have H1:=Y8 hD hE hbe h hx hw2 k2 s2;clear hD hE hbe h hx hw2 s1 s2 k2 hqi hq1;go_enter func171,ntmps171
 go_wp2_with fail
 rw[HQI.out];obtain⟨hD,hE,hbe,h,hx,hw2,k2,s2⟩:=H1.out;rw[<-hw2];have e2:=hE.keep k2 id;have HR:=Y1 (show ∀nn,St (w2.drewN nn) be 111 (iD b bF q0 n0 s0 k0 Gc st0 has)∧St (w2.drewN nn) w.heap.size 107 (Nw q1 n s k kd st)from fun nn=>⟨e2.keep (S:=fun _=>False) ((Keeps.refl _ w2).drewN nn) id,s2.keep (S:=fun _=>False) ((Keeps.refl _ w2).drewN nn) id⟩);clear hD hE hbe h hx hw2 k2 s2 e2 c0 f0 hq;refine gW (fun W=>∃nn,W=w2.drewN nn) 4 [0,1,2] [3,4] [5] [] [6] (by kernel_rfl) (fun _ _ x _ _ h=>by cases x<;>exact h) ⟨1,rfl⟩ (by kernel_rfl) ?_;simp only[aJ,ai,aq,af,ag]
 repeat (refine aI (fun K hK=>?_);go_simp;refine hK _ ?_;clear hK K)
 refine au ?_;refine ak (fun K hK=>?_);go_simp;refine⟨.pointer (some ⟨b,0,none⟩),fun _=>(by have h:w2.cell? ⟨be,0,none⟩=some (.pointer (some ⟨b,0,none⟩)):=(HR.out 0).1.cell 0 rfl;rw[h];rfl),hK _ ?_⟩;clear hK K;refine ak (fun K hK=>?_);go_simp;refine⟨.agg #[.int .u64 ((q1:Nat):Int),.int .i64 (n:Nat),.int .i64 (s:Nat),.int .i64 k,.int .i64 kd,.int .u32 (st:Nat)],fun _=>(by
  have h:St w2 w.heap.size 107 (Nw q1 n s k kd st):=(HR.out 0).2;simp[h.cell 0 rfl,h.cell 1 rfl,h.cell 2 rfl,h.cell 3 rfl,h.cell 4 rfl,h.cell 5 rfl,ar]),hK _ ?_⟩
 clear hK K;refine bD ?_;rintro _ ⟨nn,rfl⟩;obtain⟨hD,hE,hbe,h,hx,hw2,k2,s2⟩:=H1.out;have kn:=k2.drewN nn;have hsv:=aam (hD.keep kn fun _ _=>id) h hx hroom hc0;have HK:=Y1 kn;clear hD hE hbe h hx hw2 k2 s2 kn;refine aH (fun K hK=>?_);go_simp;refine hsv.mono ?_;clear hsv;rintro e w4 ⟨rfl,D',c',l,hl,hD',hc',hs'⟩;refine hK _ _ trivial ?_;clear hK K;refine aQ (au ?_);obtain⟨hD,hE,hbe,h,hx,hw2,k2,s2⟩:=H1.out;have Nn:=(HK.out.mono fun _ _ h=>h.elim).trans hs'.1 fun _ h=>.inl h
 have hbl:=hE.lt;have eE:=hE.keep Nn hbe;have sM:=(show St (w2.drewN nn) _ _ _ from s2).keep hs'.1 fun h=>absurd (hD.lt h) (da _)
 have t0:=sM.cell 0 rfl;have t1:=sM.cell 1 rfl;have t2:=sM.cell 2 rfl;have t3:=sM.cell 3 rfl;have t4:=sM.cell 4 rfl;have t5:=sM.cell 5 rfl;have e2:=eE.cell 2 rfl;have e3:=eE.cell 3 rfl;have e4:=eE.cell 4 rfl;have e5:=eE.cell 5 rfl;have e6:=eE.cell 6 rfl;have e7:=eE.cell 7 rfl;have e8:=eE.cell 8 rfl;have g2:=eE.frozen 2;have g3:=eE.frozen 3;have g4:=eE.frozen 4;have g5:=eE.frozen 5;have g6:=eE.frozen 6;have g7:=eE.frozen 7;have g8:=eE.frozen 8;have HF:=Y6 eE Nn hl hD' hc' hs';clear hD hE hbe h hx hw2 k2 s2 Nn hbl eE sM hl hD' hc' hs'
 go_wp2_with fail
 go_ret;obtain⟨eE,Nn,hl,hD',hc',hs'⟩:=HF.out;obtain⟨hD,hE,hbe,h,hx,hw2,k2,s2⟩:=H1.out;have hz:=HK.out.size;have hb2:=hE.lt;have hnb:¬D' be:=fun h=>(hs'.2 be h).elim hbe fun h=>by omega
 have s5:=(((((((eE).set 2 (.int .u64 ((q1:Nat):Int))).set 3 (.int .i64 (n:Nat))).set 4 (.int .i64 (s:Nat))).set 5 (.int .i64 k)).set 6 (.int .i64 kd)).set 7 (.int .u32 (st:Nat))).set 8 (.bool true);have KK:=(((((((Keeps.refl (fun j=>j=be) w4).setCell (a:=⟨be,2,none⟩) (.inl rfl) (.int .u64 ((q1:Nat):Int))).setCell (a:=⟨be,3,none⟩) (.inl rfl) (.int .i64 (n:Nat))).setCell (a:=⟨be,4,none⟩) (.inl rfl) (.int .i64 (s:Nat))).setCell (a:=⟨be,5,none⟩) (.inl rfl) (.int .i64 k)).setCell (a:=⟨be,6,none⟩) (.inl rfl) (.int .i64 kd)).setCell (a:=⟨be,7,none⟩) (.inl rfl) (.int .u32 (st:Nat))).setCell (a:=⟨be,8,none⟩) (.inl rfl) (.bool true);exact⟨rfl,D',c',l,hl,hD'.keep KK fun j h e=>hnb (e▸h),hc',s5,hnb,(Nn.mono fun _ _ h=>dd h).trans KK fun j e=>.inl (.inr e),fun j h=>(hs'.2 j h).imp id fun h=>an hz h⟩
theorem sO(i:Nat):zy i=[115,116,97,116,101,46]++lQ i:=by unfold zy;rw[eT];rfl
theorem ze(i:Nat):Kl i=[115,108,111,116,46]++lQ i:=by unfold Kl;rw[eT];rfl
theorem IZ(i:Nat):nf box i=[98,111,120,46]++lQ i:=by unfold nf rn;rw[eT,eT];rfl
theorem I4:nm (IX++xB)=[115,116,97,116,101,46]++[110,101,119]:=by rw[eT];rfl
theorem I5:nm (FD++xB)=[115,108,111,116,46]++[110,101,119]:=by rw[eT];rfl
theorem VD{i:Nat}(hi:i<100)(hj:j<100)(h:zy i=zy j):i=j:=by
 rw[sO,sO]at h;exact qX hi hj (ca h)
theorem aao(i j:Nat):nm (sn i)≠zy j:=by rw[yU,sO];intro h;cases h
theorem aap(i j:Nat):nm (sn i)≠Kl j:=by rw[yU,ze];intro h;cases h
theorem VE(i j:Nat):nf box i≠zy j:=by rw[IZ,sO];intro h;cases h
theorem VF(i j:Nat):nf box i≠Kl j:=by rw[IZ,ze];intro h;cases h
theorem Ko(j:Nat):nm (FD++xB)≠zy j:=by rw[I5,sO];intro h;cases h
theorem VG(j:Nat):nm (IX++xB)≠Kl j:=by rw[I4,ze];intro h;cases h
theorem VH(i j:Nat):zy i≠Kl j:=by rw[sO,ze];intro h;cases h
theorem VI(hj:j<100):nm (IX++xB)≠zy j:=by
 rw[I4,sO];intro h;have:=ca h;exact yP j hj (by rw[<-this];rfl)
theorem VJ(hj:j<100):nm (FD++xB)≠Kl j:=by
 rw[I5,ze];intro h;have:=ca h;exact yP j hj (by rw[<-this];rfl)
structure jw (n:Nat) (Rs:List (List Ed)) (K:Nat) (C:Nat->List Int×List Bool) (F:Files):Prop where
 sh:∀i r,Rs[i]? =some r->F (nm (sn i))=some (fileOf (r.map pk))
 bx:∀i,1<=i->i<100->F (nf box i)=none
 sl:F (nm (FD++xB))=none
 sw:F (nm (IX++xB))=none
 st:∀j,j<K->F (zy j)=some (mP j n (C j).1 (C j).2)
variable {α β:Type}
theorem upd_ne(f:α->β){x a:α}(y:β)(h:a≠x):upd f x y a=f a:=by unfold upd;rw[if_neg h]
theorem aaq(f:α->β)(x:α)(y:β):upd f x y x=y:=by unfold upd;rw[if_pos rfl]
variable {Rs:List (List Ed)}
theorem jw.slot{C:Nat->List Int×List Bool}(h:jw n Rs K C F)(hq:q<100)(l:List Int):jw n Rs K C (upd F (Kl q) (some l)):=
 ⟨fun i r hr=>(upd_ne F _ (aap i q)).trans (h.sh i r hr),fun i h1 h2=>(upd_ne F _ (VF i q)).trans (h.bx i h1 h2),(upd_ne F _ (VJ hq)).trans h.sl,(upd_ne F _ (VG q)).trans h.sw,fun j hj=>(upd_ne F _ (VH j q)).trans (h.st j hj)⟩
theorem jw.state{C:Nat->List Int×List Bool}(h:jw n Rs K C F)(hK:K<100)(V:List Int)(L:List Bool)(hC:C K=(V,L)):jw n Rs (K+1) C (upd F (zy K) (some (mP K n V L))):=
 ⟨fun i r hr=>(upd_ne F _ (aao i K)).trans (h.sh i r hr),fun i h1 h2=>(upd_ne F _ (VE i K)).trans (h.bx i h1 h2),(upd_ne F _ (Ko K)).trans h.sl,(upd_ne F _ (VI hK)).trans h.sw,fun j hj=>by
  by_cases e:j=K
  .subst e;rw[aaq,hC]
  .exact(upd_ne F _ fun h=>e (VD (by omega) hK h)).trans (h.st j (by omega))⟩
theorem jw.same{C C':Nat->List Int×List Bool}(h:jw n Rs K C F)(hC:∀j,j<K->C' j=C j):jw n Rs K C' F:=
 ⟨h.sh,h.bx,h.sl,h.sw,fun j hj=>by rw[hC j hj];exact h.st j hj⟩
end Go.Proofs.YtlhhcnknclnlaaaGreatDoor.Top
namespace Go.Proofs.YtlhhcnknclnlaaaGreatDoor.Top
open Go Go.WideShapes Go.RowKit Go.Proofs.YtlhhcnknclnlaaaGreatDoor.iH Go.Proofs.YtlhhcnknclnlaaaGreatDoor.Oct Go.Proofs.ah.aN Go.Proofs.ah.bA Go.Proofs.ah.dx
theorem VK(w:ao):ba ab 86 #[.int .u64 0] w fun e w'=>e=.returned (.int .i64 0)∧w'=w:=by
 have h8:Lib.len8 0=0:=by decide
 have hz:wrap64 0=0:=dW (by omega) (by omega);go_enter func86,ntmps86
 go_wp2_with fail
 go_ret;refine⟨?_,rfl⟩;show Ending.returned (.int .i64 _)=_;simp
theorem adE(w:ao):ba ab 65 #[.int .u64 0] w fun e w'=>e=.returned (.int .i64 0)∧w'=w:=by
 have h:=VK w;go_enter func65,ntmps65
 go_wp2_with fail
 refine h.mono ?_;rintro e w1 ⟨rfl,rfl⟩
 go_wp2_with fail
 go_ret;exact⟨rfl,rfl⟩
theorem VL(w:ao):ba ab 76 #[.slice none 0 0,.int .i64 0,.int .i64 0] w fun e w'=>e=.returned (.tuple #[])∧w'=w:=by
 go_enter func76,ntmps76
 go_wp2_with fail
 go_loopg [6] 0 (fun kq v6 wr=>kq=0∧v6=.int .i64 1∧wr=w)
 case atStart=>exact⟨rfl,rfl,rfl⟩
 case round=>
  obtain⟨hk,rfl,rfl⟩:=hrel;clear hk
  go_wp2_with fail
  go_end0
  exact⟨rfl,rfl⟩
theorem adF(w:ao):ba ab 64 #[.slice none 0 0,.int .i64 0,.int .i64 0,.int .i64 0] w fun e w'=>e=.returned (.tuple #[])∧w'=w:=by
 have h:=VL w;go_enter func64,ntmps64
 go_wp2_with fail
 go_loopg [1,2,3,8,9] 0 (fun kq v1 v2 v3 v8 v9 wr=>kq=0∧v1=.int .i64 0∧v2=.int .i64 0∧v3=.int .i64 0∧v8=.bool true∧v9=.bool true∧wr=w)
 case atStart=>exact⟨rfl,rfl,rfl,rfl,rfl,rfl,rfl⟩
 case round=>
  obtain⟨hk,rfl,rfl,rfl,rfl,rfl,rfl⟩:=hrel;clear hk
  go_wp2_with fail
  refine h.mono ?_;rintro e w1 ⟨rfl,rfl⟩
  go_wp2_with fail
  exact bodyPost_ret (results_none rfl _ _ _) rfl ⟨rfl,rfl⟩
theorem VN(w:ao):ba ab 45 #[.slice none 0 0] w fun e w'=>e=.returned (.tuple #[])∧w'=w:=by
 have h:=adF w;have h2:=adE w;go_enter func45,ntmps45
 go_wp2_with fail
 refine h2.mono ?_;rintro e w1 ⟨rfl,rfl⟩
 go_wp2_with fail
 refine h.mono ?_;rintro e w2 ⟨rfl,rfl⟩
 go_wp2_with fail
 go_end0
 exact⟨rfl,rfl⟩
section
attribute [local go_sem] Oper.semAt_some
theorem eU.Rw{w:ao}{m q:Nat}(h:eU w 9 m q (fun _=>none))(ty:TypeId):
 ∃w',(Instr.range 79 (.map (some m))).run ab w=.ok (.pointer (some ⟨w.heap.size,0,none⟩)) w'∧(Instr.next (.pointer (some ⟨w.heap.size,0,none⟩)) false ty).run ab w'=.ok (.tuple #[.bool false]) w'∧w.grownBy w' none∧w'.heap.size=w.heap.size+1:=by
 obtain⟨D,h1,h2,h3⟩:=h;obtain⟨w',r1,r2,r3,r4⟩:=h1.range l8 underlying79;refine⟨w',r1,?_,r3,r4⟩;rcases r2.next l8 ty with⟨h0,hl0,hrun⟩|⟨key,v,kl,y,w2,cnt',hkey,hlk,hv,hat,hrun,hrg,hlt,hgr,hsz,hen⟩
 .exact hrun
 .have hz:=(h3 kl (.held (.bool false))).symm.trans (hat _);have hz2:=(h3 kl (.held (.bool true))).symm.trans (hat _);simp only at hz hz2;rw[<-hz]at hz2;cases hz2
theorem Rx(n:Nat)(l Bs m q:Nat)(J:ao->Prop)(W:ao)(pI:W.cell? ⟨Bs,0,none⟩=some (.map (some m)))(hm:eU W 9 m q (fun _=>none))(hJ:∀W',W.grownBy W' none->J W'):
 CallsIn cx n ab 46 #[.func (.yield l) #[] #[],.pointer (some ⟨Bs,0,none⟩)] W fun e W'=>(∃v,e=.returned v)∧J W':=by
 obtain⟨w',r1,_,r3,r4⟩:=hm.Rw 0;have r2:∀ty,(Instr.next (.pointer (some ⟨W.heap.size,0,none⟩)) false ty).run ab w'=.ok (.tuple #[.bool false]) w':=fun ty=>by
  obtain⟨w2,a1,a2,_⟩:=hm.Rw ty;have e:=r1.symm.trans a1;have e2:w'=w2:=by injection e
  rw[e2];exact a2
 have hJ':=Y1 (hJ w' r3);clear hJ hm r3 r4;refine callsIn_of_wp ef rfl trivial ?_ rfl;simp only[ntmps46,cJ,cy,cE,Nat.reduceAdd,Nat.reduceSub,cA,cC,cM,cF,cY,cU]
 gi_wp2
 gi_loopw [3] (fun i wr=>i=undef∧wr=w') (fun _ _=>0)
 case atStart=>exact⟨rfl,rfl⟩
 case round=>
  obtain⟨rfl,rfl⟩:=hrel
  gi_wp2
  go_end0
  exact⟨⟨_,rfl⟩,hJ'.out⟩
theorem FI(n Bs m q:Nat)(n₀:Nat)(w:ao)(hn:n₀=w.heap.size)(pI:w.cell? ⟨Bs,0,none⟩=some (.map (some m)))(hm:eU w 9 m q (fun _=>none)):
 SeqStopsK cx n ab 46 #[.pointer (some ⟨Bs,0,none⟩)] (fun _:Unit=> #[.string {data:= #[]}]) (cq n₀) (fun ys=>ys=[]) (fun _=>True) 0 w:=fun l J Jx W hW hJ _ hY h0=>by
 have h1:=(hW.cell (p:=⟨Bs,0,none⟩) (ax w _ pI)).trans pI;have h2:=hm.keep (Keeps.of_below (S:=fun _=>False) hW) id;exact(Rx n l Bs m q (J []) W h1 h2 fun W' hg=>hJ [] W _ none h0 hg (fun r e=>by cases e)).mono fun e W' ⟨he,hj⟩=>⟨he,.inl ⟨_,rfl,hj⟩⟩
theorem I6(Bs m q:Nat)(w:ao)(pI:w.cell? ⟨Bs,0,none⟩=some (.map (some m)))(hm:eU w 9 m q (fun _=>none)):
 CallsIn cx 6 ab 63 #[.slice none 0 0,.func (.func 46) #[] #[.pointer (some ⟨Bs,0,none⟩)]] w fun e W'=>e=.returned (.slice none 0 0)∧cq w.heap.size w W':=by
 have hm1:=hm.keep (S:=fun _=>False) ((Keeps.refl _ w).alloc (.cells #[.slice none 0 0] 86)) id;have hB1:=(((Keeps.refl (fun _=>False) w).alloc (.cells #[.slice none 0 0] 86)).cell (a:=⟨Bs,0,none⟩) pI id)
 refine callsIn_of_wp_marks func63 rfl trivial ?_ rfl;simp only[ntmps63,cJ,cy,cE,Nat.reduceAdd,Nat.reduceSub,cA,cC,cM,cF,cY,cU]
 gi_wp2
 have bO:=Boxed.new w 86 (.slice none 0 0);have hB0:cq w.heap.size w (w.alloc (.cells #[.slice none 0 0] 86)):=(bt _ w).alloc (al _) _;generalize hw1:w.alloc (.cells #[.slice none 0 0] 86)=w1 at*;have hz:w1.heap.size=w.heap.size+1:=by rw[<-hw1];simp
 refine wpIn_rangeFunc_ownG (F:=cx) rfl (by decide) (gf:=46) (lb:= #[.pointer (some ⟨Bs,0,none⟩)]) rfl trivial (enters_of ef (by kernel_rfl) rfl)
  (FI (6-1) Bs m q w1.heap.size w1 rfl hB1 hm1) belowK_t (belowK_b (al _)) (bt _ _) (fun _=>rfl)
  (fun (_:List Unit) W=>cq w1.heap.size w1 W) (fun _ _ _=>False) (ownFrom_below (al _) (al _)) (fun _ _ _ _ _ hs _ _=>hs) (bt _ _) ?a1 ?assign ?body ?done ?stop
 case assign=>
  intro l1 x1 W1 K1 hK1
  gi_wp2
  exact hK1
 case body=>
  intro l2 pre x W2 hI hlt;exact absurd hlt (Nat.not_lt_zero _)
 case done=>
  rintro D zs' W hD rfl hB hK;have c0:=(hB.cell (p:=⟨w.heap.size,0,none⟩) (by show w.heap.size<_;omega)).trans bO.cell;have HH:=Y2 hB hK;clear hB hK
  gi_wp2
  obtain⟨hB,hK⟩:=HH.out;refine⟨by simp,.inl ⟨_,_,rfl,run_takeDeferred hK,?_⟩⟩;exact⟨_,results_tmp rfl _ _ _,rfl,(hB0.trans (hB.mono (by omega))).trans (belowK_b (w:=w) (al _) W D _ _ (by omega) hK rfl rfl)⟩
 case stop=>
  rintro D c pre W _ _ h _;exact h.elim
end
theorem MF(Bs m q:Nat)(w:ao)(pI:w.cell? ⟨Bs,0,none⟩=some (.map (some m)))(hm:eU w 9 m q (fun _=>none)):
 ba ab 26 #[.func (.func 46) #[] #[.pointer (some ⟨Bs,0,none⟩)]] w fun e W'=>e=.returned (.slice none 0 0)∧cq w.heap.size w W':=by
 have hA:=cX.1 (I6 Bs m q w pI hm);have hC:ba ab 44 #[.func (.func 46) #[] #[.pointer (some ⟨Bs,0,none⟩)]] w fun e W'=>e=.returned (.slice none 0 0)∧cq w.heap.size w W':=by
  clear pI hm;go_enter func44,ntmps44
  go_wp2_with fail
  refine hA.mono ?_;rintro e w1 ⟨rfl,hb⟩;have HB:=Y1 hb;clear hb hA
  go_wp2_with fail
  go_ret;exact⟨rfl,HB.out⟩
 clear hA pI hm;go_enter func26,ntmps26
 go_wp2_with fail
 refine hC.mono ?_;rintro e w1 ⟨rfl,hb⟩;have HB:=Y1 hb;clear hb hC;have hs:=VN w1
 go_wp2_with fail
 refine hs.mono ?_;rintro e w2 ⟨rfl,rfl⟩;clear hs
 go_wp2_with fail
 go_ret;exact⟨rfl,HB.out⟩
theorem aar(m:Nat)(w:ao):ba ab 27 #[.map (some m)] w fun e W'=>e=.returned (.func (.func 46) #[] #[.pointer (some ⟨w.heap.size,0,none⟩)])∧W'=w.alloc (.cells #[.map (some m)] 79 (0,0)):=by
 go_enter func27,ntmps27
 go_wp2_with fail
 go_ret;exact⟨rfl,rfl⟩
variable {D:Nat->Prop}{F:Files}{b c room:Nat}{w:ao}
theorem VO(h:aV w D b room F c)(zV:∀x,F x=none):
 ba ab 57 #[.pointer (some ⟨b,0,none⟩)] w fun e w'=>e=.returned (.tuple #[.slice none 0 0,.int .i64 0])∧aV w' D b room F c∧Stp D D w w':=by
 obtain⟨m,L,g,v,sy,G,R,hc,hF⟩:=h;obtain⟨n,kv,hst⟩:=R.st;have R1:=R.op hst;obtain rfl:L=[]:=List.eq_nil_iff_forall_not_mem.2 fun x=>aV.NV hF (zV x)
 have hm:eU (uS w b n) 9 m 0 (fun _=>none):=by
  obtain⟨Dt,h1,h2,h3⟩:=R1.map;exact⟨Dt,h1,h2,fun kl z=>by rw[h3];cases kl<;>rfl⟩
 obtain⟨st1,kI⟩:∃st1,St (uS w b n) b 84 st1∧st1[0]? =some (.map (some m)):=⟨_,rU hst,rfl⟩
 have c0:=kI.1.cell 0 kI.2;have hbg:=xO hst;have kA:Keeps (fun _=>False) (uS w b n) ((uS w b n).alloc (.cells #[.map (some m)] 79 (0,0))):=(Keeps.refl _ _).alloc _;have hso:=MF (uS w b n).heap.size m 0 _ ((St.new (uS w b n) 79 #[.map (some m)]).cell 0 rfl) (hm.keep kA id);have hke:=aar m (uS w b n);have HH:=Y5 R1 hc hF (R.keeps n) kA;clear R1 hc hF zV R hst hm kI kA;go_enter func57,ntmps57
 go_wp2_with fail
 refine hbg.mono ?_;rintro e w1 ⟨rfl,rfl⟩;clear hbg
 go_wp2_with fail
 refine hke.mono ?_;rintro e w2 ⟨rfl,rfl⟩;clear hke c0
 go_wp2_with fail
 refine hso.mono ?_;rintro e w3 ⟨rfl,hb⟩;have HB:=Y1 hb;clear hb hso
 go_wp2_with fail
 go_ret2
 obtain⟨R1,hc,hF,hk,kA⟩:=HH.out;have kB:=kA.trans (Keeps.of_below (S:=fun _=>False) HB.out) fun _ h=>False.elim h
 exact⟨rfl,⟨_,_,_,_,_,_,R1.keep kB fun _ _=>id,hc,hF⟩,hk.1.trans kB fun _ h=>False.elim h,hk.2⟩
theorem Ry(h:aV w D b room F c)(zV:∀x,F x=none):
 ba ab 40 #[.pointer (some ⟨b,0,none⟩)] w fun e w'=>e=.returned (.int .i64 0)∧aV w' D b room F c∧Stp D D w w':=by
 have hlo:=Km h (zV _) (zV _);have HF:=Y1 zV;clear h zV;go_enter func40,ntmps40
 go_wp2_with fail
 refine hlo.mono ?_;clear hlo;rintro e w1 ⟨rfl,hD1,hS1⟩;have hli:=fun W (hk:Keeps (fun _=>False) w1 W)=>VO (hD1.keep hk fun _ _=>id) HF.out
 have HL:=Y1 hli;have H1:=Y2 hD1 hS1;clear hD1 hS1 hli
 go_wp2_with fail
 refine(HL.out _ ((Keeps.refl _ w1).alloc _)).mono ?_;rintro e w2 ⟨rfl,hD2,hS2⟩;have H2:=Y1 (show aV w2 D b room F c∧Stp D D w w2 from⟨hD2,((H1.out.2.1.trans ((Keeps.refl (fun _=>False) w1).alloc _) fun _ h=>False.elim h).trans hS2.1 fun _ h=>.inl h),fun _ h=>.inl h⟩);clear hD2 hS2 HL
 go_wp2_with fail
 go_loopg [8,9,29] 0 (fun kq v8 v9 v29 wr=>kq=0∧v8=undef∧v9=undef∧v29=.int .i64 0∧wr=w2)
 case atStart=>exact⟨rfl,rfl,rfl,rfl,rfl⟩
 case round=>
  obtain⟨hk,rfl,rfl,rfl,rfl⟩:=hrel;clear hk
  go_wp2_with fail
  go_ret;exact⟨rfl,H2.out⟩
theorem aas{bF:Nat}(h:aV w D b room F c)(zV:∀x,F x=none)(hb:1<=bF):
 ba ab 23 #[.pointer (some ⟨b,0,none⟩),.int .i64 (bF:Nat)] w fun e w'=>∃be,e=.returned (.tuple #[.pointer (some ⟨be,0,none⟩),.int .i64 0])∧w.heap.size<=be∧St w' be 111 (iD b bF 0 0 0 0 0 0 false)∧aV w' D b room F c∧Stp D D w w':=by
 have hsw:=Ry h zV;have HF:=Y1 zV;have hb0:¬((bF:Int)<1):=by omega
 clear h zV;go_enter func23,ntmps23
 go_wp2_with fail
 refine hsw.mono ?_;clear hsw;rintro e w1 ⟨rfl,hD1,hS1⟩;have hlo:=Km hD1 (HF.out _) (HF.out _);have H1:=Y1 hS1;clear hD1 hS1
 go_wp2_with fail
 refine hlo.mono ?_;clear hlo;rintro e w2 ⟨rfl,hD2,hS2⟩;have n3:=St.new w2 107 #[.int .u64 0,.int .i64 0,.int .i64 0,.int .i64 0,.int .i64 0,.int .u32 0];have t0:=n3.cell 0 rfl;have t1:=n3.cell 1 rfl;have t2:=n3.cell 2 rfl;have t3:=n3.cell 3 rfl;have t4:=n3.cell 4 rfl;have t5:=n3.cell 5 rfl;have H2:=Y2 hD2 hS2;clear hD2 hS2 n3
 go_wp2_with fail
 go_ret2
 obtain⟨hD2,hS2⟩:=H2.out;have kA:=((Keeps.refl (fun _=>False) w2).alloc (.cells #[.int .u64 0,.int .i64 0,.int .i64 0,.int .i64 0,.int .i64 0,.int .u32 0] 107 (0,0)))
 have kB:=kA.alloc (.cells #[.pointer (some ⟨b,0,none⟩),.int .i64 (bF:Nat),.int .u64 0,.int .i64 0,.int .i64 0,.int .i64 0,.int .i64 0,.int .u32 0,.bool false,.bool false] 111 (0,0));have hN:=St.new (w2.alloc (.cells #[.int .u64 0,.int .i64 0,.int .i64 0,.int .i64 0,.int .i64 0,.int .u32 0] 107 (0,0))) 111 #[.pointer (some ⟨b,0,none⟩),.int .i64 (bF:Nat),.int .u64 0,.int .i64 0,.int .i64 0,.int .i64 0,.int .i64 0,.int .u32 0,.bool false,.bool false];rw[dq]at hN;refine⟨w2.heap.size+1,rfl,?_,hN,hD2.keep kB fun _ _=>id,(H1.out.trans hS2).1.trans kB fun _ h=>False.elim h,fun _ h=>.inl h⟩;have z1:=H1.out.1.size;have z2:=hS2.1.size;omega
end Go.Proofs.YtlhhcnknclnlaaaGreatDoor.Top
namespace Go.Proofs.YtlhhcnknclnlaaaGreatDoor.Top
open Go Go.WideShapes Go.RowKit Go.Proofs.YtlhhcnknclnlaaaGreatDoor.iH Go.Proofs.YtlhhcnknclnlaaaGreatDoor.Oct Go.Proofs.ah.aN Go.Proofs.ah.bA
variable {AL AV:Option dv}{D:Nat->Prop}{F:Files}{L:List Bool}{V:List Int}{W W' w:ao}{b base be bF c cl cv g n q room st0:Nat}{has:Bool}{kd Gc:Int}
theorem Rz{s st at_:Nat}{k0:Int}(hD:aV w D b room F c)(hE:St w be 111 (iD b bF q n s k0 Gc st0 has))(hbe:¬D be)(h:Mx (q+1) n s (at_:Nat) kd st)(hc:lZ w AV AL n cv cl V L)(hn:n<=12)(hat:at_<100)(hx:F (nm (FD++xB))=none)(hy:F (nm (IX++xB))=none)(hroom:c+16<=room)(hc0:c<700000):
 ba ab 182 #[.pointer (some ⟨be,0,none⟩),.agg #[.int .i64 kd,.int .u32 (st:Nat)],.int .i64 (at_:Nat),.agg #[.slice AV n cv,.slice AL n cl]] w fun e w'=>e=.returned (.int .i64 0)∧∃D' c' l,l.length=54∧aV w' D' b room (upd (upd F (zy at_) (some (mP at_ n V L))) (Kl ((q+1)%2)) (some l)) c'∧c'<=c+16∧St w' be 111 (iD b bF (q+1) n s (at_:Nat) kd st true)∧¬D' be∧Keeps (fun j=>D j∨j=be) w w'∧∀j,D' j->D j∨w.heap.size<=j:=by
 obtain⟨w1,hw1⟩:∃w1,w1=(w.alloc (.cells #[.int .i64 kd,.int .u32 (st:Nat)] 24 (0,0))).alloc (.cells #[.slice AV n cv,.slice AL n cl] 253 (0,0)):=⟨_,rfl⟩
 have k1:Keeps (fun _=>False) w w1:=by rw[hw1];exact((Keeps.refl _ w).alloc _).alloc _
 have s1:St w1 w.heap.size 24 [.int .i64 kd,.int .u32 (st:Nat)]:=by rw[hw1];exact(St.new _ _ _).alloc _
 have c1:St w1 (w.heap.size+1) 253 [.slice AV n cv,.slice AL n cl]:=by
  have:=St.new (w.alloc (.cells #[.int .i64 kd,.int .u32 (st:Nat)] 24 (0,0))) 253 #[.slice AV n cv,.slice AL n cl];rw[hw1];simpa using this
 have e1:=hE.keep k1 id;have HR:=Y1 (show ∀nn,St (w1.drewN nn) be 111 (iD b bF q n s k0 Gc st0 has)∧St (w1.drewN nn) w.heap.size 24 [.int .i64 kd,.int .u32 (st:Nat)]∧St (w1.drewN nn) (w.heap.size+1) 253 [.slice AV n cv,.slice AL n cl]∧Keeps (fun _=>False) w (w1.drewN nn)from fun nn=>⟨e1.keep (S:=fun _=>False) ((Keeps.refl _ w1).drewN nn) id,s1.keep (S:=fun _=>False) ((Keeps.refl _ w1).drewN nn) id,c1.keep (S:=fun _=>False) ((Keeps.refl _ w1).drewN nn) id,k1.drewN nn⟩);have hkeep:=fun nn=>aak (st:=at_) (hD.keep (HR.out nn).2.2.2 fun _ _=>id) (hc.keep (HR.out nn).2.2.2 fun _ _=>id) hn hat hy (by omega) (by omega)
 have HK:=Y1 hkeep;have H1:=Y5 hE hbe h hx (fun j (h:D j)=>hD.lt h);clear hD hE hbe h hc hx hy k1 s1 c1 e1 hkeep;go_enter func182,ntmps182
 go_wp2_with fail
 rw[<-hw1];clear hw1;refine gW (fun W=>∃nn,W=w1.drewN nn) 4 [0,1,2,4] [3,5] [6] [] [7] (by kernel_rfl) (fun _ _ x _ _ h=>by cases x<;>exact h) ⟨1,rfl⟩ (by kernel_rfl) ?_;simp only[aJ,ai,aq,af,ag]
 repeat (refine aI (fun K hK=>?_);go_simp;refine hK _ ?_;clear hK K)
 refine au ?_;refine ak (fun K hK=>?_);go_simp;refine⟨.pointer (some ⟨b,0,none⟩),fun _=>(by have h:w1.cell? ⟨be,0,none⟩=some (.pointer (some ⟨b,0,none⟩)):=(HR.out 0).1.cell 0 rfl;rw[h];rfl),hK _ ?_⟩;clear hK K;refine ak (fun K hK=>?_);go_simp;refine⟨.agg #[.slice AV n cv,.slice AL n cl],fun _=>(by
  have h:St w1 (w.heap.size+1) 253 [.slice AV n cv,.slice AL n cl]:=(HR.out 0).2.2.1;simp[h.cell 0 rfl,h.cell 1 rfl,ar]),hK _ ?_⟩
 clear hK K;refine bD ?_;rintro _ ⟨nn,rfl⟩;refine aH (fun K hK=>?_);go_simp;refine(HK.out nn).mono ?_;clear HK;rintro e w4 ⟨rfl,D',c',hD',hc',hs'⟩;refine hK _ _ trivial ?_;clear hK K;refine aQ (au ?_);obtain⟨hE,hbe,h,hx,hlt⟩:=H1.out;obtain⟨e1,s1,c1,k1⟩:=HR.out nn;have z1:=s1.lt;have eE:=e1.keep hs'.1 hbe;have s4:=s1.keep hs'.1 fun h=>absurd (hlt _ h) (da _)
 have k4:=(k1.mono fun _ _ h=>h.elim).trans hs'.1 fun _ h=>.inl h
 have RA:¬D' be:=fun h=>(hs'.2 be h).elim hbe fun h=>by have:=hE.lt;omega
 have n4:St (w4.alloc (.cells #[.int .u64 (q:Nat),.int .i64 (n:Nat),.int .i64 (s:Nat),.int .i64 k0,.int .i64 Gc,.int .u32 (st0:Nat)] 107 (0,0))) w4.heap.size 107 (Nw q n s k0 Gc st0):=St.new w4 107 #[.int .u64 (q:Nat),.int .i64 (n:Nat),.int .i64 (s:Nat),.int .i64 k0,.int .i64 Gc,.int .u32 (st0:Nat)];have e2:=eE.cell 2 rfl;have e3:=eE.cell 3 rfl;have e4:=eE.cell 4 rfl;have e5:=eE.cell 5 rfl;have e6:=eE.cell 6 rfl;have e7:=eE.cell 7 rfl;have H4:=Y8 eE s4 k4 RA hD' hc' (fun j (h:D' j)=>(hs'.2 j h).imp id fun h=>an k1.size h) n4;clear hE hbe h hx hlt e1 s1 c1 k1 z1 eE s4 k4 RA hD' hc' hs' n4
 go_wp2_with fail
 obtain⟨w5,rQ⟩:=ex (w4.alloc (.cells #[.int .u64 (q:Nat),.int .i64 (n:Nat),.int .i64 (s:Nat),.int .i64 k0,.int .i64 Gc,.int .u32 (st0:Nat)] 107 (0,0)))
 rw[<-rQ];have Nk:=Y1 (show ∀nn,St (w5.drewN nn) w4.heap.size 107 (Nw q n s k0 Gc st0)∧Keeps (fun _=>False) w4 (w5.drewN nn)from fun nn=>by
  obtain⟨_,_,_,_,_,_,_,n4⟩:=H4.out;rw[rQ];exact⟨n4.keep (S:=fun _=>False) ((Keeps.refl _ _).drewN nn) id,((Keeps.refl _ w4).alloc _).drewN nn⟩)
 clear rQ e2 e3 e4 e5 e6 e7;refine gy (fun W=>(∃k',St W w4.heap.size 107 (Nw q n s k' Gc st0))∧Keeps (fun _=>False) w4 W) 4 [0,2] [1] [([3],[4])] [5] (by kernel_rfl) (fun _ _ x _ _ h=>by cases x<;>exact h) ⟨⟨_,(Nk.out 1).1⟩,(Nk.out 1).2⟩ (by kernel_rfl) ?_;simp only[gu,aJ,ai,aq,af,ag]
 repeat (refine aI (fun K hK=>?_);go_simp;refine hK _ ?_;clear hK K)
 refine au ?_;refine ak (fun K hK=>?_);go_simp;refine⟨.agg #[.int .i64 kd,.int .u32 (st:Nat)],fun w' _ _ hk'=>(by
  have h:=H4.out.2.1.keep hk' id;simp[h.cell 0 rfl,h.cell 1 rfl,ar]),hK _ ?_⟩
 clear hK K;refine bD ?_;rintro W0 ⟨⟨k',sm⟩,km⟩;have t3:=sm.cell 3 rfl;have u3:=sm.frozen 3;have VP:=sm.set 3 (.int .i64 (at_:Nat));have KM2:=(((Keeps.refl (fun j=>j=w4.heap.size) W0).setCell (a:=⟨w4.heap.size,3,none⟩) (.inl rfl) (.int .i64 ((at_:Nat):Int))))
 have HM:=Y3 VP km KM2;clear sm km VP KM2;refine aH (fun K hK=>?_);go_simp;have KZ:=HM.out.2.1.trans HM.out.2.2 fun j e=>Or.inr (Nat.le_of_eq e.symm)
 refine hK _ _ ⟨⟨_,HM.out.1⟩,KZ⟩ ?_;clear hK K;refine aQ ?_
 repeat (refine aI (fun K hK=>?_);go_simp;refine hK _ ?_;clear hK K)
 refine au ?_;have VP:=HM.out.1;have t4:=VP.cell 4 rfl;have t5:=VP.cell 5 rfl;have u4:=VP.frozen 4;have u5:=VP.frozen 5;have s6:St (((W0.setCell ⟨w4.heap.size,3,none⟩ (.int .i64 ((at_:Nat):Int))).setCell ⟨w4.heap.size,4,none⟩ (.int .i64 kd)).setCell ⟨w4.heap.size,5,none⟩ (.int .u32 (st:Nat))) w4.heap.size 107 (Nw q n s (at_:Nat) kd st):=(VP.set 4 (.int .i64 kd)).set 5 (.int .u32 (st:Nat));have K6:=(KZ.setCell (a:=⟨w4.heap.size,4,none⟩) (.inr (al _)) (.int .i64 kd)).setCell (a:=⟨w4.heap.size,5,none⟩) (.inr (al _)) (.int .u32 (st:Nat));have H6:=Y2 s6 K6;have y0:=s6.cell 0 rfl;have y1:=s6.cell 1 rfl;have y2:=s6.cell 2 rfl;have y3:=s6.cell 3 rfl;have y4:=s6.cell 4 rfl;have y5:=s6.cell 5 rfl;clear VP s6 K6 KZ HM
 go_wp2_with fail
 clear y0 y1 y2 y3 y4 y5 t4 t5 u4 u5;generalize ((W0.setCell ⟨w4.heap.size,3,none⟩ (.int .i64 ((at_:Nat):Int))).setCell ⟨w4.heap.size,4,none⟩ (.int .i64 kd)).setCell ⟨w4.heap.size,5,none⟩ (.int .u32 (st:Nat))=W6 at*;obtain⟨hE,hbe,h,hx,hlt⟩:=H1.out;obtain⟨eE,s4,k4,RA,hD',hc',hl',_⟩:=H4.out;obtain⟨s6,K6⟩:=H6.out;refine(Kn (hD'.keep K6 fun _ _=>id) (eE.keep K6 id) RA h ((upd_ne F _ (Ko at_)).trans hx) (by omega) (by omega)).mono ?_;rintro e w7 ⟨rfl,D2,c2,l,hl,hD2,hc2,hE2,VQ,hk2,hl2⟩;have HF:=Y7 hl hD2 hc2 hE2 VQ hk2 hl2;have HG:=Y5 k4 hc' hl' K6 hlt;clear hE hbe h hx hlt eE s4 k4 RA hD' hc' hl' s6 K6 hl hD2 hc2 hE2 VQ hk2 hl2
 go_wp2_with fail
 go_ret;obtain⟨hl,hD2,hc2,hE2,VQ,hk2,hl2⟩:=HF.out;obtain⟨k4,hc',hl',K6,hlt⟩:=HG.out;have K7:Keeps (fun j=>D j∨j=be) w W6:=(k4.mono fun _ _ h=>dd h).trans K6 fun _ h=>h.elim
 refine⟨rfl,D2,c2,l,hl,hD2,by omega,hE2,VQ,K7.trans hk2 fun j h=>?_,fun j h=>?_⟩
 .rcases h with h|h
  .exact(hl' j h).imp .inl id
  .exact .inl (.inr h)
 .rcases hl2 j h with h|h
  .exact hl' j h
  .exact .inr (an K7.size h)
def CfA(kd:Int)(st n base:Nat)(W:ao)(v:cz):Prop:=∃A1 c1 A2 c2,v=.agg #[.slice A1 n c1,.slice A2 n c2]∧lZ W A1 A2 n c1 c2 (iV kd st n) (jE kd st n)∧∀a,A1=some a∨A2=some a->base<=a.block
def XF(kd:Int)(st n base:Nat)(W:ao)(v:cz):Prop:=∃A1 c1 A2 c2,v=.tuple #[.agg #[.slice A1 n c1,.slice A2 n c2],.int .i64 0]∧lZ W A1 A2 n c1 c2 (iV kd st n) (jE kd st n)∧∀a,A1=some a∨A2=some a->base<=a.block
structure BgJ (kd:Int) (st n base:Nat) (W:ao) (v33 v34 v26 v35 v36 v6:cz) (d:Nat->Prop):Prop where
 j6:d 6->v33=.agg #[.int .i64 (n:Nat),.slice none 0 0]
 j7:d 7->XF kd st n base W v34
 j8:d 8->XF kd st n base W v26
 j9:d 9->CfA kd st n base W v35
 j10:d 10->v36=.int .i64 0
 j11:d 11->∃g x y,v6=.pointer (some ⟨g,0,none⟩)∧base<=g∧St W g 253 [x,y]
 j12:d 12->∃g A1 c1 A2 c2,v6=.pointer (some ⟨g,0,none⟩)∧base<=g∧St W g 253 [.slice A1 n c1,.slice A2 n c2]∧lZ W A1 A2 n c1 c2 (iV kd st n) (jE kd st n)∧∀a,A1=some a∨A2=some a->base<=a.block
 j0:d 12->d 11
variable {vs:List cz}
theorem lZ.ne_of(h:lZ w AV AL n cv cl V L)(hs:St w g 253 vs):∀a,AV=some a∨AL=some a->¬a.block=g:=by
 rintro a (rfl|rfl)
 .exact hs.own_ne h.v (by decide) _ rfl
 .exact hs.own_ne h.l (by decide) _ rfl
theorem CfA.keep{kd:Int}{st n base:Nat}{W W':ao}{v:cz}(h:CfA kd st n base W v)(hk:Keeps (fun _=>False) W W'):CfA kd st n base W' v:=by
 obtain⟨A1,c1,A2,c2,e,h1,h2⟩:=h;exact⟨A1,c1,A2,c2,e,h1.keep hk fun _ _=>id,h2⟩
theorem XF.keep{kd:Int}{st n base:Nat}{W W':ao}{v:cz}(h:XF kd st n base W v)(hk:Keeps (fun _=>False) W W'):XF kd st n base W' v:=by
 obtain⟨A1,c1,A2,c2,e,h1,h2⟩:=h;exact⟨A1,c1,A2,c2,e,h1.keep hk fun _ _=>id,h2⟩
variable {v:cz}
theorem CfA.put{st:Nat}(h:CfA kd st n base W v)(hs:St W g 253 vs)(hk:Keeps (fun j=>j=g) W W'):CfA kd st n base W' v:=by
 obtain⟨A1,c1,A2,c2,e,h1,h2⟩:=h;exact⟨A1,c1,A2,c2,e,h1.keep hk (h1.ne_of hs),h2⟩
theorem XF.put{st:Nat}(h:XF kd st n base W v)(hs:St W g 253 vs)(hk:Keeps (fun j=>j=g) W W'):XF kd st n base W' v:=by
 obtain⟨A1,c1,A2,c2,e,h1,h2⟩:=h;exact⟨A1,c1,A2,c2,e,h1.keep hk (h1.ne_of hs),h2⟩
theorem BgJ.keep{kd:Int}{st n base:Nat}{W W':ao}{v33 v34 v26 v35 v36 v6:cz}{d:Nat->Prop}(h:BgJ kd st n base W v33 v34 v26 v35 v36 v6 d)(hk:Keeps (fun _=>False) W W'):BgJ kd st n base W' v33 v34 v26 v35 v36 v6 d:=
 ⟨h.j6,fun hd=>(h.j7 hd).keep hk,fun hd=>(h.j8 hd).keep hk,fun hd=>(h.j9 hd).keep hk,h.j10,fun hd=>by
  obtain⟨g,x,y,e,h1,h2⟩:=h.j11 hd;exact⟨g,x,y,e,h1,h2.keep hk id⟩,fun hd=>by
  obtain⟨g,A1,c1,A2,c2,e,h1,h2,h3,h4⟩:=h.j12 hd;exact⟨g,A1,c1,A2,c2,e,h1,h2.keep hk id,h3.keep hk fun _ _=>id,h4⟩,h.j0⟩
theorem MG{s st:Nat}(hD:aV w D b room F c)(hE:St w be 111 (iD b bF q n s (-1) Gc st0 has))(hbe:¬D be)(h:Mx (q+1) n s (0:Nat) kd st)(hP:Mi kd st n)(hn:n<=12)(hx:F (nm (FD++xB))=none)(hy:F (nm (IX++xB))=none)(hroom:c+16<=room)(hc0:c<700000):
 ba ab 179 #[.pointer (some ⟨be,0,none⟩),.agg #[.int .i64 kd,.int .u32 (st:Nat)]] w fun e w'=>∃A1 c1 A2 c2,e=.returned (.tuple #[.agg #[.slice A1 n c1,.slice A2 n c2],.int .i64 0])∧∃D' c' l,l.length=54∧aV w' D' b room (upd (upd F (zy 0) (some (mP 0 n (iV kd st n) (jE kd st n)))) (Kl ((q+1)%2)) (some l)) c'∧c'<=c+16∧St w' be 111 (iD b bF (q+1) n s (0:Nat) kd st true)∧¬D' be∧Keeps (fun j=>D j∨j=be) w w'∧(∀j,D' j->D j∨w.heap.size<=j)∧
  lZ w' A1 A2 n c1 c2 (iV kd st n) (jE kd st n)∧∀a,A1=some a∨A2=some a->w.heap.size<=a.block∧¬D' a.block:=by
 obtain⟨w1,hw1⟩:∃w1,w1=(w.alloc (.cells #[.int .i64 kd,.int .u32 (st:Nat)] 24 (0,0))).alloc (.cells #[.slice none 0 0,.slice none 0 0] 253 (0,0)):=⟨_,rfl⟩
 have k1:Keeps (fun _=>False) w w1:=by rw[hw1];exact((Keeps.refl _ w).alloc _).alloc _
 have s1:St w1 w.heap.size 24 [.int .i64 kd,.int .u32 (st:Nat)]:=by rw[hw1];exact(St.new _ _ _).alloc _
 have c1:St w1 (w.heap.size+1) 253 [.slice none 0 0,.slice none 0 0]:=by
  have:=St.new (w.alloc (.cells #[.int .i64 kd,.int .u32 (st:Nat)] 24 (0,0))) 253 #[.slice none 0 0,.slice none 0 0];rw[hw1];simpa using this
 have z1:w1.heap.size=w.heap.size+2:=by rw[hw1];simp
 have e1:=hE.keep k1 id;have e5:=e1.cell 5 rfl;have H1:=Y5 e1 s1 c1 k1 z1;have HX:=Y7 hD hE hbe h hx hy hP;have d1:decide ((-1:Int)>=0)=false:=by decide
 clear hD hE hbe h hx hy k1 s1 c1 e1 z1 hP;go_enter func179,ntmps179;rw[hw1]at e5
 go_wp2_with fail
 clear e5;rw[<-hw1];clear hw1;have HP:=Y1 (fun W=>Vx (w:=W) (cp:=0) (m:=0) (A:=none) (es:=[]) HX.out.2.2.2.2.2.2 hn (fun k e h=>by cases h) (fun e h=>by cases h) rfl (by omega));refine Ei (Keeps (fun _=>False) w1) 8 [1,2,3,4] [0,5] [6,7,8,9,10,11,12] (fun d a W=>∃v33 v34 v26 v35 v36 v6,a={tmps:=List.toArray (.pointer (some ⟨be,0,none⟩):: .agg #[.int .i64 kd,.int .u32 ((st:Nat):Int)]::undef:: .pointer (some ⟨w.heap.size,0,none⟩):: .pointer (some ⟨w.heap.size+1,0,none⟩):: .int .i64 0::v6::undef:: .pointer (some ⟨be,0,none⟩):: .pointer (some ⟨be,0,none⟩):: .pointer (some ⟨be,2,none⟩):: .pointer (some ⟨be,5,none⟩):: .int .i64 (-1):: .bool false::undef::undef::undef::undef::undef::undef::undef::undef::undef::undef::undef::undef::v26:: .agg #[.int .i64 kd,.int .u32 (st:Nat)]:: .pointer (some ⟨be,0,none⟩):: .pointer (some ⟨be,0,none⟩):: .pointer (some ⟨be,2,none⟩):: .pointer (some ⟨be,3,none⟩):: .int .i64 (n:Nat)::v33::v34::v35::v36::undef::undef::undef::undef::undef::undef::undef::undef::[]),defers:=[]}∧BgJ kd st n w1.heap.size W v33 v34 v26 v35 v36 v6 d) [] [13] (by kernel_rfl) (fun _ _ x _ _ h=>by cases x<;>exact h) ((Keeps.refl _ w1).drewN 1) (by kernel_rfl) ?_ ?_ ?_
 .rintro d a W i o hi ho hC hd hnd ⟨v33,v34,v26,v35,v36,v6,rfl,hJ⟩;have HC:=Y2 hC hJ;simp only[dy,List.not_mem_nil,or_false]at hi;rcases hi with rfl|rfl|rfl|rfl|rfl|rfl|rfl
  .clear hd hC hJ;cases ho;refine aH (fun K hK=>?_);go_simp;obtain⟨hC,hJ⟩:=HC.out;refine hK _ _ hC ?_;clear hK K;exact aQ ⟨_,v34,v26,v35,v36,v6,rfl,fun _=>rfl,fun h=>hJ.j7 (h.resolve_left (by decide)),fun h=>hJ.j8 (h.resolve_left (by decide)),fun h=>hJ.j9 (h.resolve_left (by decide)),fun h=>hJ.j10 (h.resolve_left (by decide)),fun h=>hJ.j11 (h.resolve_left (by decide)),fun h=>hJ.j12 (h.resolve_left (by decide)),fun h=>.inr (hJ.j0 (h.resolve_left (by decide)))⟩
  .obtain rfl:=hJ.j6 (hd 6 (by kernel_rfl) (by kernel_rfl));clear hd hC hJ;cases ho;refine aH (fun K hK=>?_);go_simp;refine(HP.out W).mono ?_;rintro e W1 ⟨A1,c1,A2,c2,rfl,hcf,hfr,hb⟩;obtain⟨hC,hJ⟩:=HC.out;have kb:Keeps (fun _=>False) W W1:=Keeps.of_below hb;refine hK _ _ (hC.trans kb fun _ h=>h.elim) ?_;clear hK K;have hJ:=hJ.keep kb;exact aQ ⟨_,_,v26,v35,v36,v6,rfl,fun _=>rfl,fun _=>⟨A1,c1,A2,c2,rfl,hcf,fun a h=>an hC.size (hfr a h)⟩,fun h=>hJ.j8 (h.resolve_left (by decide)),fun h=>hJ.j9 (h.resolve_left (by decide)),fun h=>hJ.j10 (h.resolve_left (by decide)),fun h=>hJ.j11 (h.resolve_left (by decide)),fun h=>hJ.j12 (h.resolve_left (by decide)),fun h=>.inr (hJ.j0 (h.resolve_left (by decide)))⟩
  .clear hC hJ;have h7:=Y1 (hd 7 (by kernel_rfl) (by kernel_rfl));clear hd;cases ho;refine aH (fun K hK=>?_);go_simp;obtain⟨hC,hJ⟩:=HC.out;refine hK _ _ hC ?_;clear hK K;exact aQ ⟨v33,v34,_,v35,v36,v6,rfl,fun h=>hJ.j6 (h.resolve_left (by decide)),fun h=>hJ.j7 (h.resolve_left (by decide)),fun _=>hJ.j7 h7.out,fun h=>hJ.j9 (h.resolve_left (by decide)),fun h=>hJ.j10 (h.resolve_left (by decide)),fun h=>hJ.j11 (h.resolve_left (by decide)),fun h=>hJ.j12 (h.resolve_left (by decide)),fun h=>.inr (hJ.j0 (h.resolve_left (by decide)))⟩
  .obtain⟨A1,c1,A2,c2,rfl,hcf,hfr⟩:=hJ.j8 (hd 8 (by kernel_rfl) (by kernel_rfl));have h8:=Y2 hcf hfr;clear hd hC hJ hcf hfr;cases ho;refine aH (fun K hK=>?_);go_simp;obtain⟨hC,hJ⟩:=HC.out;refine hK _ _ hC ?_;clear hK K;exact aQ ⟨v33,v34,_,_,v36,v6,rfl,fun h=>hJ.j6 (h.resolve_left (by decide)),fun h=>hJ.j7 (h.resolve_left (by decide)),fun h=>hJ.j8 (h.resolve_left (by decide)),fun _=>⟨A1,c1,A2,c2,rfl,h8.out⟩,fun h=>hJ.j10 (h.resolve_left (by decide)),fun h=>hJ.j11 (h.resolve_left (by decide)),fun h=>hJ.j12 (h.resolve_left (by decide)),fun h=>.inr (hJ.j0 (h.resolve_left (by decide)))⟩
  .obtain⟨A1,c1,A2,c2,rfl,hcf,hfr⟩:=hJ.j8 (hd 8 (by kernel_rfl) (by kernel_rfl));clear hd hC hJ hcf hfr;cases ho;refine aH (fun K hK=>?_);go_simp;obtain⟨hC,hJ⟩:=HC.out;refine hK _ _ hC ?_;clear hK K;exact aQ ⟨v33,v34,_,v35,_,v6,rfl,fun h=>hJ.j6 (h.resolve_left (by decide)),fun h=>hJ.j7 (h.resolve_left (by decide)),fun h=>hJ.j8 (h.resolve_left (by decide)),fun h=>hJ.j9 (h.resolve_left (by decide)),fun _=>rfl,fun h=>hJ.j11 (h.resolve_left (by decide)),fun h=>hJ.j12 (h.resolve_left (by decide)),fun h=>.inr (hJ.j0 (h.resolve_left (by decide)))⟩
  .clear hd hC hJ;cases ho;refine aH (fun K hK=>?_);go_simp;obtain⟨hC,hJ⟩:=HC.out;refine hK _ _ (hC.alloc _) ?_;clear hK K;have hJ:=hJ.keep ((Keeps.refl _ W).alloc (.cells #[.slice none 0 0,.slice none 0 0] 253 (0,0)));exact aQ ⟨v33,v34,v26,v35,v36,_,rfl,fun h=>hJ.j6 (h.resolve_left (by decide)),fun h=>hJ.j7 (h.resolve_left (by decide)),fun h=>hJ.j8 (h.resolve_left (by decide)),fun h=>hJ.j9 (h.resolve_left (by decide)),fun h=>hJ.j10 (h.resolve_left (by decide)),fun _=>⟨_,_,_,rfl,hC.size,St.new _ _ _⟩,fun h=>(hnd (hJ.j0 (h.resolve_left (by decide)))).elim,fun _=>.inl rfl⟩
  .obtain⟨A1,c1,A2,c2,rfl,hcf,hfr⟩:=hJ.j9 (hd 9 (by kernel_rfl) (by kernel_rfl));have h11:=hd 11 (by kernel_rfl) (by kernel_rfl);obtain⟨g,x,y,rfl,hg,hsg⟩:=hJ.j11 h11;have t0:=hsg.cell 0 rfl;have t1:=hsg.cell 1 rfl;have u0:=hsg.frozen 0;have u1:=hsg.frozen 1;have s2:St ((W.setCell ⟨g,0,none⟩ (.slice A1 n c1)).setCell ⟨g,1,none⟩ (.slice A2 n c2)) g 253 [.slice A1 n c1,.slice A2 n c2]:=(hsg.set 0 (.slice A1 n c1)).set 1 (.slice A2 n c2);have k2:=((Keeps.refl (fun j=>j=g) W).setCell (a:=⟨g,0,none⟩) (.inl rfl) (.slice A1 n c1)).setCell (a:=⟨g,1,none⟩) (.inl rfl) (.slice A2 n c2);have h9:=Y6 hcf hfr hg hsg s2 k2;clear hd hC hJ hcf hfr hg hsg s2 k2;cases ho;refine aH (fun K hK=>?_);go_simp;obtain⟨hC,hJ⟩:=HC.out;obtain⟨hcf,hfr,hg,hsg,s2,k2⟩:=h9.out;refine hK _ _ (hC.trans k2 fun j e=>.inr (by omega)) ?_;clear hK K;have hne:=hcf.ne_of hsg;refine aQ ⟨v33,v34,v26,_,v36,_,rfl,fun h=>hJ.j6 (h.resolve_left (by decide)),fun h=>(hJ.j7 (h.resolve_left (by decide))).put hsg k2,fun h=>(hJ.j8 (h.resolve_left (by decide))).put hsg k2,fun h=>(hJ.j9 (h.resolve_left (by decide))).put hsg k2,fun h=>hJ.j10 (h.resolve_left (by decide)),fun _=>⟨g,_,_,rfl,hg,s2⟩,fun _=>⟨g,A1,c1,A2,c2,rfl,hg,s2,hcf.keep k2 hne,hfr⟩,fun _=>.inr h11⟩
 .rintro d a W hd hC ⟨v33,v34,v26,v35,v36,v6,rfl,hJ⟩;obtain rfl:=hJ.j10 (hd 10 (by simp));obtain⟨g,A1,c1,A2,c2,rfl,hg,hsg,hcf,hfr⟩:=hJ.j12 (hd 12 (by simp));have t0:=hsg.cell 0 rfl;have t1:=hsg.cell 1 rfl;have HF:=Y5 hC hg hsg hcf hfr;clear hd hJ hC hg hsg hcf hfr;have p0:=(H1.out.2.1.keep HF.out.1 id).cell 0 rfl;have p1:=(H1.out.2.1.keep HF.out.1 id).cell 1 rfl;simp only[gu,aJ,ai,aq,af,ag]
  go_wp2_with fail
  clear t0 t1 p0 p1;obtain⟨e1,s1,c1',k1,z1⟩:=H1.out;obtain⟨hD,hE,hbe,h,hx,hy,hP⟩:=HX.out;obtain⟨hC,hg,hsg,hcf,hfr⟩:=HF.out;have kW:=k1.trans hC fun _ h=>h.elim
  have hDl:∀j,D j->j<w.heap.size:=fun j h=>hD.lt h
  have hbl:=hE.lt;refine(Rz (at_:=0) (hD.keep kW fun _ _=>id) (e1.keep hC id) hbe h hcf hn (by omega) hx hy hroom hc0).mono ?_;rintro e w7 ⟨rfl,D',c',l,hl,hD',hc',hE',VR,hk',hl'⟩;have sg7:=hsg.keep hk' fun h=>by
   rcases h with h|h
   .have:=hDl _ h;omega
   .omega
  have XG:=(c1'.keep hC id).keep hk' fun h=>by
   rcases h with h|h
   .have:=hDl _ h;omega
   .omega
  have VT:=hcf.keep hk' fun a ha h=>by
   have:=hfr a ha;rcases h with h|h
   .have:=hDl _ h;omega
   .omega
  have t0:=sg7.cell 0 rfl;have t1:=sg7.cell 1 rfl;have y0:=XG.cell 0 rfl;have y1:=XG.cell 1 rfl;have u0:=XG.frozen 0;have u1:=XG.frozen 1;have HZ:=Y12 hl hD' hc' hE' VR hk' hl' XG VT kW hDl hbl;clear e1 s1 c1' k1 hD hE hbe h hx hy hP hC hsg hcf kW hDl hbl hl hD' hc' hE' VR hk' hl' sg7 XG VT hg hfr
  go_wp2_with fail
  obtain⟨hl,hD',hc',hE',VR,hk',hl',XG,VT,kW,hDl,hbl⟩:=HZ.out;obtain⟨hC,hg,hsg,hcf,hfr⟩:=HF.out;obtain⟨e1,s1,c1',k1,z1⟩:=H1.out;have s8:=(XG.set 0 (.slice A1 n c1)).set 1 (.slice A2 n c2);have k8:=((Keeps.refl (fun j=>j=w.heap.size+1) w7).setCell (a:=⟨w.heap.size+1,0,none⟩) (.inl rfl) (.slice A1 n c1)).setCell (a:=⟨w.heap.size+1,1,none⟩) (.inl rfl) (.slice A2 n c2);have zW:=hC.size;have hne:w.heap.size+1≠be:=by omega
  have nD':¬D' (w.heap.size+1):=fun h=>by
   rcases hl' _ h with h|h
   .have:=hDl _ h;omega
   .omega
  refine bodyPost_ret (dX rfl _ _ (w.heap.size+1) 253 #[.slice A1 n c1,.slice A2 n c2] (0,0) _ rfl s8 cH rfl (by kernel_rfl)) rfl ?_;have KZ:=(kW.mono fun _ _ h=>h.elim).trans hk' fun _ h=>.inl h
  refine⟨A1,c1,A2,c2,rfl,D',c',l,hl,hD'.keep k8 fun j h e=>nD' (e▸h),hc',hE'.keep k8 fun e=>hne e.symm,VR,KZ.trans k8 fun j e=>.inr (by omega),fun j h=>(hl' j h).imp id fun h=>an kW.size h,VT.keep k8 fun a ha e=>by have:=hfr a ha;omega,fun a ha=>⟨by have:=hfr a ha;omega,fun h=>?_⟩⟩;have h1:=hfr a ha;rcases hl' _ h with h2|h2
  .have:=hDl _ h2;omega
  .have hb:a.block<W.heap.size:=by
    rcases ha with rfl|rfl
    .exact bJ hcf.v _ rfl
    .exact bJ hcf.l _ rfl
   omega
 .repeat (refine aI (fun K hK=>?_);go_simp;refine hK _ ?_;clear hK K)
  refine au ?_;refine ak (fun K hK=>?_);go_simp;refine⟨.agg #[.int .i64 kd,.int .u32 (st:Nat)],fun W hW=>(by
   have h:=H1.out.2.1.keep hW id;simp[h.cell 0 rfl,h.cell 1 rfl,ar]),hK _ ?_⟩
  clear hK K;refine ak (fun K hK=>?_);go_simp;refine⟨.int .i64 (n:Nat),fun W hW=>(by
   have h:=(H1.out.1.keep hW id).cell 3 rfl;rw[h];rfl),hK _ ?_⟩
  clear hK K;refine bD ?_;intro W hW;exact⟨_,_,_,_,_,_,rfl,fun h=>h.elim,fun h=>h.elim,fun h=>h.elim,fun h=>h.elim,fun h=>h.elim,fun h=>h.elim,fun h=>h.elim,fun h=>h.elim⟩
theorem aV.same{w':ao}{D':Nat->Prop}{b' room' c':Nat}(h:aV w D b room F c)(h':aV w' D' b' room' F c'):c'=c:=by
 obtain⟨m,L,g,v,s,G,hr,rfl,hF⟩:=h;obtain⟨m',L',g',v',s',G',hr',rfl,hF'⟩:=h';have hm:∀x,x∈L'↔x∈L:=fun x=>by
  have e1:=hF x;have e2:=hF' x;by_cases h1:x∈L<;>by_cases h2:x∈L'<;>simp_all
 have hg:∀x,x∈L->G' x=G x:=fun x hx=>by
  have e1:=hF x;have e2:=hF' x;rw[if_pos hx]at e1;rw[if_pos ((hm x).2 hx)]at e2;rw[e1]at e2;injection e2 with e2;exact e2.symm
 have hp:=(List.perm_ext_iff_of_nodup hr'.mR hr.mR).2 hm;have hs:bZ L' G'=bZ L G:=by
  unfold bZ;refine((hp.map _).sum_nat).trans ?_
  congr 1
  exact List.map_congr_left fun x hx=>by rw[hg x hx]
 rw[hs,hp.length_eq]
def GoS(w wr:ao)(D0:Nat->Prop)(b be bF room n s c0 q0 st g pb:Nat)(kd:Int)(Rs:List (List Ed))(C:Nat->List Int×List Bool)(K:Nat):Prop:=
 ∃D c F A1 c1 A2 c2,aV wr D b room F c∧c<=c0+16*K∧jw n Rs (K+1) C F∧St wr be 111 (iD b bF (q0+K) n s (K:Nat) kd st true)∧¬D be∧St wr g 253 [.slice A1 n c1,.slice A2 n c2]∧St wr pb 24 [.int .i64 kd,.int .u32 (st:Nat)]∧lZ wr A1 A2 n c1 c2 (C K).1 (C K).2∧
  (∀a,A1=some a∨A2=some a->¬D a.block∧w.heap.size<=a.block)∧Keeps (fun j=>D0 j∨j=be) w wr∧(∀j,D j->D0 j∨w.heap.size<=j)∧¬D g∧¬D pb
structure Rel (n:Nat) (kd:Int) (st:Nat) (E:zH) (I:Nat->List Int->List Bool->Prop):Prop where
 start:I 0 (iV kd st n) (jE kd st n)
 step:∀j V L V' L',j<100->I j V L->Sup (msg kd) n E V L V' L'->I (j+1) V' L'
 most:∀j V L,j<100->I j V L->∀v,v<n->L.getD v false=true->0<=V.getD v 0∧V.getD v 0+1<18446744073709551616
theorem aat{s st most:Nat}{Rs:List (List Ed)}{C0:Nat->List Int×List Bool}{I:Nat->List Int->List Bool->Prop}(hD:aV w D b room F c)(hE:St w be 111 (iD b bF q n s (-1) Gc st0 true))(hbe:¬D be)(hG:jw n Rs 0 C0 F)(hP:Mi kd st n)(hn:n<=12)(hR:Rs.length=s)(hs:1<=s)(hs2:s<=6)(hok:∀r∈Rs,∀e∈r,e.ok n)(hfl:Rs.flatten.length<=39)(hI:Rel n kd st (Rs.flatten.map uL) I)(hb:1<=bF)(hq:q+most+2<=100)(hm:most<=20)(hroom:c+16*(most+2)+200<=room)(hc0:c<60000):
 ba ab 173 #[.pointer (some ⟨be,0,none⟩),.agg #[.int .i64 kd,.int .u32 (st:Nat)],.int .i64 (most:Nat)] w fun e w'=>e=.returned (.int .i64 0)∧∃K C D' c' F',K<=most∧(K=most∨Still n (C K).2)∧(∀j,j<K->¬Still n (C j).2)∧(∀j,j<=K->I j (C j).1 (C j).2)∧aV w' D' b room F' c'∧jw n Rs (K+1) C F'∧
  St w' be 111 (iD b bF (q+1+K) n s (K:Nat) kd st true)∧¬D' be∧Keeps (fun j=>D j∨j=be) w w'∧∀j,D' j->D j∨w.heap.size<=j:=by
 obtain⟨w1,hw1⟩:=ex (w.alloc (.cells #[.int .i64 kd,.int .u32 (st:Nat)] 24 (0,0)))
 have k1:Keeps (fun _=>False) w w1:=by rw[hw1];exact(Keeps.refl _ w).alloc _
 have s1:St w1 w.heap.size 24 [.int .i64 kd,.int .u32 (st:Nat)]:=by rw[hw1];exact St.new _ _ _
 have hbg:=MG (kd:=kd) (st:=st) (hD.keep k1 fun _ _=>id) (hE.keep k1 id) hbe ⟨by omega,by omega,hn,hs,hs2,.inr ⟨by omega,by omega,hP⟩⟩ hP hn hG.sl hG.sw (by omega) (by omega);have p0:=s1.cell 0 rfl;have p1:=s1.cell 1 rfl;have H1:=Y7 s1 k1 hD hE hbe hG hI;have HC:=Y4 hok hfl hR hP;clear s1 k1 hD hE hbe hG hI hok hfl hR hP;go_enter func173,ntmps173;rw[hw1]at p0 p1
 go_wp2_with fail
 clear p0 p1;rw[<-hw1];clear hw1;refine hbg.mono ?_;clear hbg;rintro e w2 ⟨A1,c1,A2,c2,rfl,D1,d1,l1,hl1,hD1,hd1,hE1,qD,hk1,hlt1,RB,MH⟩;have H2:=Y9 hl1 hD1 hd1 hE1 qD hk1 hlt1 RB MH;clear hl1 hD1 hd1 hE1 qD hk1 hlt1 RB MH
 go_wp2_with fail
 obtain⟨w3,hw3⟩:=ex (w2.alloc (.cells #[.slice A1 n c1,.slice A2 n c2] 253 (0,0)))
 rw[<-hw3];have hg3:w.heap.size<w2.heap.size∧St w3 w2.heap.size 253 [.slice A1 n c1,.slice A2 n c2]:=by
  obtain⟨s1,k1,hD,hE,hbe,hG,hI⟩:=H1.out;obtain⟨hl1,hD1,hd1,hE1,qD,hk1,hlt1,RB,MH⟩:=H2.out;exact⟨az s1.lt hk1.size,by rw[hw3];exact St.new _ _ _⟩
 obtain⟨hgg,hsg⟩:=hg3;have hI0:=H1.out.2.2.2.2.2.2;have A0:=Y1 (show GoS w w3 D b be bF room n s (c+16) (q+1) st w2.heap.size w.heap.size kd Rs (fun _=>(iV kd st n,jE kd st n)) 0 from by
  obtain⟨s1,k1,hD,hE,hbe,hG,hI⟩:=H1.out;obtain⟨hl1,hD1,hd1,hE1,qD,hk1,hlt1,RB,MH⟩:=H2.out;have k3:Keeps (fun _=>False) w2 w3:=by rw[hw3];exact(Keeps.refl _ w2).alloc _
  have hDl:∀j,D j->j<w.heap.size:=fun j h=>hD.lt h
  have hbl:=hE.lt;refine⟨D1,d1,_,A1,c1,A2,c2,hD1.keep k3 fun _ _=>id,by omega,((hG.same fun j h=>by omega).state (by omega) (iV kd st n) (jE kd st n) rfl).slot (by omega) l1,hE1.keep k3 id,qD,hsg,(s1.keep hk1 fun h=>?_).keep k3 id,RB.keep k3 fun _ _=>id,fun a ha=>⟨(MH a ha).2,an k1.size (MH a ha).1⟩,((k1.mono fun _ _ h=>h.elim).trans hk1 fun _ h=>.inl h).trans k3 fun _ h=>h.elim,fun j h=>(hlt1 j h).imp id fun h=>an k1.size h,fun h=>?_,fun h=>?_⟩
  .rcases h with h|h
   .have:=hDl _ h;omega
   .omega
  .have:=hD1.lt h;omega
  .rcases hlt1 _ h with h|h
   .have:=hDl _ h;omega
   .have:=s1.lt;omega)
 have hbb:=H1.out.2.2.2.1.lt;have hDl:=Y1 (show ∀j,D j->j<w.heap.size from fun j h=>H1.out.2.2.1.lt h);have HI:=Y1 hI0;clear hI0 hw3 hsg H1 H2;generalize w2.heap.size=g at*;obtain⟨ahp,hmo⟩:=ex most
 go_loopg [8] most (fun kq v8 wr=>∃(K:Nat),kq+K=most∧v8=.int .i64 0∧aG (∃C,GoS w wr D b be bF room n s (c+16) (q+1) st g w.heap.size kd Rs C K∧(∀j,j<K->¬Still n (C j).2)∧∀j,j<=K->I j (C j).1 (C j).2))
 case atStart=>exact⟨0,by omega,rfl,⟨_,A0.out,fun j h=>by omega,fun j h=>by obtain rfl:j=0:=(by omega);exact HI.out.start⟩⟩
 case round=>
  obtain⟨K,hK,rfl,hA⟩:=hrel;obtain⟨C,hGo,hst,hIs⟩:=hA.out;obtain⟨D1,d1,F1,A1,c1,A2,c2,hD1,hd1,hG1,hE1,qD,hsg,hsp,hcf,FJ,hk1,hl1,hg1,hp1⟩:=hGo;have e5:=hE1.cell 5 rfl;have g0:=hsg.cell 0 rfl;have g1:=hsg.cell 1 rfl;obtain⟨qu,Kj,hqw⟩:=Kh hcf (by omega);have H4:=Y13 hD1 hd1 hG1 hE1 qD hsg hsp hcf FJ hk1 hl1 hg1 hp1;have HS:=Y3 hst hIs Kj;have HK:=Y1 hK;clear hD1 hd1 hG1 hE1 qD hsg hsp hcf FJ hk1 hl1 hg1 hp1 hA hst hIs Kj hK;by_cases hlt:K<most
  .clear hmo
   go_wp2_with fail
   refine hqw.mono ?_;clear hqw;rintro e w4 ⟨rfl,hb4⟩;have k4:Keeps (fun _=>False) wr w4:=Keeps.of_below hb4;have K4:=Y1 k4;clear k4 hb4 e5 g0 g1;cases qu with
   |true=>
    go_wp2_with fail
    go_ret;obtain⟨hD1,hd1,hG1,hE1,qD,hsg,hsp,hcf,FJ,hk1,hl1,hg1,hp1⟩:=H4.out;obtain⟨hst,hIs,Kj⟩:=HS.out;have k4:=K4.out;exact⟨rfl,K,C,D1,d1,F1,by omega,.inr (Kj.1 trivial),hst,hIs,hD1.keep k4 fun _ _=>id,hG1,hE1.keep k4 id,qD,hk1.trans k4 fun _ h=>h.elim,hl1⟩
   |false=>
    have HR:=Y1 (show ∀nn,St (w4.drewN nn) be 111 (iD b bF (q+1+K) n s (K:Nat) kd st true)∧St (w4.drewN nn) g 253 [.slice A1 n c1,.slice A2 n c2]∧St (w4.drewN nn) w.heap.size 24 [.int .i64 kd,.int .u32 (st:Nat)]∧Keeps (fun _=>False) wr (w4.drewN nn)from fun nn=>by
     obtain⟨hD1,hd1,hG1,hE1,qD,hsg,hsp,hcf,FJ,hk1,hl1,hg1,hp1⟩:=H4.out;have kk:=K4.out.drewN nn;exact⟨hE1.keep kk id,hsg.keep kk id,hsp.keep kk id,kk⟩)
    clear K4
    go_wp2_with fail
    refine gW (fun W=>∃nn,W=w4.drewN nn) 8 [0,1,2,5,6,7,8,11,12,13] [3,4,9,10,14] [15] [16,17,18] [19,20] (by kernel_rfl) (fun _ _ x _ _ h=>by cases x<;>exact h) ⟨1,rfl⟩ (by kernel_rfl) ?_;simp only[aJ,ai,aq,af,ag]
    repeat (refine aI (fun K2 hK2=>?_);go_simp;refine hK2 _ ?_;clear hK2 K2)
    refine au ?_;refine ak (fun K2 hK2=>?_);go_simp;refine⟨.pointer (some ⟨b,0,none⟩),fun _=>(by have h:w4.cell? ⟨be,0,none⟩=some (.pointer (some ⟨b,0,none⟩)):=(HR.out 0).1.cell 0 rfl;rw[h];rfl),hK2 _ ?_⟩;clear hK2 K2;refine ak (fun K2 hK2=>?_);go_simp;refine⟨.agg #[.int .i64 kd,.int .u32 (st:Nat)],fun _=>(by
     have h:St w4 w.heap.size 24 [.int .i64 kd,.int .u32 (st:Nat)]:=(HR.out 0).2.2.1;simp[h.cell 0 rfl,h.cell 1 rfl,ar]),hK2 _ ?_⟩
    clear hK2 K2;refine ak (fun K2 hK2=>?_);go_simp;refine⟨.int .i64 (s:Nat),fun _=>(by have h:w4.cell? ⟨be,4,none⟩=some (.int .i64 (s:Nat)):=(HR.out 0).1.cell 4 rfl;rw[h];rfl),hK2 _ ?_⟩;clear hK2 K2;refine ak (fun K2 hK2=>?_);go_simp;refine⟨.agg #[.slice A1 n c1,.slice A2 n c2],fun _=>(by
     have h:St w4 g 253 [.slice A1 n c1,.slice A2 n c2]:=(HR.out 0).2.1;simp[h.cell 0 rfl,h.cell 1 rfl,ar]),hK2 _ ?_⟩
    clear hK2 K2;refine ak (fun K2 hK2=>?_);go_simp;refine⟨.int .i64 (bF:Nat),fun _=>(by have h:w4.cell? ⟨be,1,none⟩=some (.int .i64 (bF:Nat)):=(HR.out 0).1.cell 1 rfl;rw[h];rfl),hK2 _ ?_⟩;clear hK2 K2;refine bD ?_;rintro _ ⟨nn,rfl⟩;refine aH (fun K2 hK2=>?_);go_simp;obtain⟨hD1,hd1,hG1,hE1,qD,hsg,hsp,hcf,FJ,hk1,hl1,hg1,hp1⟩:=H4.out;obtain⟨hst,hIs,Kj⟩:=HS.out;obtain⟨hok,hfl,hR,hP⟩:=HC.out;obtain⟨eE,eg,ep,kk⟩:=HR.out nn;have hKm:=HK.out;refine(Ml (hD1.keep kk fun _ _=>id) (hcf.keep kk fun _ _=>id) (fun a h=>(FJ a h).1) hP hR hs hs2 hn hG1.sh hok hfl (HI.out.most K _ _ (by omega) (hIs K (al _))) (fun h=>by have:=Kj.2 h;cases this) hG1.bx hb (by omega) (by omega)).mono ?_;rintro e w5 ⟨AV,cv,AL,cl,V',L',D2,d2,rfl,aau,aav,hsup,hD2,hS2⟩;obtain rfl:=aV.same hD1 hD2;have hDb:=hl1;have zr:=hk1.size;have z4:=kk.size;have gl:=eg.lt;have pl:=ep.lt;have eg5:=eg.keep hS2.1 hg1;have ep5:=ep.keep hS2.1 hp1;have eE5:=eE.keep hS2.1 qD;have nb2:¬D2 be:=fun h=>(hS2.2 _ h).elim qD fun h=>by have:=eE.lt;omega
    have Nv:¬D2 g:=fun h=>(hS2.2 _ h).elim hg1 fun h=>by omega
    have np2:¬D2 w.heap.size:=fun h=>(hS2.2 _ h).elim hp1 fun h=>by omega
    have t0:=eg5.cell 0 rfl;have t1:=eg5.cell 1 rfl;have u0:=eg5.frozen 0;have u1:=eg5.frozen 1;have eg6:St ((w5.setCell ⟨g,0,none⟩ (.slice AV n cv)).setCell ⟨g,1,none⟩ (.slice AL n cl)) g 253 [.slice AV n cv,.slice AL n cl]:=(eg5.set 0 (.slice AV n cv)).set 1 (.slice AL n cl);have kg6:=((Keeps.refl (fun j=>j=g) w5).setCell (a:=⟨g,0,none⟩) (.inl rfl) (.slice AV n cv)).setCell (a:=⟨g,1,none⟩) (.inl rfl) (.slice AL n cl);have H6:=Y1 (show aV ((w5.setCell ⟨g,0,none⟩ (.slice AV n cv)).setCell ⟨g,1,none⟩ (.slice AL n cl)) D2 b room F1 d2∧St ((w5.setCell ⟨g,0,none⟩ (.slice AV n cv)).setCell ⟨g,1,none⟩ (.slice AL n cl)) g 253 [.slice AV n cv,.slice AL n cl]∧St ((w5.setCell ⟨g,0,none⟩ (.slice AV n cv)).setCell ⟨g,1,none⟩ (.slice AL n cl)) w.heap.size 24 [.int .i64 kd,.int .u32 (st:Nat)]∧
     St ((w5.setCell ⟨g,0,none⟩ (.slice AV n cv)).setCell ⟨g,1,none⟩ (.slice AL n cl)) be 111 (iD b bF (q+1+K) n s (K:Nat) kd st true)∧lZ ((w5.setCell ⟨g,0,none⟩ (.slice AV n cv)).setCell ⟨g,1,none⟩ (.slice AL n cl)) AV AL n cv cl V' L'∧(∀a,AV=some a∨AL=some a->¬D2 a.block∧w.heap.size<=a.block)∧
     Keeps (fun j=>D j∨j=be) w ((w5.setCell ⟨g,0,none⟩ (.slice AV n cv)).setCell ⟨g,1,none⟩ (.slice AL n cl))∧(∀j,D2 j->D j∨w.heap.size<=j)∧¬D2 be∧¬D2 g∧¬D2 w.heap.size∧d2<=c+16+16*K from
     ⟨hD2.keep kg6 fun j h e=>Nv (e▸h),eg6,ep5.keep kg6 fun e=>by omega,eE5.keep kg6 fun e=>by omega,aau.keep kg6 (aau.ne_of eg5),fun a ha=>⟨(aav a ha).2,by have:=(aav a ha).1;omega⟩,
      (((hk1.trans kk fun _ h=>h.elim).trans hS2.1 fun j h=>(hDb j h).imp .inl id).trans kg6 fun j e=>.inr (by omega)),fun j h=>(hS2.2 j h).elim (hDb j) fun h=>.inr (by omega),nb2,Nv,np2,hd1⟩)
    have HU:=Y1 hsup;refine hK2 _ _ trivial ?_;clear hK2 K2 hD1 hd1 hG1 hE1 qD hsg hsp hcf FJ hk1 hl1 hg1 hp1 hst hIs Kj hok hfl hR hP eE eg ep kk aau aav hsup hD2 hS2 hDb eg5 ep5 eE5 nb2 Nv np2 eg6 kg6 zr z4 gl pl hKm;refine aQ ?_
    repeat (refine aI (fun K2 hK2=>?_);go_simp;refine hK2 _ ?_;clear hK2 K2)
    refine au ?_
    go_wp2_with fail
    clear t0 t1 u0 u1;generalize (w5.setCell ⟨g,0,none⟩ (.slice AV n cv)).setCell ⟨g,1,none⟩ (.slice AL n cl)=w6 at*;have HR6:=Y1 (show ∀nn,St (w6.drewN nn) be 111 (iD b bF (q+1+K) n s (K:Nat) kd st true)∧St (w6.drewN nn) g 253 [.slice AV n cv,.slice AL n cl]∧St (w6.drewN nn) w.heap.size 24 [.int .i64 kd,.int .u32 (st:Nat)]∧Keeps (fun _=>False) w6 (w6.drewN nn)from fun nn=>by
     obtain⟨a1,a2,a3,a4,_⟩:=H6.out;have kk:=(Keeps.refl (fun _=>False) w6).drewN nn;exact⟨a4.keep kk id,a2.keep kk id,a3.keep kk id,kk⟩)
    have hwk:IntKind.i64.wrap ((K:Int)+1)=((K+1:Nat):Int):=by rw[IntWalk.i64_in _ (by omega)];omega
    refine gW (fun W=>∃nn,W=w6.drewN nn) 8 [0,2,3,4,5] [1,6,7,8] [9] [] [10] (by kernel_rfl) (fun _ _ x _ _ h=>by cases x<;>exact h) ⟨1,rfl⟩ (by kernel_rfl) ?_;simp only[aJ,ai,aq,af,ag]
    repeat (refine aI (fun K2 hK2=>?_);go_simp;refine hK2 _ ?_;clear hK2 K2)
    refine au ?_;refine ak (fun K2 hK2=>?_);go_simp;refine⟨.agg #[.int .i64 kd,.int .u32 (st:Nat)],fun _=>(by
     have h:St w6 w.heap.size 24 [.int .i64 kd,.int .u32 (st:Nat)]:=(HR6.out 0).2.2.1;simp[h.cell 0 rfl,h.cell 1 rfl,ar]),hK2 _ ?_⟩
    clear hK2 K2;refine ak (fun K2 hK2=>?_);go_simp;refine⟨.int .i64 (K:Nat),fun _=>(by have h:w6.cell? ⟨be,5,none⟩=some (.int .i64 (K:Nat)):=(HR6.out 0).1.cell 5 rfl;rw[h];rfl),hK2 _ ?_⟩;clear hK2 K2;refine ak (fun K2 hK2=>?_);go_simp;refine hK2 _ ?_;clear hK2 K2;refine ak (fun K2 hK2=>?_);go_simp;refine⟨.agg #[.slice AV n cv,.slice AL n cl],fun _=>(by
     have h:St w6 g 253 [.slice AV n cv,.slice AL n cl]:=(HR6.out 0).2.1;simp[h.cell 0 rfl,h.cell 1 rfl,ar]),hK2 _ ?_⟩
    clear hK2 K2;refine bD ?_;rintro _ ⟨nn2,rfl⟩;refine aH (fun K2 hK2=>?_);go_simp;obtain⟨hG1,hE1⟩:=And.intro H4.out.2.2.1 H4.out.2.2.2.1;obtain⟨hst,hIs,Kj⟩:=HS.out;obtain⟨hok,hfl,hR,hP⟩:=HC.out;obtain⟨hD2,-,-,VU,RD,RF,Br,RG,nb2,Nv,np2,hd2⟩:=H6.out;obtain⟨eE,eg,ep,kk⟩:=HR6.out nn2;have hKm:=HK.out;refine(Rz (at_:=K+1) (hD2.keep kk fun _ _=>id) eE nb2 ⟨by omega,by omega,hn,hs,hs2,.inr ⟨by omega,by omega,hP⟩⟩ (RD.keep kk fun _ _=>id) hn (by omega) hG1.sl hG1.sw (by omega) (by omega)).mono ?_;rintro e w7 ⟨rfl,D3,d3,l3,hl3,hD3,hd3,Sl,nb3,hk3,hlt3⟩;have ngb:g≠be:=by omega
    have npb:w.heap.size≠be:=by omega
    have zz:=Br.size;have zk:=kk.size;have gl:=eg.lt;have pl:=ep.lt;have H7:=Y1 (show ∃C',GoS w w7 D b be bF room n s (c+16) (q+1) st g w.heap.size kd Rs C' (K+1)∧(∀j,j<K+1->¬Still n (C' j).2)∧∀j,j<=K+1->I j (C' j).1 (C' j).2 from by
     refine⟨fun j=>if j=K+1 then(V',L')else C j,⟨D3,d3,_,AV,cv,AL,cl,hD3,by omega,((hG1.same (C':=fun j=>if j=K+1 then(V',L')else C j) fun j hj=>if_neg (by omega)).state (by omega) V' L' (if_pos rfl)).slot (by omega) l3,?_,nb3,eg.keep hk3 fun h=>h.elim Nv ngb,ep.keep hk3 fun h=>h.elim np2 npb,?_,fun a ha=>?_,(Br.trans kk fun _ h=>h.elim).trans hk3 fun j h=>?_,fun j h=>?_,fun h=>?_,fun h=>?_⟩,fun j hj=>?_,fun j hj=>?_⟩
     .rw[show q+1+(K+1)=q+1+K+1 by omega];exact Sl
     .simp only[if_true];refine(RD.keep kk fun _ _=>id).keep hk3 fun a ha h=>?_
      have:=RF a ha;rcases h with h|h
      .exact this.1 h
      .omega
     .have h1:=RF a ha;refine⟨fun h=>?_,h1.2⟩;rcases hlt3 _ h with h2|h2
      .exact h1.1 h2
      .have hb:a.block<w6.heap.size:=by
        rcases ha with rfl|rfl
        .exact bJ RD.v _ rfl
        .exact bJ RD.l _ rfl
       omega
     .rcases h with h|h
      .exact(RG j h).imp .inl id
      .exact .inl (.inr h)
     .rcases hlt3 j h with h|h
      .exact RG j h
      .exact .inr (by omega)
     .rcases hlt3 _ h with h|h
      .exact Nv h
      .omega
     .rcases hlt3 _ h with h|h
      .exact np2 h
      .omega
     .by_cases e:j=K
      .subst e;simp only[if_neg (show ¬j=j+1 by omega)];exact fun h=>by have:=Kj.2 h;cases this
      .simp only[if_neg (show ¬j=K+1 by omega)];exact hst j (by omega)
     .by_cases e:j=K+1
      .subst e;simp only[if_true];exact HI.out.step K _ _ _ _ (by omega) (hIs K (al _)) HU.out
      .simp only[if_neg e];exact hIs j (by omega))
    refine hK2 _ _ trivial ?_;clear hK2 K2 hG1 hE1 hst hIs Kj hok hfl hR hP hD2 VU RD RF Br RG nb2 Nv np2 hd2 eE eg ep kk hl3 hD3 hd3 Sl nb3 hk3 hlt3 ngb npb zz zk gl pl hwk;refine aQ (au ?_)
    go_wp2_with fail
    obtain⟨k2,hk2⟩:∃k2,k2+(K+1)=most:=⟨most-(K+1),by omega⟩
    go_roundg k2
    case measure=>omega
    case rel=>exact⟨K+1,hk2,rfl,H7⟩
  .clear hqw
   go_wp2_with fail
   go_ret;obtain⟨hD1,hd1,hG1,hE1,qD,hsg,hsp,hcf,FJ,hk1,hl1,hg1,hp1⟩:=H4.out;obtain⟨hst,hIs,Kj⟩:=HS.out;have:=HK.out;exact⟨rfl,K,C,D1,d1,F1,by omega,.inl (by omega),hst,hIs,hD1,hG1,hE1,qD,hk1,hl1⟩
end Go.Proofs.YtlhhcnknclnlaaaGreatDoor.Top
namespace Go.Proofs.YtlhhcnknclnlaaaGreatDoor.Top
open Go Go.WideShapes Go.RowKit Go.Proofs.YtlhhcnknclnlaaaGreatDoor.iH Go.Proofs.YtlhhcnknclnlaaaGreatDoor.Oct Go.Proofs.ah.aN Go.Proofs.ah.bA Go.Proofs.ah.dx
section
attribute [local go_sem] gM gN
theorem aaw{w:ao}{D:Nat->Prop}{b be bF room c q n s st st0 most:Nat}{kd Gc:Int}{F:Files}{Rs:List (List Ed)}{C0:Nat->List Int×List Bool}{I:Nat->List Int->List Bool->Prop}(hD:aV w D b room F c)(hE:St w be 111 (iD b bF q n s (-1) Gc st0 true))(hbe:¬D be)(hG:jw n Rs 0 C0 F)(hP:Mi kd st n)(hn:n<=12)(hR:Rs.length=s)(hs:1<=s)(hs2:s<=6)(hok:∀r∈Rs,∀e∈r,e.ok n)(hfl:Rs.flatten.length<=39)(hI:Rel n kd st (Rs.flatten.map uL) I)(hb:1<=bF)(hq:q+most+2<=100)(hm:most<=20)(hroom:c+16*(most+2)+200<=room)(hc0:c<60000):
 ba ab 165 #[.pointer (some ⟨be,0,none⟩),.agg #[.int .i64 kd,.int .u32 (st:Nat)],.int .i64 (most:Nat)] w fun e w'=>∃K C D' c' F',e=.returned (.tuple #[.int .i64 (K:Nat),.int .i64 0])∧K<=most∧(K=most∨Still n (C K).2)∧(∀j,j<K->¬Still n (C j).2)∧(∀j,j<=K->I j (C j).1 (C j).2)∧aV w' D' b room F' c'∧jw n Rs (K+1) C F'∧
  St w' be 111 (iD b bF (q+1+K) n s (K:Nat) kd st true)∧¬D' be∧Keeps (fun j=>D j∨j=be) w w'∧∀j,D' j->D j∨w.heap.size<=j:=by
 obtain⟨w1,hw1⟩:=ex (w.alloc (.cells #[.int .i64 kd,.int .u32 (st:Nat)] 24 (0,0)))
 have k1:Keeps (fun _=>False) w w1:=by rw[hw1];exact(Keeps.refl _ w).alloc _
 have s1:St w1 w.heap.size 24 [.int .i64 kd,.int .u32 (st:Nat)]:=by rw[hw1];exact St.new _ _ _
 have e1:=hE.keep k1 id;have c3:=e1.cell 3 rfl;have c5:=e1.cell 5 rfl;have c8:=e1.cell 8 rfl;have c9:=e1.cell 9 rfl;have H1:=Y4 k1 s1 e1 hE;have XC:∀W,_:=fun W=>fM.calls _ _ _ _ W (oq hP hn) ⟨rfl⟩
 have HRI:=Y1 XC;have HGO:=Y1 (fun (W:ao) (hk:Keeps (fun _=>False) w W)=>aat (kd:=kd) (st:=st) (hD.keep hk fun _ _=>id) (hE.keep hk id) hbe hG hP hn hR hs hs2 hok hfl hI hb hq hm hroom hc0);clear k1 s1 e1 XC hD hE hbe hG hP hR hok hfl hI;go_enter func165,ntmps165
 go_wp2_with fail
 rw[<-hw1];clear hw1
 go_quiet (fail)
 have HR:=Y1 (show ∀nn,St ((w1.drewN nq).drewN nn) be 111 (iD b bF q n s (-1) Gc st0 true)∧St ((w1.drewN nq).drewN nn) w.heap.size 24 [.int .i64 kd,.int .u32 (st:Nat)]∧Keeps (fun _=>False) w ((w1.drewN nq).drewN nn)from fun nn=>by
  obtain⟨k1,s1,e1,hE⟩:=H1.out;have kk:Keeps (fun _=>False) w1 ((w1.drewN nq).drewN nn):=((Keeps.refl _ w1).drewN nq).drewN nn;exact⟨e1.keep kk id,s1.keep kk id,k1.trans kk fun _ h=>h.elim⟩)
 have hbb:=H1.out.2.2.2.lt;clear c3 c5 c8 c9 H1;generalize w1.drewN nq=w2 at*
 go_wp2_with fail
 refine gW (fun W=>∃nn,W=w2.drewN nn) 8 [1,2,3,4] [0,5] [6] [] [7,8,9,10,11,12] (by kernel_rfl) (fun _ _ x _ _ h=>by cases x<;>exact h) ⟨1,rfl⟩ (by kernel_rfl) ?_;simp only[aJ,ai,aq,af,ag]
 repeat (refine aI (fun K hK=>?_);go_simp;refine hK _ ?_;clear hK K)
 refine au ?_;refine ak (fun K hK=>?_);go_simp;refine⟨.agg #[.int .i64 kd,.int .u32 (st:Nat)],fun _=>(by
  have h:St w2 w.heap.size 24 [.int .i64 kd,.int .u32 (st:Nat)]:=(HR.out 0).2.1;simp[h.cell 0 rfl,h.cell 1 rfl,ar]),hK _ ?_⟩
 clear hK K;refine ak (fun K hK=>?_);go_simp;refine⟨.int .i64 (n:Nat),fun _=>(by have h:w2.cell? ⟨be,3,none⟩=some (.int .i64 (n:Nat)):=(HR.out 0).1.cell 3 rfl;rw[h];rfl),hK _ ?_⟩;clear hK K;refine bD ?_;rintro _ ⟨nn,rfl⟩;refine aH (fun K hK=>?_);go_simp;refine(HRI.out _).mono ?_;rintro e w3 ⟨rfl,hb3⟩;refine hK _ _ trivial ?_;clear hK K;refine aQ (au ?_);obtain⟨e2,s2,k2⟩:=HR.out nn;have k3:Keeps (fun _=>False) (w2.drewN nn) w3:=Keeps.of_below hb3;have s3:=s2.keep k3 id;have KK:=Y1 (k2.trans k3 fun _ h=>h.elim);have p0:=s3.cell 0 rfl;have p1:=s3.cell 1 rfl;have z0:¬((most:Int)<0):=by omega
 clear e2 s2 k2 k3 s3 hb3
 go_wp2_with fail
 refine(HGO.out w3 KK.out).mono ?_;clear p0 p1 HGO;rintro e w4 ⟨rfl,K,C,D',c',F',hK,hend,hst,hIs,hD',hG',hE',nb',hk',hl'⟩;have c5:=hE'.cell 5 rfl;have hKm:¬((most:Int)<(K:Int)):=by omega
 have hmin:min (K:Int) (most:Int)=(K:Int):=Int.min_eq_left (by omega);have HZ:=Wo hK hend hst hIs hD' hG' hE' nb' hk' hl';clear hK hend hst hIs hD' hG' hE' nb' hk' hl'
 go_wp2_with fail
 go_ret2
 obtain⟨hK,hend,hst,hIs,hD',hG',hE',nb',hk',hl'⟩:=HZ.out;exact⟨K,C,D',c',F',rfl,hK,hend,hst,hIs,hD',hG',hE',nb',(KK.out.mono fun _ _ h=>h.elim).trans hk' fun _ h=>.inl h,fun j h=>(hl' j h).imp id fun h=>an KK.out.size h⟩
end
end Go.Proofs.YtlhhcnknclnlaaaGreatDoor.Top
namespace Go.Proofs.YtlhhcnknclnlaaaGreatDoor.Dec
open Go Go.WideShapes Go.RowKit Go.Proofs.YtlhhcnknclnlaaaGreatDoor.iH Go.Proofs.YtlhhcnknclnlaaaGreatDoor.Oct Go.Proofs.YtlhhcnknclnlaaaGreatDoor.HX Go.Proofs.ah.aN Go.Proofs.ah.bA Go.Proofs.ah.dx
section
attribute [local go_sem] Oper.semAt_some
attribute [local go_sem] gM gN kY lg
variable {D b c g n:Nat}{W w:ao}{c0 c1 p q u0 u1 v:cz}
theorem oF{t:Nat}(h:w.heap[g]? =some (.cells #[c0,c1] t (0,0))):w.cell? ⟨g,0,none⟩=some c0∧w.cell? ⟨g,1,none⟩=some c1:=⟨(ay h 0).trans rfl,(ay h 1).trans rfl⟩
theorem FK{t:Nat}{cs:Array cz}(h:w.heap[g]? =some (.cells cs t (0,0))):w.frozen? ⟨g,0,none⟩=false∧w.frozen? ⟨g,1,none⟩=false:=⟨aj h 0,aj h 1⟩
theorem VW{t:Nat}(h:w.heap[g]? =some (.cells #[c0,c1] t (0,0)))(v0 v1:cz):((w.setCell ⟨g,0,none⟩ v0).setCell ⟨g,1,none⟩ v1).heap[g]? =some (.cells #[v0,v1] t (0,0)):=iW (iW h 0 v0 rfl) 1 v1 rfl
theorem MI{w0:ao}{B:Nat}(h:cq B w0 w)(hg:B<=g)(v0 v1:cz):cq B w0 ((w.setCell ⟨g,0,none⟩ v0).setCell ⟨g,1,none⟩ v1):=(h.setCell hg _).setCell hg _
variable {A A1:Option dv}
theorem QN{l:List Int}(h:Kd.C (Kd.int .u8) w A l.length l)(hc:l.length<=c)(hb:Bytes l)(hl:l.length<=1000000)(hz:(all l).2.2=0):
 ba ab 199 #[.slice A l.length c] w fun e w'=>∃A' c',e=.returned (.tuple #[.slice A' (all l).1.length c',.int .i64 (all l).2.1,.int .i64 (all l).2.2])∧(all l).1.length<=c'∧Kd.C (Kd.slice 5 (Kd.int .u8)) w' A' (all l).1.length (all l).1∧cq w.heap.size w w':=by
 refine(gH.calls 2000000 _ _ l _ _ _ _ h hc (Ym hb hl 2000000 (by omega)) ⟨hz⟩).mono ?_;rintro e w3 ⟨v3,rfl,ho3,hb3⟩;obtain⟨A3,c3,rfl⟩:=Kd.SH ho3;have O3:=X9 (Kd.S_R ho3);exact⟨A3,c3,rfl,O3.2.1,O3.2.2,hb3⟩
theorem RH{l:List (List Int)}(h:Kd.C (Kd.slice 5 (Kd.int .u8)) w A l.length l)(hc:l.length<=c)(hl:l.flatten.length<=1000000):
 ba ab 131 #[.slice A l.length c] w fun e w'=>∃A' c',e=.returned (.slice A' l.flatten.length c')∧l.flatten.length<=c'∧Kd.C (Kd.int .u8) w' A' l.flatten.length l.flatten∧cq w.heap.size w w'∧∀ad,A'=some ad->w.heap.size<=ad.block:=by
 refine(aX.calls _ _ l _ _ h hc (if_pos (by omega))).mono ?_;rintro e w3 ⟨v3,rfl,ho3,hb3⟩;obtain⟨A3,c3,rfl⟩:=Kd.dV ho3;have O3:=X9 ho3;refine⟨A3,c3,rfl,O3.2.1,O3.2.2,hb3,fun ad e=>?_⟩;subst e;rcases Kd.BZ ho3 with h0|⟨k,h1,h2⟩
 .simp[bb]at h0
 .simp[bb]at h1;rw[h1];exact h2
theorem Kq{ad:dv}{body:List Int}{m i:Nat}(h:Kd.C (Kd.int .u8) w (some ad) body.length body)(hc:body.length<=c)(hm:body.length=9*m)(hi:i<m):
 ∃zs,zs.length=9∧(Bytes body->Bytes zs)∧Kd.C (Kd.int .u8) w (some (ad.add (9*i))) 9 zs∧num (zs.take 8)=(Xg body i).1∧∃y,w.cell? ((ad.add (9*i)).add 8)=some (.int .u8 y)∧(y==1)=(Xg body i).2:=by
 have hC:=Kd.aaT (lo:=9*i) (hi:=9*i+9) h (by omega) (by omega) hc;rw[if_neg (by omega),show(Kd.int .u8).sz=1 from rfl,Nat.mul_one]at hC;have hl:((body.take (9*i+9)).drop (9*i)).length=9:=by rw[List.length_drop,List.length_take];omega
 have hz:(body.take (9*i+9)).drop (9*i)=(body.drop (9*i)).take 9:=by rw[List.drop_take];congr 1;omega
 rw[hl]at hC;refine⟨_,hl,fun hb=>(hb.take _).drop _,hC,?_,body.getD (9*i+8) 0,?_,rfl⟩
 .rw[hz,List.take_take];rfl
 .obtain⟨ad',e,hcc⟩:=hC.2.2 (by omega);cases e;obtain⟨c',hcl,hk,hcell⟩:=hcc 8 _ (ae (by omega));have hk':c'=[.int .u8 ((body.take (9*i+9)).drop (9*i))[8]]:=hk;have:=hcell 0 (.int .u8 ((body.take (9*i+9)).drop (9*i))[8]) (by rw[hk'];rfl);rw[show(8:Nat)*(Kd.int .u8).sz+0=8 from rfl]at this;rw[this]
  congr 2
  rw[List.getElem_drop,List.getElem_take,aa,ae (by omega)];rfl
theorem cell_below{w':ao}{a:dv}(h:w.cell? a=some v)(hb:cq w.heap.size w w'):w'.cell? a=some v:=(hb.cell (ax w a h)).trans h
theorem VX{l:List Int}(h:Kd.C (Kd.int .u8) w A l.length l)(hc:l.length<=c){c1:Nat}(h1:Kd.C (Kd.int .u8) w A1 l.length l)(hc1:l.length<=c1)(hb:Bytes l):
 ba ab 48 #[.slice A l.length c,.slice A1 l.length c1] w fun e w'=>e=.returned (.bool true)∧∃m,w'=w.drewN m:=by
 have he:bytes_Equal.f l l=some true:=by
  unfold bytes_Equal.f
  congr 1
  rw[beq_self_eq_true]
 refine(bytes_Equal.calls _ _ l _ _ l _ _ h hc h1 hc1 he).mono ?_;rintro e w3 ⟨rfl,⟨m,rfl⟩⟩;exact⟨rfl,m,rfl⟩
variable {fn:Func}
theorem FL{P:Program}{p u v:Tmp}{ty:TypeId}(h:fn.results= #[.tmp u,.cell p ty,.tmp v])(tmps:Array cz)(w:ao)(g:Nat)(t:TypeId)(cs:Array cz)(fr:Nat×Nat)(d:TypeDesc)(hp:tmps.getD p undef=.pointer (some ⟨g,0,none⟩))(hg:w.heap[g]? =some (.cells cs t fr))(hu:P.underlying ty=some d)(hd:(match d with| .struct _| .array _ _=>true|_=>false)=true)(hi:(P.info? ty).map (·.size)=some cs.size):
 (results fn tmps).run P w=.ok (.tuple #[tmps.getD u undef,.agg cs,tmps.getD v undef]) w:=by
 have hp':tmps[p]?.getD undef=.pointer (some ⟨g,0,none⟩):=by simpa using hp
 simp[results,h,hp',asAddr,run_loadVar_row w g t ty cs fr d hg hu hd hi]
theorem RI(V:List Int)(L:List Bool)(k:Nat):∀j,j<=k->(Top.stx V L k).drop (9*j)=((cI k).drop j).flatMap (Top.Vz V L):=by
 intro j;unfold Top.stx;generalize cI k=r
 induction r generalizing j with
 |nil=>intro _;simp
 |cons x r ih=>
  intro hj;cases j with
  |zero=>simp
  |succ j=>
   rw[df,show 9*(j+1)=(Top.Vz V L x).length+9*j by rw[Top.y8];omega,List.drop_append,List.drop_succ_cons,<-ih j (by omega)];simp
variable {L:List Bool}{V:List Int}
theorem Kr{k j:Nat}(hj:j<k)(hv:0<=V.getD j 0∧V.getD j 0<18446744073709551616):Xg (Top.stx V L k) j=(V.getD j 0,L.getD j false):=by
 have hd:=RI V L k j (by omega);have hr:(cI k).drop j=j::(cI k).drop (j+1):=by
  rw[List.drop_eq_getElem_cons (by simpa using hj)];simp
 rw[hr,df]at hd;unfold Xg;have h8:(Top.stx V L k).getD (9*j+8) 0=if L.getD j false=true then 1 else 0:=by
  have:=congrArg (fun l=>l.getD 8 0) hd;simp only[aa,List.getElem?_drop]at this;rw[aa,this,Top.Vz,dg,List.getElem?_append_right (by simp[bB])];simp[bB]
 rw[h8,hd,Top.Vz,dg,take_left' (by simp[bB])];have hn:num (le 8 (V.getD j 0))=V.getD j 0:=by
  rw[sj,show(256:Int)^8=18446744073709551616 from rfl];omega
 rw[hn];cases L.getD j false<;>rfl
theorem RJ(hV:V.length=n)(hL:L.length=n)(hv:∀v,v<n->0<=V.getD v 0∧V.getD v 0<18446744073709551616):(CS (Top.stx V L n) n).map Prod.fst=V∧(CS (Top.stx V L n) n).map Prod.snd=L:=by
 constructor
 .apply dr
  .rw[bk,vZ,hV]
  .intro i h1 h2;have hi:i<n:=by omega
   simp only[CS,dt,bz,Kr hi (hv i hi)];rw[aa,ae h2];rfl
 .apply dr
  .rw[bk,vZ,hL]
  .intro i h1 h2;have hi:i<n:=by omega
   simp only[CS,dt,bz,Kr hi (hv i hi)];rw[aa,ae h2];rfl
theorem BJ(st:Nat)(V:List Int)(L:List Bool)(hn:n<=100):Pv (Top.kE st n V L):=by
 intro t ht;unfold Top.kE at ht;rcases dy.1 ht with rfl|ht
 .exact⟨Top.qB _ _,by rw[Top.kD];omega⟩
 .split at ht
  .cases ht
  .rw[List.mem_singleton.1 ht];exact⟨Top.vF _ _ _,by rw[Top.fZ];omega⟩
theorem I7(st:Nat)(V:List Int)(L:List Bool)(hn:n<=100):Bytes (Top.mP st n V L):=yx fun t ht=>((BJ st V L hn) t ht).1
theorem RL(st:Nat)(V:List Int)(L:List Bool)(hn:n<=100)(h0:n≠0):all (Top.mP st n V L)=([Top.iQ st n,Top.stx V L n],0,0):=by
 unfold Top.mP;rw[Py (BJ st V L hn)];unfold Top.kE;rw[if_neg h0]
theorem MJ(st n:Nat)(h1:st<100000000)(h2:n<100000000):num (((Top.iQ st n).drop (0:Int).toNat).take (8:Int).toNat)=(st:Int)∧num (((Top.iQ st n).drop (8:Int).toNat).take (8:Int).toNat)=(n:Int):=by
 unfold Top.iQ;constructor
 .rw[show(0:Int).toNat=0 from rfl,List.drop_zero,show(8:Int).toNat=8 from rfl,take_left' (by simp[bB]),sj,show(256:Int)^8=18446744073709551616 from rfl];omega
 .rw[show(8:Int).toNat=8 from rfl,drop_left' (by simp[bB]),List.take_of_length_le (by simp[bB]),sj,show(256:Int)^8=18446744073709551616 from rfl];omega
def oU.T19:Bool×List (List Nat×List Nat):=(true,[([],[]),([0],[0]),([],[]),([1,0,1],[1]),([2,3,0,1,2,3],[2]),([4,0,1,2,3,4],[])])
def oU.B19:List Nat:=[0,1,0,3,15,31]
theorem oU.adG:mh .any (opsOf du 19)=oU.T19:=by kernel_rfl
theorem oU.aax:qM oU.T19.2 oU.B19=true:=by kernel_rfl
def QM(fn:Func)(R:ek->ao->Prop):Exit->Act->ao->Prop
 | .normal,a,w| .ret,a,w=>LeavesInM cx 6 ab fn a.tmps R a.defers .returning w
 |_,_,_=>False
theorem QL{R:ek->ao->Prop}:∀e a w,QM fn R e a w->bodyPostM cx 6 ab fn R e a w
 | .normal,_,_,h=>h
 | .ret,_,_,h=>h
 | .panic _,_,_,h=>h.elim
 | .outgrown,_,_,h=>h.elim
theorem adH{R:ek->ao->Prop}{tmps:Array cz}(hbk:W.heap[g]? =some (.cells #[p,q] 253 (0,0)))(hD:W.heap[D]? =some (.deferred (some [])))(hgD:g<D)(hp:tmps.getD 3 undef=.pointer (some ⟨g,0,none⟩))(hR:R (.returned (.tuple #[tmps.getD 2 undef,.agg #[u0,u1],tmps.getD 4 undef])) (((W.setCell ⟨g,0,none⟩ u0).setCell ⟨g,1,none⟩ u1).putObj D (.deferred none))):
 QM du R .ret {tmps:=tmps,defers:=[{target:=.collected D,args:= #[]}]} ((W.setCell ⟨g,0,none⟩ u0).setCell ⟨g,1,none⟩ u1):=by
 have hD1:((W.setCell ⟨g,0,none⟩ u0).setCell ⟨g,1,none⟩ u1).heap[D]? =some (.deferred (some [])):=by
  rw[de _ _ _ _ (show D≠g by omega),de _ _ _ _ (show D≠g by omega)];exact hD
 refine⟨by simp,.inl ⟨D,_,rfl,run_takeDeferred hD1,?_⟩⟩;exact⟨_,FL rfl tmps _ g 253 #[u0,u1] (0,0) _ hp ((cW (show g≠D by omega)).trans (VW hbk u0 u1)) cH rfl (by kernel_rfl),hR⟩
variable {α:Type}
theorem XH{d:Kd α}{e n1:Nat}{xs:List α}(hbk:W.heap[g]? =some (.cells #[p,q] 253 (0,0)))(hD:W.heap[D]? =some (.deferred (some [])))(he:e≠253)(hE:d.E=[])(h:d.R e W n1 (fun _=>True) v xs):
 d.R e (((W.setCell ⟨g,0,none⟩ u0).setCell ⟨g,1,none⟩ u1).putObj D (.deferred none)) n1 (fun _=>True) v xs:=by
 have hne:=Kd.KG h hbk he;have ags:∀k,some D=some k->some k≠v.ownBlock:=by
  rintro k hk he;cases hk;obtain⟨c,hc⟩:=Kd.jR h D he.symm;rw[hc]at hD;cases hD
 have h1:=Kd.vJ (Kd.vJ (Kd.Oe h hE hne) (p:=⟨g,0,none⟩) (fun k hk=>hk.2) u0) (p:=⟨g,1,none⟩) (fun k hk=>hk.2) u1;exact Kd.iA (Kd.jT h1 hE (grownBy_putObj' _ D _) ags) (fun _ _=>trivial)
theorem MK{o:Obj}(h:cq n w W)(hg:n<=g)(hgD:g<D):cq n w (((W.setCell ⟨g,0,none⟩ u0).setCell ⟨g,1,none⟩ u1).putObj D o):=
 (MI h hg u0 u1).trans ⟨rfl,rfl,rfl,by simp,fun k hk=>cW (show k≠D by omega)⟩
theorem FM{c0 c1:Nat}{A0:Option dv}(hV:V.length=n)(hL:L.length=n)(h0:Kd.R (Kd.int .u64) 36 W b (fun _=>True) (.slice A0 n c0) V)(h1:Kd.R Kd.bool 4 W b (fun _=>True) (.slice A1 n c1) L):Top.lZ W A0 A1 n c0 c1 V L:=by
 have e0:=Kd.jQ h0;have e1:=Kd.jQ h1;rw[hV]at e0;rw[hL]at e1;exact⟨Top.own_base' e0 (eh _),Top.own_base' e1 (eh _)⟩
theorem zh{d:Kd α}{e:Nat}{xs:List α}(h:d.R e W b (fun _=>True) (.slice A n c) xs):∀a,A=some a->b<=a.block:=by
 rintro ad rfl;rcases Kd.BZ h with h0|⟨k,h1,h2⟩
 .simp[bb]at h0
 .simp[bb]at h1;rw[h1];exact h2
def XI(st n:Nat)(V:List Int)(L:List Bool)(w:ao)(e:ek)(w':ao):Prop:=∃A0 c0 A1 c1,e=.returned (.tuple #[.int .i64 (st:Nat),.agg #[.slice A0 n c0,.slice A1 n c1],.int .i64 0])∧Top.lZ w' A0 A1 n c0 c1 V L∧(∀a,A0=some a∨A1=some a->w.heap.size<=a.block)∧cq w.heap.size w w'
theorem ML{st:Nat}{l:List Int}(hls:l=Top.mP st n V L)(h:Kd.C (Kd.int .u8) w A l.length l)(hc:l.length<=c)(hn:n<=12)(hn0:n≠0)(hst:st<100)(hV:V.length=n)(hL:L.length=n)(hv:∀v,v<n->0<=V.getD v 0∧V.getD v 0<18446744073709551616):
 ba ab 183 #[.slice A l.length c] w (XI st n V L w):=by
 have hb:Bytes l:=by rw[hls];exact I7 st V L (by omega)
 have hlen:l.length<=1000:=by rw[hls];have:=(Top.qC st n V L).2;omega
 have hall:all l=([Top.iQ st n,Top.stx V L n],0,0):=by rw[hls];exact RL st V L (by omega) hn0
 have hAW:=fun (w1:ao) (h1:Kd.C (Kd.int .u8) w1 A l.length l)=>QN h1 hc hb (by omega) (by rw[hall])
 rw[hall]at hAW;have HAW:=Y1 hAW;have HHN:=Y1 (MJ st n (by omega) (by omega));have HHB:=Y1 (Top.qB st n);have HHL:=Y1 (Top.kD st n);have VY:=Y1 (Top.fZ V L n);have SBB:=Y1 (Top.vF V L n);have SVL:=Y1 (RJ hV hL hv);have HVL:=Y2 hV hL;have SEN:=Y1 (fun (w1:ao) (A1 A2:Option dv) (c1 c2:Nat) (h1:Top.lZ w1 A1 A2 n c1 c2 V L)=>Top.BH (st:=st) h1 (by omega) (by omega));rw[<-hls]at SEN;have HC:=Y1 h;have LC:=Y1 hc;have HBY:=Y1 hb;have HLE:=Y1 hlen;have HB:=Y1 (bt w.heap.size w);clear h hc hb hlen hall hAW hls hV hL hv;generalize Top.iQ st n=t0 at*;generalize Top.stx V L n=body at*;have e1:((0:Int) !=0)=false:=rfl;refine(cX (n:=6)).1 ?_;refine callsIn_of_wp_marks func183 rfl trivial ?_ rfl;refine wpIn_wide.2 ?_;refine wp_mono (Q:=QM du (XI st n V L w)) ?_ QL;simp only[ntmps183,cJ,cy,cE,Nat.reduceAdd,Nat.reduceSub,cA,cC,cM,cF,cY,cU]
 go_wp2_with (first|((with_reducible refine bP (N:=3) rfl ?_);refine bU ?hg (N:=3) ?hd (cs:= #[.slice none 0 0,.slice none 0 0]) (t:=253) ?hr ?_;(case hd=>rfl);(case hg=>rfl);(case hr=>first|(go_simp;done)|(go_simp;rfl));intro g hg w0 dz hb;have B0:=Y1 hb;have BK:=Y1 dz;clear hb dz;have GE:=Y1 (show w.heap.size<=g from by rw[hg];exact al _);clear hg)|((with_reducible refine bP (N:=5) rfl ?_);refine bU ?hg (N:=5) ?hd (cs:= #[.slice none 0 0,.slice none 0 0]) (t:=253) ?hr ?_;(case hd=>rfl);(case hg=>rfl);(case hr=>first|(go_simp;done)|(go_simp;rfl));intro C hg w00 dz hb;have B00:=Y1 hb;have BC:=Y1 dz;clear hb dz;have CE:=Y1 (show w0.heap.size<=C from by rw[hg];exact al _);clear hg))
 have B1:=Y1 (aU B0.out B00.out);have BK0:=Y1 (bT BK.out B00.out);have CE0:=Y2 (show g<C from az (jd BK.out) CE.out) (an (aC B0.out) CE.out);clear B0 B00 BK CE HB;refine(HAW.out _ (Kd.bM HC.out B1.out)).mono ?_;rintro e w1 ⟨A1,c1,rfl,hle1,OL,hb1⟩;have B1:=Y1 (aU B1.out hb1);have BK1:=Y1 (bT BK0.out hb1);have BC1:=Y1 (bT BC.out hb1);have T1:=Y2 hle1 OL;clear hle1 OL hb1 BK0 BC HAW;have two:([t0,body]:List (List Int)).length=2:=rfl;rw[two]at T1⊢;obtain⟨h0,h1⟩:=oF BC1.out;obtain⟨h2,h3⟩:=oF BK1.out;obtain⟨f0,f1⟩:=FK BK1.out;obtain⟨ad1,agt,_⟩:=T1.out.2.2.2 (by decide);subst agt;obtain⟨A2,c2,hrow,hle2,hC2⟩:=Top.Rm T1.out.2 (j:=0) (t:=t0) rfl;have hadd:ad1.add 0=ad1:=rfl;rw[hadd]at hrow;have T2:=Y2 hle2 hC2;clear hle2 hC2 hadd two;have n0:((2:Int)==0)=false:=rfl;have n16:((t0.length:Int)==16)=true:=by rw[HHL.out];rfl
 have n16':((t0.length:Int) !=16)=false:=by rw[HHL.out];rfl
 go_wp2_with fail
 refine(Top.JI T2.out.2 T2.out.1 HHB.out (a:=0) (s:=8) (by omega) (by omega) (by omega) (by have:=HHL.out;omega)).mono ?_;rintro e w2 ⟨rfl,hb2⟩;rw[HHN.out.1];have B2:=Y1 (aU B1.out hb2);have BK2:=Y1 (bT BK1.out hb2);have BC2:=Y1 (bT BC1.out hb2);have C2:=Y2 T2.out.1 (Kd.bM T2.out.2 hb2);have R2:=Y2 T1.out.1 (Kd.bM T1.out.2 hb2);have hrow2:=cell_below hrow hb2;clear h0 h1 h2 h3 f0 f1 hrow hb2 B1 BK1 BC1 T1 T2
 go_wp2_with fail
 refine(Top.JI C2.out.2 C2.out.1 HHB.out (a:=8) (s:=8) (by omega) (by omega) (by omega) (by have:=HHL.out;omega)).mono ?_;rintro e w3 ⟨rfl,hb3⟩;rw[HHN.out.2];have B3:=Y1 (aU B2.out hb3);have BK3:=Y1 (bT BK2.out hb3);have BC3:=Y1 (bT BC2.out hb3);have R3:=Y2 R2.out.1 (Kd.bM R2.out.2 hb3);obtain⟨q,A3,hq,hcut,hCq,hcq⟩:=S_ (P:=ab) 221 40 underlying221 Cm R3.out.2 R3.out.1 1 (by omega) (by simp);have hq':q=[body]:=hq;subst hq';simp only[cy,cE,Nat.reduceAdd,Nat.zero_add]at hcut hCq hcq;clear hrow2 hb3 B2 BK2 BC2 C2 R2 hq;have CQ:=Y2 hcq hCq;clear hcq hCq
 go_wp2_with fail
 refine(RH (l:=[body]) CQ.out.2 CQ.out.1 (by have:=VY.out;simp;omega)).mono ?_;have hfl:[body].flatten=body:=by simp
 rw[hfl];rintro e w4 ⟨A4,c4,rfl,adI,Xq,hb4,adJ⟩;have NE4:=Y1 (show ∀ad,A4=some ad->ad.block≠C from fun ad e=>by have:=adJ ad e;have:=jd BC3.out;omega);have B4:=Y1 (aU B3.out hb4);have BK4:=Y1 (bT BK3.out hb4);have BC4:=Y1 (bT BC3.out hb4);have C4:=Y2 adI Xq;clear hcut adI Xq hb4 adJ B3 BK3 BC3 R3 CQ hfl;have hm:((n:Nat):Int)=(n:Int):=rfl;have d1:decide ((9223372036854775807:Int)<(st:Int))=false:=decide_eq_false (by omega);have d2:decide (1048576<(n:Int))=false:=decide_eq_false (by omega);have hw:IntKind.u64.wrap (body.length:Int)=(n:Int)*9:=(Tj (by have:=VY.out;omega)).trans (by have:=VY.out;omega);have hw2:IntKind.u64.wrap ((n:Int)*9)=(n:Int)*9:=u64_in (by omega) (by omega);have d3:((n:Int)*9==(n:Int)*9)=true:=beq_self_eq_true _;have d4:((n:Int)*9 !=(n:Int)*9)=false:=by simp
 go_wp2_with fail
 refine(cX (n:=5)).1 ?_;refine(CP.chunk 5 A4 body.length c4 w4).mono ?_;rintro e w5 ⟨rfl,rQ⟩;have hb5:cq w4.heap.size w4 w5:=by rw[rQ];exact((bt _ w4).alloc (al _) _).alloc (by simp) _
 have hs5:w5.heap.size=w4.heap.size+2:=by rw[rQ];simp
 have pI:w5.cell? ⟨w4.heap.size,0,none⟩=some (.slice A4 body.length c4):=by rw[rQ];exact((Boxed.new w4 40 (.slice A4 body.length c4)).alloc _).cell
 have Sb:w5.cell? ⟨w4.heap.size+1,0,none⟩=some (.int .i64 9):=by
  have:=(Boxed.new (w4.alloc (.cells #[.slice A4 body.length c4] 40)) 3 (.int .i64 9)).cell;rw[dq]at this;rw[rQ];exact this
 have B5:=Y1 (aU B4.out hb5);have BK5:=Y1 (bT BK4.out hb5);have BC5:=Y1 (bT BC4.out hb5);have C5:=Y2 C4.out.1 (Kd.bM C4.out.2 hb5);have KS:=Y2 pI Sb;have S5:=Y1 hs5;have CN:=Y1 (jd BC4.out);generalize w4.heap.size=n4 at*;clear hb5 hs5 pI Sb rQ B4 BK4 BC4 C4
 go_wp2
 refine(wpIn_wide (n:=5)).1 ?_;refine wpIn_rangeFunc_ownG (F:=cx) rfl (by decide) (gf:=228) (lb:= #[.pointer (some ⟨n4,0,none⟩),.pointer (some ⟨n4+1,0,none⟩)]) rfl trivial (enters_of func228 (by kernel_rfl) rfl)
  (CP.stops (5-1) (by decide) n4 (n4+1) w.heap.size c4 n A4 body w5 (by have:=S5.out;omega) (by have:=S5.out;omega) (by have:=VY.out;omega) VY.out C5.out.1 KS.out.1 KS.out.2 C5.out.2) CP.Cn (CP.OX (aC B5.out)) (bt _ _) (fun _=>rfl)
  (Dec.Uu w5.heap.size C w5 body n) (fun _ _ _=>False) (Dec.Qh (jd BC5.out) (al _)) (fun _ _ _ _ _ hs _ _=>hs) (Dec.Ic BC5.out) ?a1 ?assign ?body ?done ?stop
 case assign=>
  intro l1 x1 W1 K1 hK1
  gi_wp2
  exact hK1
 case body=>
  rintro l2 pre x2 W2 ⟨v0,v1,hbx,hr0,hr1,hsk⟩ hpre;have hm0:0<n:=by have:=x2.2;omega
  obtain⟨ad4,agu,_⟩:=C5.out.2.2.2 (by have:=VY.out;omega);subst agu;have hC2:=Kd.Am (g:=C) (fun h=>h) C5.out.2 (fun ad e _=>NE4.out ad e) W2 ⟨hsk.size,fun k hk hne _=>hsk.block k hk hne⟩;obtain⟨zs,hz9,hzb,hzC,hz1,y,hy8,hy1⟩:=Kq hC2 C5.out.1 VY.out x2.2;have hg:=Top.JI (l:=zs) (c:=9) (w:=W2) (by rw[hz9];exact hzC) (by omega) (hzb SBB.out) (a:=0) (s:=8) (by omega) (by omega) (by omega) (by omega);rw[hz9]at hg;have G:=Y1 hg;have HR:=Y2 hr0 hr1;have HX:=Y1 hbx;have HSK:=Y1 hsk;have HY:=Y1 hy8;have HZ:=Y2 hz1 hy1;obtain⟨_,_,_,_,_,y5,hy5,_⟩:=Kq C5.out.2 C5.out.1 VY.out x2.2;have HBK:=Y1 (show(ad4.add (9*x2.1)).block<w5.heap.size from by
   have:=ax w5 _ hy5;rwa [add_block]at this)
  clear hy5;clear hg hr0 hr1 hbx hsk hy8 hz1 hy1 hC2 hzC
  gi_wp2_with (refine⟨trivial,?_⟩;gi_at_call 94;refine((cX.2 G.out).inRound l2).mono ?_;rintro e w6 ⟨rfl,hb6⟩)
  have hsz:=HSK.out.size;have hpl:pre.length<=8000:=by have:=VY.out;omega
  refine Dec.Lu (fn:=du) (k:=15) (f:=17) (S:=cq w5.heap.size w6) (ds:=[14,16]) (by kernel_rfl) (by kernel_rfl) (by kernel_rfl) (by kernel_rfl) ?hL (by kernel_rfl) ⟨rfl,rfl,rfl,al _,fun _ _=>rfl⟩
   (oU.grow (n1:=w5.heap.size) (C:=C) (W:=w6) ?hP (by have:=hb6.size;omega) (jd BC5.out) (bT HX.out hb6) HBK.out (cell_below HY.out hb6) (Kd.eu HR.out.1 hb6) (Kd.eu HR.out.2 hb6) (by simp only[bk];omega) (by simp only[bk];omega) ?hQ)
  case hL=>rintro⟨_,_,h⟩;exact h
  case hP=>intro _ _ _ _ h;exact h
  case hQ=>
   intro a' W' u0 u1 agv agw hr1' hst;have d_:=(Dec.Stp.Lv hb6 hsz (C:=C)).trans hst;change KeepsFrom w5.heap.size W2 W'∧CP.Kp w.heap.size n4 (n4+1) W2 W'∧Dec.Uu w5.heap.size C w5 body n (pre++[x2]) W';refine⟨d_.others.from _,⟨(Dec.nI.Qg d_).below (aC B5.out) CE0.out.2,fun v hv=>?_,fun v hv=>?_⟩,⟨u0,u1,agv,?_,?_,HSK.out.trans (Dec.nI.Qg d_)⟩⟩
   .rw[<-hv];exact c_ (d_.block _ (show _<w5.heap.size by have:=S5.out;dsimp only;omega) (by have:=CN.out;dsimp only;omega))
   .rw[<-hv];exact c_ (d_.block _ (show _<w5.heap.size by have:=S5.out;dsimp only;omega) (by have:=CN.out;dsimp only;omega))
   .simp only[cD,cN,dT];rw[<-HZ.out.1];exact agw
   .simp only[cD,cN,dT];rw[<-HZ.out.2];exact hr1'
 case stop=>
  rintro D c1 pre W1 _ _ h _;exact h.elim
 case done=>
  rintro D xs W6 hD rfl ⟨v0,v1,hbx,hr0,hr1,hsk⟩ hK;rw[Dec.Lx]at hr0 hr1;have B6:=Y1 (B5.out.trans (hsk.below (aC B5.out) CE0.out.2));have BK6:=Y1 ((hsk.block g (jd BK5.out) (by have:=CE0.out;omega)).trans BK5.out);have B5':=Y1 (And.intro B5.out trivial).1;have GD:=Y2 (show g<D from az (jd BK5.out) hD) trivial;clear hsk B5 BK5 BC5 C5 KS S5 CN NE4 SBB;rw[SVL.out.1]at hr0;rw[SVL.out.2]at hr1;obtain⟨A6,c6,rfl⟩:=Kd.dV hr0;obtain⟨A7,c7,rfl⟩:=Kd.dV hr1;rw[HVL.out.1]at hr0 hbx;rw[HVL.out.2]at hr1 hbx;have CF:=Y1 (FM HVL.out.1 HVL.out.2 hr0 hr1);have R0:=Y1 hr0;have R1:=Y1 hr1;have BC6:=Y1 hbx;have DK:=Y1 hK;have E6:=Y1 (SEN.out W6 A6 A7 c6 c7 CF.out);have hw3:IntKind.i64.wrap (st:Int)=(st:Int):=IntWalk.i64_in _ (by omega);obtain⟨h0,h1⟩:=oF hbx;clear hr0 hr1 hbx hK hD CF SEN SVL
  go_wp2_with fail
  refine E6.out.mono ?_;rintro e w7 ⟨A8,c8,rfl,hR8,Mv⟩;have adK:=hR8.cap;have Jy:=hR8.C;have B7:=Y1 (aU B6.out Mv);have BK7:=Y1 (bT BK6.out Mv);have BC7:=Y1 (bT BC6.out Mv);have DK7:=Y1 (bT DK.out Mv);have R07:=Y1 (Kd.eu R0.out Mv);have R17:=Y1 (Kd.eu R1.out Mv);have C8:=Y2 adK Jy;have C9:=Y1 (Kd.bM HC.out B7.out);have e0:((0:Int) !=0)=false:=rfl;clear adK Jy hR8 Mv B6 BK6 BC6 DK R0 R1 h0 h1 E6
  go_wp2_with fail
  refine(VX C8.out.2 C8.out.1 C9.out LC.out HBY.out).mono ?_;rintro e w8 ⟨rfl,m8,rfl⟩;have BC8:=Y1 (qG BC7.out m8);have BK8:=Y1 (qG BK7.out m8);have DK8:=Y1 (qG DK7.out m8);have R08:=Y1 (Kd.BS R07.out m8);have R18:=Y1 (Kd.BS R17.out m8);have B8:=Y1 (aZ B7.out m8);obtain⟨h2,h3⟩:=oF BK8.out;obtain⟨f0,f1⟩:=FK BK8.out;generalize w7.drewN m8=w8 at*;clear BC7 BK7 DK7 R07 R17 B7 C8 C9
  go_wp2
  refine XU (n:=6) (S:=fun w'=>cq w8.heap.size w8 w') (ds:=[4]) #[false,false,false,false,false,false] (by kernel_rfl) rfl rfl (xH (bt _ _)) (fun hHeld=>?_);refine Aj oU.adG oU.aax (fun sH HW_=>?_);refine mU (i:=0) (N:=some 111) (v:=?_) (a':=?_) #[true,false,false,false,false,false] rfl rfl (jU sH.out (by kernel_rfl)) (fun _ _ _ h=>h) (dd ⟨by rfl,?_⟩) ?_ ?_
  rotate_left
  .intro w';go_simp
   with_reducible rfl
  rotate_left
  .simp only[Act.put,aw,aE,a_,gK];rfl
  refine mU (i:=1) (N:=some 112) (v:=?_) (a':=?_) #[true,true,false,false,false,false] rfl rfl (jU sH.out (by kernel_rfl)) (fun _ _ _ h=>h) (dd ⟨by rfl,?_⟩) ?_ ?_
  rotate_left
  .intro w';go_simp
   with_reducible rfl
  rotate_left
  .simp only[Act.put,aw,aE,a_,gK];rfl
  refine vH (i:=2) (N:=some 113) (v:=?_) (a':=?_) #[true,true,true,false,false,false] rfl rfl (tN sH.out HW_.out (by kernel_rfl)) (fun _ _ _ h=>h) (dd ⟨by rfl,?_⟩) hHeld ?_ ?_
  rotate_left
  .rintro w' s0;have⟨b0,b1⟩:=oF (bT BC8.out s0);go_simp
   (try with_reducible rfl)
  rotate_left
  .simp only[Act.put,aw,aE,a_,gK];rfl
  refine mU (i:=3) (N:=some 2) (v:=?_) (a':=?_) #[true,true,true,true,false,false] rfl rfl (jU sH.out (by kernel_rfl)) (fun _ _ _ h=>h) (dd ⟨by rfl,?_⟩) ?_ ?_
  rotate_left
  .intro w';go_simp
   with_reducible rfl
  rotate_left
  .simp only[Act.put,aw,aE,a_,gK];rfl
  refine N7 (i:=4) (N:=none) #[true,true,true,true,true,false] rfl rfl (pY sH.out (by kernel_rfl)) (by decide) (fun K hK=>?_);refine N8 (w1:=(w8.drew.setCell ⟨g,0,none⟩ (.slice A6 n c6)).setCell ⟨g,1,none⟩ (.slice A7 n c7)) (by rfl) rfl ?_ ?_
  .go_simp
   done
  refine hK.out _ _ ?_;clear hK K hHeld;refine mU (i:=5) (N:=some 4) (v:=?_) (a':=?_) #[true,true,true,true,true,true] rfl rfl (jU sH.out (by kernel_rfl)) (fun _ _ _ h=>h) (dd ⟨by rfl,?_⟩) ?_ ?_
  rotate_left
  .intro w';go_simp
   with_reducible rfl
  rotate_left
  .simp only[Act.put,aw,aE,a_,gK];rfl
  refine Wu (Ji sH.out (by kernel_rfl)) ?_
  go_wp2
  refine adH (pV BK8.out) DK8.out GD.out.1 rfl ?_;have F0:=XH (u0:=.slice A6 n c6) (u1:=.slice A7 n c7) (pV BK8.out) (pV DK8.out) (by decide) rfl (Kd.NC R08.out);have F1:=XH (u0:=.slice A6 n c6) (u1:=.slice A7 n c7) (pV BK8.out) (pV DK8.out) (by decide) rfl (Kd.NC R18.out);exact⟨A6,c6,A7,c7,rfl,FM HVL.out.1 HVL.out.2 F0 F1,fun a h=>an (aC B5'.out) (h.elim (zh F0 a) (zh F1 a)),MK (aZ B8.out 1) GE.out GD.out.1⟩
end
end Go.Proofs.YtlhhcnknclnlaaaGreatDoor.Dec
namespace Go.Proofs.YtlhhcnknclnlaaaGreatDoor.Top
open Go Go.WideShapes Go.RowKit Go.Proofs.YtlhhcnknclnlaaaGreatDoor.iH Go.Proofs.YtlhhcnknclnlaaaGreatDoor.Oct Go.Proofs.ah.aN Go.Proofs.ah.bA
def cf0:List cz:=[.slice none 0 0,.slice none 0 0]
theorem VZ{w:ao}{D:Nat->Prop}{b room c st n:Nat}{F:Files}{V:List Int}{L:List Bool}(hD:aV w D b room F c)(hx:F (zy st)=some (mP st n V L))(hst:st<100)(hn:n<=12)(hn0:n≠0)(hV:V.length=n)(hL:L.length=n)(hv:∀v,v<n->0<=V.getD v 0∧V.getD v 0<18446744073709551616):
 ba ab 174 #[.pointer (some ⟨b,0,none⟩),.int .i64 (st:Nat)] w fun e w'=>∃A1 c1 A2 c2,e=.returned (.tuple #[.agg #[.slice A1 n c1,.slice A2 n c2],.int .i64 0])∧lZ w' A1 A2 n c1 c2 V L∧(∀a,A1=some a∨A2=some a->w.heap.size<=a.block)∧aV w' D b room F c∧Stp D D w w':=by
 obtain⟨w1,hw1⟩:=ex (w.alloc (.cells #[.slice none 0 0,.slice none 0 0] 253 (0,0)))
 have k1:Keeps (fun _=>False) w w1:=by rw[hw1];exact(Keeps.refl _ w).alloc _
 have s1:St w1 w.heap.size 253 cf0:=by rw[hw1];exact St.new _ _ _
 have hDl:∀j,D j->j<w.heap.size:=fun j h=>hD.lt h
 have hit:=qy w1 st hst;have hsz:=xC st;have hs6:IX.size=6:=rfl;have IV:=fun W=>lu IX (itoa st) (by omega) W
 obtain⟨l,hl⟩:=ex (mP st n V L)
 rw[<-hl]at hx;have hpos:0<l.length:=by rw[hl];have:=(qC st n V L).1;omega
 have hrd:=Rq (hD.keep k1 fun _ _=>id) (IX++itoa st) (by rw[ByteArray.size_append];unfold maxLen;omega) hx hpos;have hsd:=fun (W:ao) (A:Option dv) (cc:Nat) (h:Kd.C (Kd.int .u8) W A l.length l) (hc:l.length<=cc)=>Dec.ML (w:=W) (A:=A) (c:=cc) hl h hc hn hn0 hst hV hL hv
 have H1:=Y4 s1 k1 hDl hsd;clear s1 k1 hDl hsd hD hx hl hpos hsz hs6 hV hL hv;go_enter func174,ntmps174;have Ru:=Y1 (show({data:= #[115,116,97,116,101,46]}:ByteArray)=IX from rfl)
 go_wp2_with fail
 rw[<-hw1];clear hw1;refine hit.mono ?_;clear hit;rintro e w3 ⟨rfl,rfl⟩;rw[<-Ru.out]at IV hrd
 go_wp2_with fail
 refine hrd.mono ?_;clear hrd IV;rintro e w4 ⟨A,c',rfl,hro,hD4,hs4⟩;have hC:Kd.C (Kd.int .u8) w4 A l.length l:=Kd.dP (d:=(0:Int)) (gD hro);have hcc:=wR hro;have hsd:=H1.out.2.2.2 w4 A c' hC hcc;have H4:=Y2 hD4 hs4;clear hro hD4 hs4 hC hcc
 go_wp2_with fail
 refine hsd.mono ?_;clear hsd;rintro e w5 ⟨A1,c1,A2,c2,rfl,hcf,hfr,hb5⟩;obtain⟨s1,k1,hDl,_⟩:=H1.out;obtain⟨hD4,hs4⟩:=H4.out;have k5:Keeps (fun _=>False) w4 w5:=Keeps.of_below hb5;have hlt1:=s1.lt;have s5:=(s1.keep hs4.1 fun h=>absurd (hDl _ h) (da _)).keep k5 id;have n5:=St.new w5 253 #[.slice A1 n c1,.slice A2 n c2];have a5:=s5.alloc (.cells #[.slice A1 n c1,.slice A2 n c2] 253 (0,0));have q0:=n5.cell 0 rfl;have q1:=n5.cell 1 rfl;have p0:=n5.frozen 0;have p1:=n5.frozen 1;have t0:=a5.cell 0 rfl;have t1:=a5.cell 1 rfl;have u0:=a5.frozen 0;have u1:=a5.frozen 1;have z4:=hs4.1.size;have z5:=k5.size;have hne:w.heap.size≠w5.heap.size:=by omega
 have H5:=Y6 hcf hfr k5 s5 z4 z5;clear hcf hfr hb5 s1 k1 hDl hD4 hs4 k5 s5 n5 a5 hlt1 z4 z5
 go_wp2_with fail
 obtain⟨hcf,hfr,k5,s5,z4,z5⟩:=H5.out;obtain⟨s1,k1,hDl,_⟩:=H1.out;obtain⟨hD4,hs4⟩:=H4.out;have k6:Keeps (fun _=>False) w5 (w5.alloc (.cells #[.slice A1 n c1,.slice A2 n c2] 253 (0,0))):=(Keeps.refl _ w5).alloc _;have s6:=((s5.keep k6 id).set 0 (.slice A1 n c1)).set 1 (.slice A2 n c2);have K7:=((Keeps.refl (fun j=>j=w.heap.size) (w5.alloc (.cells #[.slice A1 n c1,.slice A2 n c2] 253 (0,0)))).setCell (a:=⟨w.heap.size,0,none⟩) (.inl rfl) (.slice A1 n c1)).setCell (a:=⟨w.heap.size,1,none⟩) (.inl rfl) (.slice A2 n c2);have zz:=az s1.lt hs4.1.size;have K8:=((k1.mono fun _ _ h=>h.elim).trans hs4.1 fun _ h=>.inl h).trans k5 fun _ h=>h.elim
 refine bodyPost_ret (dX rfl _ _ w.heap.size 253 #[.slice A1 n c1,.slice A2 n c2] (0,0) _ rfl s6 cH rfl (by kernel_rfl)) rfl ?_;refine⟨A1,c1,A2,c2,rfl,(hcf.keep k6 fun _ _=>id).keep K7 fun a ha e=>?_,fun a ha=>an (Nat.le_of_lt zz) (hfr a ha),((hD4.keep k5 fun _ _=>id).keep k6 fun _ _=>id).keep K7 fun j h e=>?_,⟨(K8.trans k6 fun _ h=>h.elim).trans K7 fun j e=>.inr (by omega),fun j h=>.inl h⟩⟩
 .have:=hfr a ha;omega
 .have:=hDl j h;omega
end Go.Proofs.YtlhhcnknclnlaaaGreatDoor.Top
namespace Go.Proofs.YtlhhcnknclnlaaaGreatDoor.Top
open Go Go.WideShapes Go.RowKit Go.Proofs.YtlhhcnknclnlaaaGreatDoor.iH Go.Proofs.YtlhhcnknclnlaaaGreatDoor.Oct Go.Proofs.ah.aN Go.Proofs.ah.bA Go.Proofs.ah.dx
theorem V3{w:ao}{D:Nat->Prop}{b be bF room c q n s st K at_ v:Nat}{kd:Int}{F:Files}{V:List Int}{L:List Bool}(hD:aV w D b room F c)(hE:St w be 111 (iD b bF q n s (K:Nat) kd st true))(hbe:¬D be)(hF:F (zy at_)=some (mP at_ n V L))(hat:at_<=K)(hK:K<100)(hv:v<n)(hn:n<=12)(hV:V.length=n)(hL:L.length=n)(hr:∀v,v<n->0<=V.getD v 0∧V.getD v 0<18446744073709551616):
 ba ab 167 #[.pointer (some ⟨be,0,none⟩),.int .i64 (at_:Nat),.int .i64 (v:Nat)] w fun e w'=>e=.returned (.tuple #[.int .u64 (V.getD v 0),.bool (L.getD v false),.int .i64 0])∧aV w' D b room F c∧St w' be 111 (iD b bF q n s (K:Nat) kd st true)∧Keeps D w w':=by
 have c0:=hE.cell 0 rfl;have c3:=hE.cell 3 rfl;have c5:=hE.cell 5 rfl;have c8:=hE.cell 8 rfl;have c9:=hE.cell 9 rfl;have hst:=VZ hD hF (by omega) hn (by omega) hV hL hr;have H1:=Y5 hD hE hbe hV hL;have z0:¬((K:Int)<0):=by omega
 have z1:¬((at_:Int)<0):=by omega
 have z2:¬((K:Int)<(at_:Int)):=by omega
 have z3:¬((v:Int)<0):=by omega
 have z4:¬((n:Int)<=(v:Int)):=by omega
 clear hD hE hbe hF hV hL hr hat hK;go_enter func167,ntmps167
 go_wp2_with fail
 refine hst.mono ?_;clear hst c0 c3 c5 c8 c9;rintro e w2 ⟨A1,c1,A2,c2,rfl,hcf,hfr,hD2,hS2⟩;have H2:=Y4 hcf hfr hD2 hS2;clear hcf hfr hD2 hS2
 go_wp2_with fail
 have hne:0<n:=by omega
 obtain⟨gv,gl,rfl,rfl⟩:=H2.out.1.ends hne;have k3:Keeps (fun _=>False) w2 (w2.alloc (.cells #[.slice (some ⟨gv,0,none⟩) n c1,.slice (some ⟨gl,0,none⟩) n c2] 253 (0,0))):=(Keeps.refl _ w2).alloc _;obtain⟨x1,x2,-,-⟩:=(H2.out.1.keep k3 fun _ _=>id).spot hv;have n3:=St.new w2 253 #[.slice (some ⟨gv,0,none⟩) n c1,.slice (some ⟨gl,0,none⟩) n c2];have t0:=n3.cell 0 rfl;have t1:=n3.cell 1 rfl;have K3:=Y1 k3;have hlt:(v:Int)<(n:Int):=by omega
 clear k3 n3;generalize hw3:w2.alloc (.cells #[.slice (some ⟨gv,0,none⟩) n c1,.slice (some ⟨gl,0,none⟩) n c2] 253 (0,0))=w3 at*;clear hw3
 go_quiet (fail)
 go_wp2_with fail
 go_ret3
 obtain⟨hD,hE,hbe,hV,hL⟩:=H1.out;obtain⟨hcf,hfr,hD2,hS2⟩:=H2.out;have kk:=K3.out.drewN nq;exact⟨rfl,hD2.keep kk fun _ _=>id,(hE.keep hS2.1 hbe).keep kk id,hS2.1.trans kk fun _ h=>h.elim⟩
end Go.Proofs.YtlhhcnknclnlaaaGreatDoor.Top
namespace Go.Proofs.YtlhhcnknclnlaaaGreatDoor.Top
open Go Go.WideShapes Go.RowKit Go.Proofs.YtlhhcnknclnlaaaGreatDoor.iH Go.Proofs.YtlhhcnknclnlaaaGreatDoor.Oct Go.Proofs.ah.aN Go.Proofs.ah.bA
def ed(e:jB):Ed:=⟨e.f0.toNat,e.f1.toNat,e.f2.toNat⟩
variable {n:Nat}
theorem Kt{e:jB}(h:Ls (n:Int) e):(ed e).ok n:=by
 obtain⟨⟨h1,h2⟩,⟨h3,h4⟩,h5,h6⟩:=h;unfold Ed.ok ed;dsimp only;omega
variable {w:ao}
theorem BL{a:dv}{v:cz}(h:w.cell? a=some v):a.spot=none:=by
 obtain⟨_,_,_,_,hs⟩:=World.shape?_of_cell? h;exact hs
theorem zi(g o i:Nat):(⟨g,o,none⟩:dv).add i=⟨g,o+i,none⟩:=by unfold Addr.add;split<;>simp_all
variable {A:Option dv}{es:List jB}
theorem FN(h:Kd.C pR w A es.length es)(he:∀e∈es,Ls (n:Int) e):jq w.heap.size w A (es.map ed):=by
 intro k e hk;rw[cd]at hk;obtain⟨x,hx,rfl⟩:=cm.1 hk;have hkl:=(bj.1 hx).1;obtain⟨ad,rfl,z1,_⟩:=lJ h 0 (by omega) (by omega);have hs:=BL z1;obtain⟨g,o,s⟩:=ad;have hs':s=none:=hs;subst hs';obtain⟨_,e,h1,h2,h3⟩:=lJ h (k:Int) (by omega) (by omega);injection e with e;subst e;have hr:bE es (k:Int)=x:=by unfold bE;rw[di,aa,hx];rfl
 rw[hr]at h1 h2 h3;rw[di]at h1 h2 h3;obtain⟨⟨a0,a1⟩,⟨b0,b1⟩,c0,c1⟩:=he x (List.mem_of_getElem? hx);rw[zi]at h1 h2 h3;refine⟨g,o,rfl,ax w _ h1,?_,?_,?_⟩
 .show _=some (dC .u32 ((x.f0.toNat:Nat):Int));rw[cG a0];exact h1
 .show _=some (dC .u32 ((x.f1.toNat:Nat):Int));rw[cG b0];exact h2
 .show _=some (dC .u32 ((x.f2.toNat:Nat):Int));rw[cG c0];exact h3
theorem MN{c m:Nat}{l:List Int}(h:Kd.C (Kd.int .u8) w A l.length l)(hc:l.length<=c)(hl:l=kG (n:Int) es)(hn:n<=1048576)(hm:es.length=m)(hm2:m<=1000)(he:∀e∈es,Ls (n:Int) e):
 ba ab 169 #[.slice A l.length c] w fun e w'=>∃A' c',e=.returned (.tuple #[.agg #[.int .i64 (n:Nat),.slice A' m c'],.int .i64 0,.int .i64 0])∧jq w'.heap.size w' A' (es.map ed)∧(∀g o,A'=some ⟨g,o,none⟩->w.heap.size<=g∧g<w'.heap.size)∧cq w.heap.size w w':=by
 subst hm;refine(dJ.calls 5000 A c l _ _ _ w h hc (by rw[hl];exact Us (by omega) (by omega) hm2 he 5000 (by omega))).mono ?_;rintro e w' ⟨v,rfl,hR,hb⟩;obtain⟨A',c',rfl⟩:=Kd.dV hR;refine⟨A',c',rfl,FN (HX.X9 hR).2.2 he,fun g o e=>?_,hb⟩;subst e;rcases Kd.BZ hR with h0|⟨k,h1,h2⟩
 .simp[bb]at h0
 .simp[bb]at h1;refine⟨by rw[h1];exact h2,?_⟩;obtain⟨cs,hcs⟩:=Kd.jR hR g rfl;exact jd hcs
end Go.Proofs.YtlhhcnknclnlaaaGreatDoor.Top
namespace Go.Proofs.YtlhhcnknclnlaaaGreatDoor.Top
open Go Go.WideShapes Go.RowKit Go.Proofs.YtlhhcnknclnlaaaGreatDoor.iH Go.Proofs.YtlhhcnknclnlaaaGreatDoor.Oct Go.Proofs.ah.aN Go.Proofs.ah.bA Go.Proofs.ah.dx
theorem BM{α:Type}:∀(l1 l2:List (List α)),l1.length=l2.length->(∀(i:Nat) (a b:List α),l1[i]? =some a->l2[i]? =some b->a.Perm b)->l1.flatten.Perm l2.flatten
 | [],[],_,_=>List.Perm.refl _
 | [],_::_,h,_=>by simp at h
 |_::_,[],h,_=>by simp at h
 |a::l1,b::l2,h,hp=>by
  rw[dj,dj];exact(hp 0 a b rfl rfl).append (BM l1 l2 (by simpa using h) fun i x y hx hy=>hp (i+1) x y (by simpa using hx) (by simpa using hy))
variable {n:Nat}
theorem aay{s v:Nat}(hs:1<=s)(hv:v<n):zT n s v<s:=by
 unfold zT;refine Nat.div_lt_of_lt_mul ?_;have h1:(v+1)*s<=n*s:=Nat.mul_le_mul_right s hv;have h2:1<=(v+1)*s:=Nat.mul_pos (by omega) hs;omega
variable {F:Files}
theorem MO{s:Nat}{es:List Ed}{F':Files}{gI:List (List Rc)}(h:Ns n s es F F' s gI)(hs:1<=s)(hok:∀e∈es,e.ok n):∃Rs:List (List Ed),Rs.length=s∧(∀(i:Nat) (r:List Ed),Rs[i]? =some r->F' (nm (sn i))=some (fileOf (r.map pk)))∧Rs.flatten.Perm es:=by
 have hz:∀i,∃r:List Ed,i<s->gI.getD i []=r.map pk∧r.Perm (es.filter fun e=>zT n s e.b=i):=fun i=>by
  by_cases hi:i<s
  .have hi':i<gI.length:=by rw[h.len];exact hi
   obtain⟨_,hp⟩:=h.at_ i _ (ae hi');obtain⟨r,h1,h2⟩:=FH _ _ hp;exact⟨r,fun _=>⟨by rw[aa,ae hi',h2];rfl,h1⟩⟩
  .exact⟨[],fun h=>absurd h hi⟩
 obtain⟨g,hg⟩:∃g:Nat->List Ed,∀i,i<s->gI.getD i []=(g i).map pk∧(g i).Perm (es.filter fun e=>zT n s e.b=i):=⟨fun i=>(hz i).choose,fun i=>(hz i).choose_spec⟩
 have hat:∀(i:Nat) (r:List Ed),((cI s).map g)[i]? =some r->i<s∧r=g i:=fun i r hr=>by
  rw[cd]at hr;obtain⟨j,hj,rfl⟩:=cm.1 hr;obtain⟨hil,rfl⟩:=bj.1 hj;rw[List.length_range]at hil;exact⟨hil,by rw[bz]⟩
 refine⟨(cI s).map g,by simp,fun i r hr=>?_,?_⟩
 .obtain⟨hil,rfl⟩:=hat i r hr;have hi':i<gI.length:=by rw[h.len];exact hil
  obtain⟨hf,_⟩:=h.at_ i _ (ae hi');have:=(hg i hil).1;rw[aa,ae hi']at this;rw[hf,<-this];rfl
 .refine List.Perm.trans ?_ (G7 (fun e=>zT n s e.b) s es fun e he=>aay hs (hok e he).2.1);refine BM _ _ (by simp) fun i a b ha hb=>?_
  obtain⟨hil,rfl⟩:=hat i a ha;rw[cd]at hb;obtain⟨j,hj,rfl⟩:=cm.1 hb;obtain⟨_,rfl⟩:=bj.1 hj;rw[bz];refine(hg i hil).2.trans (List.Perm.of_eq ?_);exact List.filter_congr fun e _=>rfl
theorem RN{w:ao}{D:Nat->Prop}{b be bF room c m s cp:Nat}{A:Option dv}{l:List Int}{es:List jB}(hD:aV w D b room F c)(hE:St w be 111 (iD b bF 0 0 0 0 0 0 false))(hbe:¬D be)(hF:∀x,F x=none)(h:Kd.C (Kd.int .u8) w A l.length l)(hc:l.length<=cp)(hl:l=kG (n:Int) es)(hm:es.length=m)(hm2:m<=39)(he:∀e∈es,Ls (n:Int) e)(hn:n<=12)(hs:1<=s)(hs2:s<=6)(hb:1<=bF)(hb2:bF<=20)(hroom:c+s*(m+2)+6*m+20<=room)(hc0:c<50000):
 ba ab 163 #[.pointer (some ⟨be,0,none⟩),.slice A l.length cp,.int .i64 (s:Nat)] w fun e w'=>e=.returned (.tuple #[.int .i64 0,.int .i64 0])∧∃D' c' F' Rs,aV w' D' b room F' c'∧c'<=c+s*(m+2)+5∧(∀C,jw n Rs 0 C F')∧Rs.length=s∧Rs.flatten.Perm (es.map ed)∧
  St w' be 111 (iD b bF 1 n s (-1) 0 0 true)∧¬D' be∧Keeps (fun j=>D j∨j=be) w w'∧∀j,D' j->D j∨w.heap.size<=j:=by
 have c8:=hE.cell 8 rfl;have c9:=hE.cell 9 rfl;have hde:=MN h hc hl (by omega) hm (by omega) he;have H1:=Y6 hD hE hbe hF hm he;clear hD hE hbe hF h hc hl hm he;go_enter func163,ntmps163
 go_wp2_with fail
 refine hde.mono ?_;clear hde c8 c9;rintro e w2 ⟨A2,c2,rfl,hE2,hfr,hb2'⟩;have H2:=Y3 hE2 hfr hb2';have n3:=St.new w2 27 #[.int .i64 (n:Nat),.slice A2 m c2];have t0:=n3.cell 0 rfl;have t1:=n3.cell 1 rfl;clear hE2 hfr hb2' n3
 go_wp2_with fail
 obtain⟨bl,-,-,-,hbw⟩:=uJ (w2.alloc (.cells #[.int .i64 (n:Nat),.slice A2 m c2] 27 (0,0))) hn hs hs2;refine hbw.mono ?_;clear hbw;rintro e w4 ⟨v4,rfl,uE,hb4⟩;obtain⟨A4,c4,rfl⟩:=Kd.dV uE;have H4:=Y1 (show(∀nn,St (w4.drewN nn) be 111 (iD b bF 0 0 0 0 0 0 false)∧St (w4.drewN nn) w2.heap.size 27 [.int .i64 (n:Nat),.slice A2 m c2]∧Keeps (fun _=>False) w2 (w4.drewN nn)∧cq w2.heap.size w2 (w4.drewN nn)∧w2.heap.size<(w4.drewN nn).heap.size)∧Keeps (fun _=>False) w w2 from by
  obtain⟨hD,hE,hbe,hF,hm,he⟩:=H1.out;obtain⟨hE2,hfr,hb2'⟩:=H2.out;have n3:=St.new w2 27 #[.int .i64 (n:Nat),.slice A2 m c2];have k2:Keeps (fun _=>False) w w2:=Keeps.of_below hb2';have k4:Keeps (fun _=>False) (w2.alloc (.cells #[.int .i64 (n:Nat),.slice A2 m c2] 27 (0,0))) w4:=Keeps.of_below hb4;have k3:Keeps (fun _=>False) w2 w4:=((Keeps.refl _ w2).alloc _).trans k4 fun _ h=>h.elim
  have b3:=((bt _ w2).alloc (al _) _).trans (hb4.mono (by simp));have s3:=(n3.keep k4 id)
  refine⟨fun nn=>⟨((hE.keep k2 id).keep k3 id).keep (S:=fun _=>False) ((Keeps.refl _ w4).drewN nn) id,s3.keep (S:=fun _=>False) ((Keeps.refl _ w4).drewN nn) id,k3.drewN nn,below_drewN b3 nn,?_⟩,k2⟩;exact(s3.keep (S:=fun _=>False) ((Keeps.refl _ w4).drewN nn) id).lt)
 clear uE hb4
 go_wp2_with fail
 refine gW (fun W=>∃nn,W=w4.drewN nn) 8 [0,1,2,5,6,7,8] [3,4,9] [10] [] [11] (by kernel_rfl) (fun _ _ x _ _ h=>by cases x<;>exact h) ⟨1,rfl⟩ (by kernel_rfl) ?_;simp only[aJ,ai,aq,af,ag]
 repeat (refine aI (fun K hK=>?_);go_simp;refine hK _ ?_;clear hK K)
 refine au ?_;refine ak (fun K hK=>?_);go_simp;refine⟨.pointer (some ⟨b,0,none⟩),fun _=>(by have h:w4.cell? ⟨be,0,none⟩=some (.pointer (some ⟨b,0,none⟩)):=(H4.out.1 0).1.cell 0 rfl;rw[h];rfl),hK _ ?_⟩;clear hK K;refine ak (fun K hK=>?_);go_simp;refine⟨.agg #[.int .i64 (n:Nat),.slice A2 m c2],fun _=>(by
  have h:St w4 w2.heap.size 27 [.int .i64 (n:Nat),.slice A2 m c2]:=(H4.out.1 0).2.1;simp[h.cell 0 rfl,h.cell 1 rfl,ar]),hK _ ?_⟩
 clear hK K;refine ak (fun K hK=>?_);go_simp;refine⟨.int .i64 (bF:Nat),fun _=>(by have h:w4.cell? ⟨be,1,none⟩=some (.int .i64 (bF:Nat)):=(H4.out.1 0).1.cell 1 rfl;rw[h];rfl),hK _ ?_⟩;clear hK K;refine bD ?_;rintro _ ⟨nn,rfl⟩;refine aH (fun K hK=>?_);go_simp;obtain⟨hD,hE,hbe,hF,hm,he⟩:=H1.out;obtain⟨hE2,hfr,hb2'⟩:=H2.out;obtain⟨e4,s4,k4,b4,z4⟩:=H4.out.1 nn;have kw:=H4.out.2.trans k4 fun _ h=>h.elim
 have hDl:∀j,D j->j<w.heap.size:=fun j h=>hD.lt h
 have hEd:jq (w4.drewN nn).heap.size (w4.drewN nn) A2 (es.map ed):=fun k e hk=>by
  obtain⟨g,o,h1,h2,h3⟩:=hE2.below b4 k e hk;exact⟨g,o,h1,az h2 b4.size,h3⟩
 have hok:∀e∈es.map ed,e.ok n:=fun e h=>by
  obtain⟨x,hx,rfl⟩:=dE.1 h;exact Kt (he x hx)
 refine(Ve (hD.keep kw fun _ _=>id) hEd (fun g o e h=>by have:=(hfr g o e).1;have:=hDl _ h;omega) (fun g o e=>by have:=(hfr g o e).2;have:=b4.size;omega) hok (by rw[bk];exact hm) (by omega) hn hs hs2 (fun i _=>hF _) (fun i _=>hF _) ⟨fun j _ _=>hF _,by decide⟩ hb hb2 (by omega) (by omega)).mono ?_;rintro e w5 ⟨rfl,D5,c5,F5,gI,hD5,hsh,Qz,hS5⟩;obtain⟨Rs,hRl,hRf,zX⟩:=MO hsh hs hok;have hG:∀C,jw n Rs 0 C F5:=fun C=>⟨hRf,fun i h1 h2=>(hsh.other _ fun j _ e=>by rw[IZ,yU]at e;cases e).trans (hF _),(hsh.other _ fun j _ e=>by rw[I5,yU]at e;cases e).trans (hF _),(hsh.other _ fun j _ e=>by rw[I4,yU]at e;cases e).trans (hF _),fun j h=>by omega⟩
 have e5:=e4.keep hS5.1 hbe;have nb5:¬D5 be:=fun h=>(hS5.2 _ h).elim hbe fun h=>by have:=e4.lt;omega
 have s5:=s4.keep hS5.1 fun h=>by have:=hDl _ h;have:=kw.size;have:=H4.out.2.size;omega
 have t0:=s5.cell 0 rfl;have t1:=s5.cell 1 rfl;have K5:=(kw.mono fun _ _ h=>h.elim).trans hS5.1 fun _ h=>.inl h
 have H5:=Y9 hD5 Qz hG hRl zX e5 nb5 K5 (fun j (h:D5 j)=>(hS5.2 j h).imp id fun h=>an kw.size h);refine hK _ _ trivial ?_;clear hK K hD hE hbe hF hm he hE2 hfr hb2' e4 s4 k4 b4 z4 kw hDl hEd hok hD5 hsh Qz hS5 hRl hRf zX hG e5 nb5 s5 K5;refine aQ (au ?_)
 go_wp2_with fail
 clear t0 t1;obtain⟨hD5,Qz,hG,hRl,zX,e5,nb5,K5,hl5⟩:=H5.out;have hsm:s*(m+2)<=6*41:=Nat.mul_le_mul hs2 (by omega);refine(Kn (q:=0) (n:=n) (s:=s) (k:= -1) (kd:=0) (st:=0) hD5 e5 nb5 ⟨by omega,by omega,hn,hs,hs2,.inl ⟨rfl,rfl,rfl⟩⟩ (hG fun _=>([],[])).sl (by omega) (by omega)).mono ?_;rintro e w6 ⟨rfl,D6,c6,l6,RG,hD6,hc6,VU,nb6,Br,V4⟩;have H6:=Y7 RG hD6 hc6 VU nb6 Br V4;clear hD5 Qz hG hRl zX e5 nb5 K5 hl5 RG hD6 hc6 VU nb6 Br V4
 go_wp2_with fail
 refine(VB w6 _).mono ?_;rintro e w7 ⟨rfl,rfl⟩
 go_wp2_with fail
 go_ret2
 obtain⟨hD5,Qz,hG,hRl,zX,e5,nb5,K5,hl5⟩:=H5.out;obtain⟨RG,hD6,hc6,VU,nb6,Br,V4⟩:=H6.out;refine⟨rfl,D6,c6,_,Rs,hD6,by omega,fun C=>(hG C).slot (by omega) l6,hRl,zX,VU,nb6,(K5.mono fun _ _ h=>dd h).trans Br fun j h=>?_,fun j h=>?_⟩
 .rcases h with h|h
  .exact(hl5 j h).imp .inl id
  .exact .inl (.inr h)
 .rcases V4 j h with h|h
  .exact hl5 j h
  .exact .inr (an K5.size h)
end Go.Proofs.YtlhhcnknclnlaaaGreatDoor.Top
