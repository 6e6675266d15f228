/- Parts of the proof. -/
import Derived.Conc.MuLone
import Derived.ArgAppend
import Derived.Test.YtlhhcnknclnlaaaGreatDoorS12
set_option linter.all false
set_option maxRecDepth 100000
set_option maxHeartbeats 16000000
open Go.Proofs.Tryz renaming prog->aa,underlying38->aw,underlying25->ca,underlying29->cx,ntmps8->cX,func8->cY
open List renaming getElem?_eq_getElem->ab,getElem?_cons_succ->af,getElem?_cons_zero->ag,filterMap_cons->ai,filterMap_nil->ao,length_pos_iff->ar,getD_eq_getElem?_getD->a_,replicate->ba,length_set->bj,mem_singleton->cd,getElem?_eq_some_iff->cm,all_eq_true->cC,length_replicate->cD,getElem?_map->cG,mem_flatten->cH,length_cons->cI,length_map->cN,mem_map->cW
open Nat renaming le_refl->ae,lt_irrefl->aE,le_trans->bt,lt_of_lt_of_le->cE,zero_add->cF,zero_le->cJ,le_succ->cM
open Go renaming World->al,Calls->az,Value->bb,Addr->cU
open Array renaming replicate->an
open Go.World renaming size_alloc->aq,block_lt_of_cell?->ax
open False renaming elim->bk
open BitVec renaming ofInt->bz
open Int renaming toNat_natCast->cq
open Go.Result renaming andThen_ok->cy
open And renaming intro->cz
open Bool renaming and_eq_true->cA
open Go.Proofs.Tryz
namespace Go.Proofs.YtlhhcnknclnlaaaGreatDoor.Top
open Go Go.WideShapes Go.RowKit Go.MuLone Go.Proofs.YtlhhcnknclnlaaaGreatDoor.iH Go.Proofs.YtlhhcnknclnlaaaGreatDoor.Oct Go.Proofs.ah.aN Go.Proofs.ah.bA Go.Proofs.ah.dx
abbrev aaz:Go.Conc.Locks.MuLink:={lock:=13,unlock:=14,ilock:=20,iunlock:=21,lockSlow:=35,unlockSlow:=38,disable:=31,enable:=33,acquire:=34,relMerge:=36,cas32:=32,add32:=37,tMutex:=57,tIMutex:=55,tPMutex:=76,tPIMutex:=97,tPI32:=99,tUP:=101,tNoCopy:=53,tU32:=22}
theorem Ku:Go.Conc.Locks.MuLib aa aaz:=
 ⟨func13,func14,func20,func21,func31,func33,func34,func36,func32,func37,underlying55,Tryz.runUnderlying55,sizeOf55,isAgg55,zeroValue55,underlying57,Tryz.runUnderlying57,sizeOf57,isAgg57,zeroValue57,underlying76,Tryz.runUnderlying76,sizeOf76,isAgg76,zeroValue76,underlying97,Tryz.runUnderlying97,sizeOf97,isAgg97,zeroValue97,underlying99,Tryz.runUnderlying99,sizeOf99,isAgg99,zeroValue99,underlying101,Tryz.runUnderlying101,sizeOf101,isAgg101,zeroValue101,underlying53,Tryz.runUnderlying53,sizeOf53,isAgg53,zeroValue53,underlying21,Tryz.runUnderlying21,sizeOf21,isAgg21,zeroValue21,(by kernel_rfl)⟩
def zl(lk:Int)(b:Nat)(e:Option cU)(bF:Nat):List bb:=[.int .i32 lk,.int .u32 0,.int .u32 0,.int .i32 0,.int .u32 0,.pointer (some ⟨b,0,none⟩),.pointer e,.int .i64 (bF:Nat),.bool false]
theorem aaA(w:al)(room bF:Nat)(hr:room<=1000000):
 az aa 9 #[.int .i64 (room:Nat),.int .i64 (bF:Nat)] w fun e w'=>∃bp b D,e=.returned (.pointer (some ⟨bp,0,none⟩))∧aV w' D b room (fun _=>none) 0∧St w' bp 66 (zl 0 b none bF)∧¬D bp∧w.heap.size<=bp∧(∀k,D k->w.heap.size<=k)∧Below w.heap.size w w':=by
 have hn:=aa3 w room hr;go_enter func9,ntmps9
 go_wp2_with fail
 refine hn.mono ?_;clear hn;rintro e w1 ⟨b,D,rfl,hD,hb,hl⟩;have H1:=Y3 hD hb hl;clear hD hb hl
 go_wp2_with fail
 go_ret;obtain⟨hD,hb,hl⟩:=H1.out;have kA:=(Keeps.refl (fun _=>False) w1).alloc (.cells #[.int .i32 0,.int .u32 0,.int .u32 0,.int .i32 0,.int .u32 0,.pointer (some ⟨b,0,none⟩),.pointer none,.int .i64 (bF:Nat),.bool false] 66 (0,0));exact⟨w1.heap.size,b,D,rfl,hD.keep kA fun _ _=>id,St.new w1 66 #[.int .i32 0,.int .u32 0,.int .u32 0,.int .i32 0,.int .u32 0,.pointer (some ⟨b,0,none⟩),.pointer none,.int .i64 (bF:Nat),.bool false],fun h=>aE _ (hD.lt h),hb.size,hl,hb.trans ((Below.refl _ w1).alloc hb.size _)⟩
variable {fn:Func}
theorem kP{P:Program}{p:Tmp}{ty:TypeId}(h:fn.results= #[.cell p ty])(tmps:Array bb)(w:al)(g:Nat)(t:TypeId)(cs:Array bb)(fr:Nat×Nat)(d:TypeDesc)(hp:tmps.getD p undef=.pointer (some ⟨g,0,none⟩))(hg:w.heap[g]? =some (.cells cs t fr))(hu:P.underlying ty=some d)(hd:(match d with| .struct _| .array _ _=>true|_=>false)=true)(hi:(P.info? ty).map (·.size)=some cs.size):
 (results fn tmps).run P w=.ok (.agg cs) w:=by
 have hp':tmps[p]?.getD undef=.pointer (some ⟨g,0,none⟩):=by simpa using hp
 simp[results,h,hp',asAddr,run_loadVar_row w g t ty cs fr d hg hu hd hi]
def RO(er n:Int)(v:Int)(is:Bool):List bb:=[.int .i64 er,.int .i64 n,.int .u64 v,.bool is,.int .i64 0,.int .u32 0]
variable {D:Nat->Prop}{F:Files}{b bp bF c mt room:Nat}{e0:Option cU}{w:al}
theorem V5{lk:Int}(hD:aV w D b room F c)(hp:St w bp 66 (zl lk b e0 bF))(hbp:¬D bp)(zV:∀x,F x=none)(hb:1<=bF):
 az aa 15 #[.pointer (some ⟨bp,0,none⟩)] w fun e w'=>e=.returned (.agg (RO 0 0 0 false).toArray)∧∃be,St w' bp 66 (zl lk b (some ⟨be,0,none⟩) bF)∧w.heap.size<=be∧St w' be 111 (iD b bF 0 0 0 0 0 0 false)∧aV w' D b room F c∧Keeps (fun j=>D j∨j=bp) w w':=by
 obtain⟨w1,hw1⟩:=ex (w.alloc (.cells #[.int .i64 0,.int .i64 0,.int .u64 0,.bool false,.int .i64 0,.int .u32 0] 38 (0,0)))
 have k1:Keeps (fun _=>False) w w1:=by rw[hw1];exact(Keeps.refl _ w).alloc _
 have s1:St w1 w.heap.size 38 (RO 0 0 0 false):=by rw[hw1];exact St.new _ _ _
 have p1:=hp.keep k1 id;have c5:=p1.cell 5 rfl;have hre:=KT (hD.keep k1 fun _ _=>id);have HF:=Y4 zV hbp hp.lt (fun j (h:D j)=>hD.lt h);have H1:=Y3 k1 s1 p1;clear hD hp hbp zV k1 s1 p1;go_enter func15,ntmps15;rw[hw1]at c5
 go_wp2_with fail
 rw[<-hw1];clear hw1 c5;refine hre.mono ?_;clear hre;rintro e w2 ⟨rfl,hD2,hS2⟩;have H2:=Y1 (show ∀nn,aV (w2.drewN nn) D b room F c∧St (w2.drewN nn) bp 66 (zl lk b e0 bF)∧St (w2.drewN nn) w.heap.size 38 (RO 0 0 0 false)∧Keeps D w (w2.drewN nn)from fun nn=>by
  obtain⟨k1,s1,p1⟩:=H1.out;obtain⟨_,hbp,hpl,hDl⟩:=HF.out;have kk:=(Keeps.refl (fun _=>False) w2).drewN nn;exact⟨hD2.keep kk fun _ _=>id,(p1.keep hS2.1 hbp).keep kk id,(s1.keep hS2.1 fun h=>aE _ (hDl _ h)).keep kk id,((k1.mono fun _ _ h=>h.elim).trans hS2.1 fun _ h=>.inl h).trans kk fun _ h=>h.elim⟩)
 clear hD2 hS2 H1
 go_wp2_with fail
 refine gW (fun W=>∃nn,W=w2.drewN nn) 18 [0,1,2,3,5,6,7] [4,8] [9] [10,11,12,13,14] [15,16,17] (by kernel_rfl) (fun _ _ x _ _ h=>by cases x<;>exact h) ⟨1,rfl⟩ (by kernel_rfl) ?_;simp only[aJ,ai,ao,af,ag]
 repeat (refine aI (fun K hK=>?_);go_simp;refine hK _ ?_;clear hK K)
 refine au ?_;refine ak (fun K hK=>?_);go_simp;refine⟨.pointer (some ⟨b,0,none⟩),fun _=>(by have h:w2.cell? ⟨bp,5,none⟩=some (.pointer (some ⟨b,0,none⟩)):=(H2.out 0).2.1.cell 5 rfl;rw[h];rfl),hK _ ?_⟩;clear hK K;refine ak (fun K hK=>?_);go_simp;refine⟨.int .i64 (bF:Nat),fun _=>(by have h:w2.cell? ⟨bp,7,none⟩=some (.int .i64 (bF:Nat)):=(H2.out 0).2.1.cell 7 rfl;rw[h];rfl),hK _ ?_⟩;clear hK K;refine bD ?_;rintro _ ⟨nn,rfl⟩;refine aH (fun K hK=>?_);go_simp;obtain⟨hD2,p2,a2,k2⟩:=H2.out nn;obtain⟨zV,hbp,hpl,hDl⟩:=HF.out;refine(aas hD2 zV hb).mono ?_;rintro e w3 ⟨be,rfl,hbe,hE,hD3,Sd⟩;have p3:=p2.keep Sd.1 hbp;have a3:=a2.keep Sd.1 fun h=>aE _ (hDl _ h)
 have c6:=p3.cell 6 rfl;have f6:=p3.frozen 6;have x0:=a3.cell 0 rfl;have x1:=a3.cell 1 rfl;have x2:=a3.cell 2 rfl;have x3:=a3.cell 3 rfl;have x4:=a3.cell 4 rfl;have x5:=a3.cell 5 rfl;have y0:=a3.frozen 0;have y1:=a3.frozen 1;have y2:=a3.frozen 2;have y3:=a3.frozen 3;have y4:=a3.frozen 4;have y5:=a3.frozen 5;have hne:¬bp=w.heap.size:=by omega
 have hne2:¬w.heap.size=bp:=by omega
 have H3:=Y6 hbe hE hD3 p3 a3 (k2.trans Sd.1 fun _ h=>.inl h);refine hK _ _ trivial ?_;clear hK K hD2 p2 a2 k2 zV hbp hpl hDl hbe hE hD3 Sd p3 a3;refine aQ ?_
 repeat (refine aI (fun K hK=>?_);go_simp;refine hK _ ?_;clear hK K)
 refine au ?_
 go_wp2_with fail
 obtain⟨hbe,hE,hD3,p3,a3,k3⟩:=H3.out;obtain⟨zV,hbp,hpl,hDl⟩:=HF.out;have kp:=(Keeps.refl (fun j=>j=bp) w3).setCell (a:=⟨bp,6,none⟩) (.inl rfl) (.pointer (some ⟨be,0,none⟩));have p4:St (w3.setCell ⟨bp,6,none⟩ (.pointer (some ⟨be,0,none⟩))) bp 66 (zl lk b (some ⟨be,0,none⟩) bF):=p3.set 6 (.pointer (some ⟨be,0,none⟩));have a4:=a3.keep kp hne2;have hE4:=hE.keep kp fun e=>by have:=k3.size;have:=(H2.out nn).2.2.2.size;omega
 have hD4:=hD3.keep kp fun j h e=>hbp (e▸h)
 have k4:=(k3.mono fun _ _ h=>Or.inl h).trans (S:=fun j=>D j∨j=bp) kp fun j e=>.inl (.inr e)
 have zb:w.heap.size<=be:=by have:=(H2.out nn).2.2.2.size;omega
 have hbb:be≠w.heap.size:=by have:=(H2.out nn).2.2.1.lt;omega
 generalize w3.setCell ⟨bp,6,none⟩ (.pointer (some ⟨be,0,none⟩))=w4 at*;have a5:=((((((a4.set 0 (.int .i64 0)).set 0 (.int .i64 0)).set 1 (.int .i64 0)).set 2 (.int .u64 0)).set 3 (.bool false)).set 4 (.int .i64 0)).set 5 (.int .u32 0);have ka:=((((((((Keeps.refl (fun j=>j=w.heap.size) w4).setCell (a:=⟨w.heap.size,0,none⟩) (.inl rfl) (.int .i64 0)).setCell (a:=⟨w.heap.size,0,none⟩) (.inl rfl) (.int .i64 0)).setCell (a:=⟨w.heap.size,1,none⟩) (.inl rfl) (.int .i64 0)).setCell (a:=⟨w.heap.size,2,none⟩) (.inl rfl) (.int .u64 0)).setCell (a:=⟨w.heap.size,3,none⟩) (.inl rfl) (.bool false)).setCell (a:=⟨w.heap.size,4,none⟩) (.inl rfl) (.int .i64 0)).setCell (a:=⟨w.heap.size,5,none⟩) (.inl rfl) (.int .u32 0))
 refine bodyPost_ret (kP rfl _ _ w.heap.size 38 #[.int .i64 0,.int .i64 0,.int .u64 0,.bool false,.int .i64 0,.int .u32 0] (0,0) _ rfl a5 aw rfl (by kernel_rfl)) rfl ?_;exact⟨rfl,be,p4.keep ka hne,zb,hE4.keep ka hbb,hD4.keep ka fun j h e=>by have:=hDl j h;omega,k4.trans ka fun j e=>.inr (by omega)⟩
def stv(kind n m pk:Int)(jr:Int)(data:bb):List bb:=[.int .i64 kind,.int .i64 n,.int .i64 m,.int .i64 pk,.int .u32 jr,data,.slice none 0 0]
theorem MP(hD:aV w D b room F c)(hp:St w bp 66 (zl 0 b e0 bF))(hbp:¬D bp)(zV:∀x,F x=none)(hb:1<=bF):
 az aa 8 #[.pointer (some ⟨bp,0,none⟩),.agg #[.int .i64 1,.int .i64 0,.int .i64 0,.int .i64 0,.int .u32 0,.slice none 0 0,.slice none 0 0]] w fun e w'=>e=.returned (.agg (RO 0 0 0 false).toArray)∧∃be,St w' bp 66 (zl 0 b (some ⟨be,0,none⟩) bF)∧w.heap.size<=be∧St w' be 111 (iD b bF 0 0 0 0 0 0 false)∧aV w' D b room F c∧Keeps (fun j=>D j∨j=bp) w w':=by
 obtain⟨w1,hw1⟩:∃w1,w1=(w.alloc (.cells #[.int .i64 1,.int .i64 0,.int .i64 0,.int .i64 0,.int .u32 0,.slice none 0 0,.slice none 0 0] 43 (0,0))).alloc (.cells #[.int .i64 0,.int .i64 0,.int .u64 0,.bool false,.int .i64 0,.int .u32 0] 38 (0,0)):=⟨_,rfl⟩
 have k1:Keeps (fun _=>False) w w1:=by rw[hw1];exact((Keeps.refl _ w).alloc _).alloc _
 have s1:St w1 w.heap.size 43 (stv 1 0 0 0 0 (.slice none 0 0)):=by rw[hw1];exact(St.new _ _ _).alloc _
 have a1:St w1 (w.heap.size+1) 38 (RO 0 0 0 false):=by
  have:=St.new (w.alloc (.cells #[.int .i64 1,.int .i64 0,.int .i64 0,.int .i64 0,.int .u32 0,.slice none 0 0,.slice none 0 0] 43 (0,0))) 38 #[.int .i64 0,.int .i64 0,.int .u64 0,.bool false,.int .i64 0,.int .u32 0];rw[aq]at this;rw[hw1];exact this
 have p1:=hp.keep k1 id;have hlk:=lock_free Ku ⟨bp,0,none⟩ w1 (p1.cell 0 rfl) (p1.frozen 0);have H1:=Y8 hD hp hbp zV k1 s1 a1 p1;clear hD hp hbp zV k1 s1 a1 p1
 go_enter_defers cY,cX
 go_wp2_with fail
 rw[<-hw1];refine hlk.mono ?_;clear hlk hw1;rintro e w2 ⟨rfl,rfl⟩;have p2:St (w1.setCell ⟨bp,0,none⟩ (.int .i32 1)) bp 66 (zl 1 b e0 bF):=H1.out.2.2.2.2.2.2.2.set 0 (.int .i32 1);have k2:=(Keeps.refl (fun j=>j=bp) w1).setCell (a:=⟨bp,0,none⟩) (.inl rfl) (.int .i32 1);have hpl:=H1.out.2.1.lt;have z1:=H1.out.2.2.2.2.2.2.1.lt;have hDl:=Y1 (show ∀j,D j->j<w.heap.size from fun j h=>H1.out.1.lt h);have s2:=H1.out.2.2.2.2.2.1.keep k2 (by omega);have a2:=H1.out.2.2.2.2.2.2.1.keep k2 (by omega);have K2:=Y1 ((H1.out.2.2.2.2.1.mono fun _ _ h=>bk h).trans (S:=fun j=>D j∨j=bp) k2 fun j e=>.inl (.inr e));have D2:=Y1 ((H1.out.1.keep H1.out.2.2.2.2.1 fun _ _=>id).keep k2 fun j h e=>H1.out.2.2.1 (e▸h));have hzz:(w1.setCell ⟨bp,0,none⟩ (.int .i32 1)).heap.size=w1.heap.size:=by simp
 generalize w1.setCell ⟨bp,0,none⟩ (.int .i32 1)=w2 at*;have c8:=p2.cell 8 rfl;have d0:=s2.cell 0 rfl;have hop:=V5 D2.out p2 H1.out.2.2.1 H1.out.2.2.2.1 hb;have H2:=Y3 p2 s2 a2;have hbp:=Y1 H1.out.2.2.1;clear p2 k2 s2 a2 D2 H1
 go_wp2_with fail
 refine hop.mono ?_;clear hop c8 d0;rintro e w3 ⟨rfl,be,p3,hbe,Sl,hD3,hk3⟩;have a3:=H2.out.2.2.keep hk3 fun h=>by
  rcases h with h|h
  .have:=hDl.out _ h;omega
  .omega
 have x0:=a3.cell 0 rfl;have x1:=a3.cell 1 rfl;have x2:=a3.cell 2 rfl;have x3:=a3.cell 3 rfl;have x4:=a3.cell 4 rfl;have x5:=a3.cell 5 rfl;have y0:=a3.frozen 0;have y1:=a3.frozen 1;have y2:=a3.frozen 2;have y3:=a3.frozen 3;have y4:=a3.frozen 4;have y5:=a3.frozen 5;have H3:=Y6 p3 hbe Sl hD3 hk3 a3;clear p3 hbe Sl hD3 hk3 a3;unfold RO
 go_wp2_with fail
 clear x0 x1 x2 x3 x4 x5 y0 y1 y2 y3 y4 y5;obtain⟨p3,hbe,Sl,hD3,hk3,a3⟩:=H3.out;have a4:=(((((a3.set 0 (.int .i64 0)).set 1 (.int .i64 0)).set 2 (.int .u64 0)).set 3 (.bool false)).set 4 (.int .i64 0)).set 5 (.int .u32 0);have ka:=((((((Keeps.refl (fun j=>j=w.heap.size+1) w3).setCell (a:=⟨w.heap.size+1,0,none⟩) (.inl rfl) (.int .i64 0)).setCell (a:=⟨w.heap.size+1,1,none⟩) (.inl rfl) (.int .i64 0)).setCell (a:=⟨w.heap.size+1,2,none⟩) (.inl rfl) (.int .u64 0)).setCell (a:=⟨w.heap.size+1,3,none⟩) (.inl rfl) (.bool false)).setCell (a:=⟨w.heap.size+1,4,none⟩) (.inl rfl) (.int .i64 0)).setCell (a:=⟨w.heap.size+1,5,none⟩) (.inl rfl) (.int .u32 0);generalize (((((w3.setCell ⟨w.heap.size+1,0,none⟩ (.int .i64 0)).setCell ⟨w.heap.size+1,1,none⟩ (.int .i64 0)).setCell ⟨w.heap.size+1,2,none⟩ (.int .u64 0)).setCell ⟨w.heap.size+1,3,none⟩ (.bool false)).setCell ⟨w.heap.size+1,4,none⟩ (.int .i64 0)).setCell ⟨w.heap.size+1,5,none⟩ (.int .u32 0)=w4 at*;have p4:=p3.keep ka (by omega);refine leaves_cons (f:=14) (args:= #[.pointer (some ⟨bp,0,none⟩)]) (by simp) (by simp[go_sem]) ?_;refine(unlock_deferred Ku ⟨bp,0,none⟩ .returning _ (p4.cell 0 rfl) (p4.frozen 0)).mono ?_;rintro e u' w5 ⟨rfl,rfl,rfl⟩;have p5:St (w4.setCell ⟨bp,0,none⟩ (.int .i32 0)) bp 66 (zl 0 b (some ⟨be,0,none⟩) bF):=p4.set 0 (.int .i32 0);have k5:=(Keeps.refl (fun j=>j=bp) w4).setCell (a:=⟨bp,0,none⟩) (.inl rfl) (.int .i32 0);have a5:=a4.keep k5 (by omega);have hDD:=hDl.out;refine⟨_,kP rfl _ _ (w.heap.size+1) 38 #[.int .i64 0,.int .i64 0,.int .u64 0,.bool false,.int .i64 0,.int .u32 0] (0,0) _ rfl a5 aw rfl (by kernel_rfl),rfl,be,p5,?_,?_,?_,?_⟩
 .have:=K2.out.size;omega
 .refine(Sl.keep ka (by have:=K2.out.size;omega)).keep k5 (by have:=K2.out.size;omega)
 .exact(hD3.keep ka fun j h e=>by have:=hDD j h;omega).keep k5 fun j h e=>hbp.out (e▸h)
 .exact((K2.out.trans hk3 fun _ h=>.inl h).trans ka fun j e=>.inr (by omega)).trans k5 fun j e=>.inl (.inr e)
def QD(fn:Func)(R:Ending->al->Prop):Exit->Act->al->Prop
 | .normal,a,w=>bodyPostD aa fn R .normal a w
 | .ret,a,w=>bodyPostD aa fn R .ret a w
 |_,_,_=>False
theorem adL{R:Ending->al->Prop}:∀e a w,QD fn R e a w->bodyPostD aa fn R e a w
 | .normal,_,_,h=>h
 | .ret,_,_,h=>h
 | .panic _,_,_,h=>h.elim
 | .outgrown,_,_,h=>h.elim
structure kQ (w:al) (mt:Nat):Prop where
 cell:w.cell? ⟨0,0,none⟩=some (.map (some mt))
 look:∃o,w.heap[mt]? =some o∧∀W:al,W.heap[mt]? =some o->∀(k:Int) (f:Nat),(k,f)∈[((2:Int),162),(3,164),(4,166)]->(Instr.lookup 71 (.map (some mt)) (.int .i64 k) false).run aa W=.ok (.func (.func f) #[] #[]) W
theorem kQ.keep{S:Nat->Prop}{w':al}(h:kQ w mt)(hk:Keeps S w w')(h0:¬S 0)(h1:¬S mt):kQ w' mt:=by
 obtain⟨o,ho,hl⟩:=h.look;exact⟨hk.cell (a:=⟨0,0,none⟩) h.cell h0,o,(hk.at_ (Array.getElem?_eq_some_iff.1 ho).1 h1).trans ho,hl⟩
theorem agx(ff:Nat)(W:al):(binOp .eql 70 (.func (.func ff) #[] #[]) .nilFunc).run aa W=.ok (.bool false) W:=by kernel_rfl
theorem RP{kk:Int}{ff:Nat}{be:Nat}{n m pk jr:Int}{data:bb}{S:Nat->Prop}{R:Int->Int->Int->Bool->al->Prop}(hkf:(kk,ff)∈[((2:Int),162),(3,164),(4,166)])(hp:St w bp 66 (zl 0 b (some ⟨be,0,none⟩) bF))(hg:kQ w mt)(hg0:bp≠0)(hg1:bp≠mt)(hdat:∃A c1 c2,data=.slice A c1 c2)(hS:∀j,S j->j<w.heap.size)(hSb:¬S bp)(hcall:∀W,Keeps (fun j=>j=bp) w W->w.heap.size+2<=W.heap.size->az aa ff #[.pointer (some ⟨be,0,none⟩),.agg #[.int .i64 kk,.int .i64 n,.int .i64 m,.int .i64 pk,.int .u32 jr,data,.slice none 0 0]] W fun e W'=>∃er nn v is,e=.returned (.agg #[.int .i64 er,.int .i64 nn,.int .u64 v,.bool is,.int .i64 0,.int .u32 0])∧Keeps S W W'∧R er nn v is W'):
 az aa 8 #[.pointer (some ⟨bp,0,none⟩),.agg #[.int .i64 kk,.int .i64 n,.int .i64 m,.int .i64 pk,.int .u32 jr,data,.slice none 0 0]] w fun e w'=>∃er nn v is W2,e=.returned (.agg #[.int .i64 er,.int .i64 nn,.int .u64 v,.bool is,.int .i64 0,.int .u32 0])∧R er nn v is W2∧Keeps (fun j=>j=bp∨j=w.heap.size+1) W2 w'∧St w' bp 66 (zl 0 b (some ⟨be,0,none⟩) bF)∧Keeps (fun j=>S j∨j=bp) w w'∧w.heap.size+2<=W2.heap.size:=by
 obtain⟨dA,xD,xE,rfl⟩:=hdat;have HF:=Y1 hkf;have ee:∀z:Int,z=1∨5<=z->(kk==z)=false:=fun z hz=>by simp at hkf;simp;omega
 have e1:=ee 1 (by omega);have e5:=ee 5 (by omega);have e6:=ee 6 (by omega);have e7:=ee 7 (by omega);clear hkf ee;obtain⟨w1,hw1⟩:∃w1,w1=(w.alloc (.cells #[.int .i64 kk,.int .i64 n,.int .i64 m,.int .i64 pk,.int .u32 jr,.slice dA xD xE,.slice none 0 0] 43 (0,0))).alloc (.cells #[.int .i64 0,.int .i64 0,.int .u64 0,.bool false,.int .i64 0,.int .u32 0] 38 (0,0)):=⟨_,rfl⟩
 have k1:Keeps (fun _=>False) w w1:=by rw[hw1];exact((Keeps.refl _ w).alloc _).alloc _
 have s1:St w1 w.heap.size 43 (stv kk n m pk jr (.slice dA xD xE)):=by rw[hw1];exact(St.new _ _ _).alloc _
 have a1:St w1 (w.heap.size+1) 38 (RO 0 0 0 false):=by
  have:=St.new (w.alloc (.cells #[.int .i64 kk,.int .i64 n,.int .i64 m,.int .i64 pk,.int .u32 jr,.slice dA xD xE,.slice none 0 0] 43 (0,0))) 38 #[.int .i64 0,.int .i64 0,.int .u64 0,.bool false,.int .i64 0,.int .u32 0];rw[aq]at this;rw[hw1];exact this
 have p1:=hp.keep k1 id;have hpl:=hp.lt;have hlk:=lock_free Ku ⟨bp,0,none⟩ w1 (p1.cell 0 rfl) (p1.frozen 0);have H1:=Y7 hcall (cz hS hSb) k1 s1 a1 p1 hg;clear hp k1 s1 a1 p1 hcall hS hSb hg
 go_enter_defers cY,cX
 refine wp_mono (Q:=QD Tryz.f8 _) ?_ adL
 go_wp2_with fail
 rw[<-hw1];refine hlk.mono ?_;clear hlk hw1;rintro e w2 ⟨rfl,rfl⟩;have p2:St (w1.setCell ⟨bp,0,none⟩ (.int .i32 1)) bp 66 (zl 1 b (some ⟨be,0,none⟩) bF):=H1.out.2.2.2.2.2.1.set 0 (.int .i32 1);have k2:=(Keeps.refl (fun j=>j=bp) w1).setCell (a:=⟨bp,0,none⟩) (.inl rfl) (.int .i32 1);have z1:w.heap.size+1<w1.heap.size:=H1.out.2.2.2.2.1.lt;have s2:=H1.out.2.2.2.1.keep k2 (by omega);have a2:=H1.out.2.2.2.2.1.keep k2 (by omega);have g2:=(H1.out.2.2.2.2.2.2.keep H1.out.2.2.1 id id).keep k2 (fun e=>hg0 e.symm) (fun e=>hg1 e.symm);have hzz:(w1.setCell ⟨bp,0,none⟩ (.int .i32 1)).heap.size=w1.heap.size:=by simp
 have kw:Keeps (fun j=>j=bp) w (w1.setCell ⟨bp,0,none⟩ (.int .i32 1)):=(H1.out.2.2.1.mono fun _ _ h=>bk h).trans k2 fun j e=>.inl e
 generalize w1.setCell ⟨bp,0,none⟩ (.int .i32 1)=w2 at*;have c8:=p2.cell 8 rfl;have c6:=p2.cell 6 rfl;have d0:=s2.cell 0 rfl;have g0:=g2.cell;have gl:(Instr.lookup 71 (.map (some mt)) (.int .i64 kk) false).run aa w2=.ok (.func (.func ff) #[] #[]) w2:=by
  obtain⟨o,ho,hl⟩:=g2.look;exact hl w2 ho _ _ HF.out
 have gn:=agx ff w2;have H2:=Y6 H1.out.1 H1.out.2.1 kw p2 s2 a2;clear p2 k2 s2 a2 kw g2 H1
 go_wp2_with fail
 have HR:=Y1 (show ∀nn,St (w2.drewN nn) bp 66 (zl 1 b (some ⟨be,0,none⟩) bF)∧St (w2.drewN nn) w.heap.size 43 (stv kk n m pk jr (.slice dA xD xE))∧St (w2.drewN nn) (w.heap.size+1) 38 (RO 0 0 0 false)∧Keeps (fun j=>j=bp) w (w2.drewN nn)from fun nn=>by
  obtain⟨_,_,kw,p2,s2,a2⟩:=H2.out;have kk:=(Keeps.refl (fun _=>False) w2).drewN nn;exact⟨p2.keep kk id,s2.keep kk id,a2.keep kk id,kw.trans kk fun _ h=>h.elim⟩)
 clear c8 c6 d0 g0 gl gn;refine gW (fun W=>∃nn,W=w2.drewN nn) 8 [0,1,2,3] [4,5] [6] [] [7] (by kernel_rfl) (fun _ _ x _ _ h=>by cases x<;>exact h) ⟨1,rfl⟩ (by kernel_rfl) ?_;simp only[aJ,ai,ao,af,ag]
 repeat (refine aI (fun K hK=>?_);go_simp;refine hK _ ?_;clear hK K)
 refine au ?_;refine ak (fun K hK=>?_);go_simp;refine⟨.pointer (some ⟨be,0,none⟩),fun _=>(by have h:w2.cell? ⟨bp,6,none⟩=some (.pointer (some ⟨be,0,none⟩)):=(HR.out 0).1.cell 6 rfl;rw[h];rfl),hK _ ?_⟩;clear hK K;refine ak (fun K hK=>?_);go_simp;refine⟨.agg #[.int .i64 kk,.int .i64 n,.int .i64 m,.int .i64 pk,.int .u32 jr,.slice dA xD xE,.slice none 0 0],fun _=>(by
  have h:St w2 w.heap.size 43 (stv kk n m pk jr (.slice dA xD xE)):=(HR.out 0).2.1;simp[h.cell 0 rfl,h.cell 1 rfl,h.cell 2 rfl,h.cell 3 rfl,h.cell 4 rfl,h.cell 5 rfl,h.cell 6 rfl,Result.andThen]),hK _ ?_⟩
 clear hK K;refine bD ?_;rintro _ ⟨nn,rfl⟩;refine aH (fun K hK=>?_);have hkf:=HF.out;simp at hkf;rcases hkf with⟨rfl,rfl⟩|⟨rfl,rfl⟩|⟨rfl,rfl⟩
 all_goals
  go_simp;obtain⟨p3,s3,a3,k3⟩:=HR.out nn;obtain⟨hcall,⟨hS,hSb⟩,_⟩:=H2.out;have z3:=a3.lt;refine(hcall _ k3 (by omega)).mono ?_;rintro e w4 ⟨er,rn,v,is,rfl,hk4,uE⟩;have p4:=p3.keep hk4 hSb;have a4:=a3.keep hk4 fun h=>by have:=hS _ h;omega
  have z4:=a4.lt;have K4:Keeps (fun j=>S j∨j=bp) w w4:=(k3.mono fun _ _ h=>Or.inr h).trans hk4 fun _ h=>.inl (.inl h)
  have x0:=a4.cell 0 rfl;have x1:=a4.cell 1 rfl;have x2:=a4.cell 2 rfl;have x3:=a4.cell 3 rfl;have x4:=a4.cell 4 rfl;have x5:=a4.cell 5 rfl;have y0:=a4.frozen 0;have y1:=a4.frozen 1;have y2:=a4.frozen 2;have y3:=a4.frozen 3;have y4:=a4.frozen 4;have y5:=a4.frozen 5;have H4:=Y4 p4 a4 K4 uE;refine hK _ _ trivial ?_;clear hK K p3 s3 a3 k3 hcall hS hSb hk4 uE p4 a4 K4;refine aQ (au ?_)
  go_wp2_with fail
  clear x0 x1 x2 x3 x4 x5 y0 y1 y2 y3 y4 y5;obtain⟨p4,a4,K4,uE⟩:=H4.out;have a5:=(((((a4.set 0 (.int .i64 er)).set 1 (.int .i64 rn)).set 2 (.int .u64 v)).set 3 (.bool is)).set 4 (.int .i64 0)).set 5 (.int .u32 0);have ka:=((((((Keeps.refl (fun j=>j=w.heap.size+1) w4).setCell (a:=⟨w.heap.size+1,0,none⟩) (.inl rfl) (.int .i64 er)).setCell (a:=⟨w.heap.size+1,1,none⟩) (.inl rfl) (.int .i64 rn)).setCell (a:=⟨w.heap.size+1,2,none⟩) (.inl rfl) (.int .u64 v)).setCell (a:=⟨w.heap.size+1,3,none⟩) (.inl rfl) (.bool is)).setCell (a:=⟨w.heap.size+1,4,none⟩) (.inl rfl) (.int .i64 0)).setCell (a:=⟨w.heap.size+1,5,none⟩) (.inl rfl) (.int .u32 0);generalize (((((w4.setCell ⟨w.heap.size+1,0,none⟩ (.int .i64 er)).setCell ⟨w.heap.size+1,1,none⟩ (.int .i64 rn)).setCell ⟨w.heap.size+1,2,none⟩ (.int .u64 v)).setCell ⟨w.heap.size+1,3,none⟩ (.bool is)).setCell ⟨w.heap.size+1,4,none⟩ (.int .i64 0)).setCell ⟨w.heap.size+1,5,none⟩ (.int .u32 0)=w5 at*;have p5:=p4.keep ka (by omega);refine(show QD Tryz.f8 _ .ret _ _ from ?_);unfold QD;refine leaves_cons (f:=14) (args:= #[.pointer (some ⟨bp,0,none⟩)]) (by simp) (by simp[go_sem]) ?_;refine(unlock_deferred Ku ⟨bp,0,none⟩ .returning _ (p5.cell 0 rfl) (p5.frozen 0)).mono ?_;rintro e u' w6 ⟨rfl,rfl,rfl⟩;have p6:St (w5.setCell ⟨bp,0,none⟩ (.int .i32 0)) bp 66 (zl 0 b (some ⟨be,0,none⟩) bF):=p5.set 0 (.int .i32 0);have k6:=(Keeps.refl (fun j=>j=bp) w5).setCell (a:=⟨bp,0,none⟩) (.inl rfl) (.int .i32 0);have a6:=a5.keep k6 (by omega);refine⟨_,kP rfl _ _ (w.heap.size+1) 38 #[.int .i64 er,.int .i64 rn,.int .u64 v,.bool is,.int .i64 0,.int .u32 0] (0,0) _ rfl a6 aw rfl (by kernel_rfl),er,rn,v,is,w4,rfl,uE,?_,p6,(K4.trans ka fun j e=>.inr (by omega)).trans k6 fun j e=>.inl (.inr e),by omega⟩;exact(ka.mono fun _ _ h=>.inr h).trans k6 fun j e=>.inl (.inl e)
end Go.Proofs.YtlhhcnknclnlaaaGreatDoor.Top
namespace Go.Proofs.YtlhhcnknclnlaaaGreatDoor.Top
open Go Go.WideShapes Go.RowKit Go.Proofs.YtlhhcnknclnlaaaGreatDoor.iH Go.Proofs.YtlhhcnknclnlaaaGreatDoor.Oct Go.Proofs.ah.aN Go.Proofs.ah.bA Go.Proofs.ah.dx
variable {K N b be bp bF c xD xE mt room:Nat}{dA:Option cU}{kd m n jr:Int}{w:al}
theorem MQ{pk:Int}{S:Nat->Prop}{R:Int->Int->Int->Bool->al->Prop}(hS:∀j,S j->j<w.heap.size)(hcall:∀W,Keeps (fun _=>False) w W->w.heap.size+2<=W.heap.size->az aa 163 #[.pointer (some ⟨be,0,none⟩),.slice dA xD xE,.int .i64 n] W fun e W'=>∃er nn v is,e=.returned (.tuple #[.int .i64 nn,.int .i64 er])∧v=0∧is=false∧Keeps S W W'∧R er nn v is W'):
 az aa 162 #[.pointer (some ⟨be,0,none⟩),.agg #[.int .i64 2,.int .i64 n,.int .i64 m,.int .i64 pk,.int .u32 jr,.slice dA xD xE,.slice none 0 0]] w fun e w'=>∃er nn v is W2,e=.returned (.agg #[.int .i64 er,.int .i64 nn,.int .u64 v,.bool is,.int .i64 0,.int .u32 0])∧R er nn v is W2∧Keeps (fun j=>j=w.heap.size+1) W2 w'∧Keeps S w w'∧w.heap.size+2<=W2.heap.size:=by
 obtain⟨w1,hw1⟩:∃w1,w1=(w.alloc (.cells #[.int .i64 2,.int .i64 n,.int .i64 m,.int .i64 pk,.int .u32 jr,.slice dA xD xE,.slice none 0 0] 43 (0,0))).alloc (.cells #[.int .i64 0,.int .i64 0,.int .u64 0,.bool false,.int .i64 0,.int .u32 0] 38 (0,0)):=⟨_,rfl⟩
 have k1:Keeps (fun _=>False) w w1:=by rw[hw1];exact((Keeps.refl _ w).alloc _).alloc _
 have s1:St w1 w.heap.size 43 (stv 2 n m pk jr (.slice dA xD xE)):=by rw[hw1];exact(St.new _ _ _).alloc _
 have a1:St w1 (w.heap.size+1) 38 (RO 0 0 0 false):=by
  have:=St.new (w.alloc (.cells #[.int .i64 2,.int .i64 n,.int .i64 m,.int .i64 pk,.int .u32 jr,.slice dA xD xE,.slice none 0 0] 43 (0,0))) 38 #[.int .i64 0,.int .i64 0,.int .u64 0,.bool false,.int .i64 0,.int .u32 0];rw[aq]at this;rw[hw1];exact this
 have hc:=hcall w1 k1 a1.lt;have d1:=s1.cell 1 rfl;have d2:=s1.cell 2 rfl;have d3:=s1.cell 3 rfl;have d4:=s1.cell 4 rfl;have d5:=s1.cell 5 rfl;have H1:=Y3 k1 a1 hS;clear k1 s1 a1 hS hcall;go_enter func162,ntmps162;rw[hw1]at d1 d2 d3 d4 d5
 go_wp2_with fail
 rw[<-hw1];clear hw1 d1 d2 d3 d4 d5;refine hc.mono ?_;clear hc;rintro e w2 ⟨er,nn,v,is,rfl,rfl,rfl,hk,hR⟩;have z1:=H1.out.2.1.lt;have a2:=H1.out.2.1.keep hk fun h=>by have:=H1.out.2.2 _ h;omega
 have x0:=a2.cell 0 rfl;have x1:=a2.cell 1 rfl;have x2:=a2.cell 2 rfl;have x3:=a2.cell 3 rfl;have x4:=a2.cell 4 rfl;have x5:=a2.cell 5 rfl;have y0:=a2.frozen 0;have y1:=a2.frozen 1;have y2:=a2.frozen 2;have y3:=a2.frozen 3;have y4:=a2.frozen 4;have y5:=a2.frozen 5;have H2:=Y3 hk hR a2;clear hk hR a2
 go_wp2_with fail
 clear x0 x1 x2 x3 x4 x5 y0 y1 y2 y3 y4 y5;obtain⟨hk,hR,a2⟩:=H2.out;obtain⟨k1,a1,hS⟩:=H1.out;have z2:=hk.size;have a3:=((((((((a2.set 1 (.int .i64 nn)).set 0 (.int .i64 er)).set 0 (.int .i64 er)).set 1 (.int .i64 nn)).set 2 (.int .u64 0)).set 3 (.bool false)).set 4 (.int .i64 0)).set 5 (.int .u32 0))
 have ka:=(((((((((Keeps.refl (fun j=>j=w.heap.size+1) w2).setCell (a:=⟨w.heap.size+1,1,none⟩) (.inl rfl) (.int .i64 nn)).setCell (a:=⟨w.heap.size+1,0,none⟩) (.inl rfl) (.int .i64 er)).setCell (a:=⟨w.heap.size+1,0,none⟩) (.inl rfl) (.int .i64 er)).setCell (a:=⟨w.heap.size+1,1,none⟩) (.inl rfl) (.int .i64 nn)).setCell (a:=⟨w.heap.size+1,2,none⟩) (.inl rfl) (.int .u64 0)).setCell (a:=⟨w.heap.size+1,3,none⟩) (.inl rfl) (.bool false)).setCell (a:=⟨w.heap.size+1,4,none⟩) (.inl rfl) (.int .i64 0)).setCell (a:=⟨w.heap.size+1,5,none⟩) (.inl rfl) (.int .u32 0))
 refine bodyPost_ret (kP rfl _ _ (w.heap.size+1) 38 #[.int .i64 er,.int .i64 nn,.int .u64 0,.bool false,.int .i64 0,.int .u32 0] (0,0) _ rfl a3 aw rfl (by kernel_rfl)) rfl ?_;exact⟨er,nn,0,false,w2,rfl,hR,ka,((k1.mono fun _ _ h=>bk h).trans hk fun _ h=>.inl h).trans ka fun j e=>.inr (by omega),by omega⟩
theorem MR{pk:Int}{S:Nat->Prop}{R:Int->Int->Int->Bool->al->Prop}(hS:∀j,S j->j<w.heap.size)(hcall:∀W,Keeps (fun _=>False) w W->w.heap.size+2<=W.heap.size->az aa 165 #[.pointer (some ⟨be,0,none⟩),.agg #[.int .i64 pk,.int .u32 jr],.int .i64 n] W fun e W'=>∃er nn v is,e=.returned (.tuple #[.int .i64 nn,.int .i64 er])∧v=0∧is=false∧Keeps S W W'∧R er nn v is W'):
 az aa 164 #[.pointer (some ⟨be,0,none⟩),.agg #[.int .i64 3,.int .i64 n,.int .i64 m,.int .i64 pk,.int .u32 jr,.slice dA xD xE,.slice none 0 0]] w fun e w'=>∃er nn v is W2,e=.returned (.agg #[.int .i64 er,.int .i64 nn,.int .u64 v,.bool is,.int .i64 0,.int .u32 0])∧R er nn v is W2∧Keeps (fun j=>j=w.heap.size+1) W2 w'∧Keeps S w w'∧w.heap.size+2<=W2.heap.size:=by
 obtain⟨w1,hw1⟩:∃w1,w1=(w.alloc (.cells #[.int .i64 3,.int .i64 n,.int .i64 m,.int .i64 pk,.int .u32 jr,.slice dA xD xE,.slice none 0 0] 43 (0,0))).alloc (.cells #[.int .i64 0,.int .i64 0,.int .u64 0,.bool false,.int .i64 0,.int .u32 0] 38 (0,0)):=⟨_,rfl⟩
 have k1:Keeps (fun _=>False) w w1:=by rw[hw1];exact((Keeps.refl _ w).alloc _).alloc _
 have s1:St w1 w.heap.size 43 (stv 3 n m pk jr (.slice dA xD xE)):=by rw[hw1];exact(St.new _ _ _).alloc _
 have a1:St w1 (w.heap.size+1) 38 (RO 0 0 0 false):=by
  have:=St.new (w.alloc (.cells #[.int .i64 3,.int .i64 n,.int .i64 m,.int .i64 pk,.int .u32 jr,.slice dA xD xE,.slice none 0 0] 43 (0,0))) 38 #[.int .i64 0,.int .i64 0,.int .u64 0,.bool false,.int .i64 0,.int .u32 0];rw[aq]at this;rw[hw1];exact this
 have hc:=hcall w1 k1 a1.lt;have d1:=s1.cell 1 rfl;have d2:=s1.cell 2 rfl;have d3:=s1.cell 3 rfl;have d4:=s1.cell 4 rfl;have d5:=s1.cell 5 rfl;have H1:=Y3 k1 a1 hS;clear k1 s1 a1 hS hcall;go_enter func164,ntmps164;rw[hw1]at d1 d2 d3 d4 d5
 go_wp2_with fail
 rw[<-hw1];clear hw1 d1 d2 d3 d4 d5;refine hc.mono ?_;clear hc;rintro e w2 ⟨er,nn,v,is,rfl,rfl,rfl,hk,hR⟩;have z1:=H1.out.2.1.lt;have a2:=H1.out.2.1.keep hk fun h=>by have:=H1.out.2.2 _ h;omega
 have x0:=a2.cell 0 rfl;have x1:=a2.cell 1 rfl;have x2:=a2.cell 2 rfl;have x3:=a2.cell 3 rfl;have x4:=a2.cell 4 rfl;have x5:=a2.cell 5 rfl;have y0:=a2.frozen 0;have y1:=a2.frozen 1;have y2:=a2.frozen 2;have y3:=a2.frozen 3;have y4:=a2.frozen 4;have y5:=a2.frozen 5;have H2:=Y3 hk hR a2;clear hk hR a2
 go_wp2_with fail
 clear x0 x1 x2 x3 x4 x5 y0 y1 y2 y3 y4 y5;obtain⟨hk,hR,a2⟩:=H2.out;obtain⟨k1,a1,hS⟩:=H1.out;have z2:=hk.size;have a3:=((((((((a2.set 1 (.int .i64 nn)).set 0 (.int .i64 er)).set 0 (.int .i64 er)).set 1 (.int .i64 nn)).set 2 (.int .u64 0)).set 3 (.bool false)).set 4 (.int .i64 0)).set 5 (.int .u32 0))
 have ka:=(((((((((Keeps.refl (fun j=>j=w.heap.size+1) w2).setCell (a:=⟨w.heap.size+1,1,none⟩) (.inl rfl) (.int .i64 nn)).setCell (a:=⟨w.heap.size+1,0,none⟩) (.inl rfl) (.int .i64 er)).setCell (a:=⟨w.heap.size+1,0,none⟩) (.inl rfl) (.int .i64 er)).setCell (a:=⟨w.heap.size+1,1,none⟩) (.inl rfl) (.int .i64 nn)).setCell (a:=⟨w.heap.size+1,2,none⟩) (.inl rfl) (.int .u64 0)).setCell (a:=⟨w.heap.size+1,3,none⟩) (.inl rfl) (.bool false)).setCell (a:=⟨w.heap.size+1,4,none⟩) (.inl rfl) (.int .i64 0)).setCell (a:=⟨w.heap.size+1,5,none⟩) (.inl rfl) (.int .u32 0))
 refine bodyPost_ret (kP rfl _ _ (w.heap.size+1) 38 #[.int .i64 er,.int .i64 nn,.int .u64 0,.bool false,.int .i64 0,.int .u32 0] (0,0) _ rfl a3 aw rfl (by kernel_rfl)) rfl ?_;exact⟨er,nn,0,false,w2,rfl,hR,ka,((k1.mono fun _ _ h=>bk h).trans hk fun _ h=>.inl h).trans ka fun j e=>.inr (by omega),by omega⟩
theorem MU{pk:Int}{S:Nat->Prop}{R:Int->Int->Int->Bool->al->Prop}(hS:∀j,S j->j<w.heap.size)(hcall:∀W,Keeps (fun _=>False) w W->w.heap.size+2<=W.heap.size->az aa 167 #[.pointer (some ⟨be,0,none⟩),.int .i64 n,.int .i64 m] W fun e W'=>∃er nn v is,e=.returned (.tuple #[.int .u64 v,.bool is,.int .i64 er])∧nn=0∧Keeps S W W'∧R er nn v is W'):
 az aa 166 #[.pointer (some ⟨be,0,none⟩),.agg #[.int .i64 4,.int .i64 n,.int .i64 m,.int .i64 pk,.int .u32 jr,.slice dA xD xE,.slice none 0 0]] w fun e w'=>∃er nn v is W2,e=.returned (.agg #[.int .i64 er,.int .i64 nn,.int .u64 v,.bool is,.int .i64 0,.int .u32 0])∧R er nn v is W2∧Keeps (fun j=>j=w.heap.size+1) W2 w'∧Keeps S w w'∧w.heap.size+2<=W2.heap.size:=by
 obtain⟨w1,hw1⟩:∃w1,w1=(w.alloc (.cells #[.int .i64 4,.int .i64 n,.int .i64 m,.int .i64 pk,.int .u32 jr,.slice dA xD xE,.slice none 0 0] 43 (0,0))).alloc (.cells #[.int .i64 0,.int .i64 0,.int .u64 0,.bool false,.int .i64 0,.int .u32 0] 38 (0,0)):=⟨_,rfl⟩
 have k1:Keeps (fun _=>False) w w1:=by rw[hw1];exact((Keeps.refl _ w).alloc _).alloc _
 have s1:St w1 w.heap.size 43 (stv 4 n m pk jr (.slice dA xD xE)):=by rw[hw1];exact(St.new _ _ _).alloc _
 have a1:St w1 (w.heap.size+1) 38 (RO 0 0 0 false):=by
  have:=St.new (w.alloc (.cells #[.int .i64 4,.int .i64 n,.int .i64 m,.int .i64 pk,.int .u32 jr,.slice dA xD xE,.slice none 0 0] 43 (0,0))) 38 #[.int .i64 0,.int .i64 0,.int .u64 0,.bool false,.int .i64 0,.int .u32 0];rw[aq]at this;rw[hw1];exact this
 have hc:=hcall w1 k1 a1.lt;have d1:=s1.cell 1 rfl;have d2:=s1.cell 2 rfl;have d3:=s1.cell 3 rfl;have d4:=s1.cell 4 rfl;have d5:=s1.cell 5 rfl;have H1:=Y3 k1 a1 hS;clear k1 s1 a1 hS hcall;go_enter func166,ntmps166;rw[hw1]at d1 d2 d3 d4 d5
 go_wp2_with fail
 rw[<-hw1];clear hw1 d1 d2 d3 d4 d5;refine hc.mono ?_;clear hc;rintro e w2 ⟨er,nn,v,is,rfl,rfl,hk,hR⟩;have z1:=H1.out.2.1.lt;have a2:=H1.out.2.1.keep hk fun h=>by have:=H1.out.2.2 _ h;omega
 have x0:=a2.cell 0 rfl;have x1:=a2.cell 1 rfl;have x2:=a2.cell 2 rfl;have x3:=a2.cell 3 rfl;have x4:=a2.cell 4 rfl;have x5:=a2.cell 5 rfl;have y0:=a2.frozen 0;have y1:=a2.frozen 1;have y2:=a2.frozen 2;have y3:=a2.frozen 3;have y4:=a2.frozen 4;have y5:=a2.frozen 5;have H2:=Y3 hk hR a2;clear hk hR a2
 go_wp2_with fail
 clear x0 x1 x2 x3 x4 x5 y0 y1 y2 y3 y4 y5;obtain⟨hk,hR,a2⟩:=H2.out;obtain⟨k1,a1,hS⟩:=H1.out;have z2:=hk.size;have a3:=(((((((((a2.set 2 (.int .u64 v)).set 3 (.bool is)).set 0 (.int .i64 er)).set 0 (.int .i64 er)).set 1 (.int .i64 0)).set 2 (.int .u64 v)).set 3 (.bool is)).set 4 (.int .i64 0)).set 5 (.int .u32 0))
 have ka:=((((((((((Keeps.refl (fun j=>j=w.heap.size+1) w2).setCell (a:=⟨w.heap.size+1,2,none⟩) (.inl rfl) (.int .u64 v)).setCell (a:=⟨w.heap.size+1,3,none⟩) (.inl rfl) (.bool is)).setCell (a:=⟨w.heap.size+1,0,none⟩) (.inl rfl) (.int .i64 er)).setCell (a:=⟨w.heap.size+1,0,none⟩) (.inl rfl) (.int .i64 er)).setCell (a:=⟨w.heap.size+1,1,none⟩) (.inl rfl) (.int .i64 0)).setCell (a:=⟨w.heap.size+1,2,none⟩) (.inl rfl) (.int .u64 v)).setCell (a:=⟨w.heap.size+1,3,none⟩) (.inl rfl) (.bool is)).setCell (a:=⟨w.heap.size+1,4,none⟩) (.inl rfl) (.int .i64 0)).setCell (a:=⟨w.heap.size+1,5,none⟩) (.inl rfl) (.int .u32 0))
 refine bodyPost_ret (kP rfl _ _ (w.heap.size+1) 38 #[.int .i64 er,.int .i64 0,.int .u64 v,.bool is,.int .i64 0,.int .u32 0] (0,0) _ rfl a3 aw rfl (by kernel_rfl)) rfl ?_;exact⟨er,0,v,is,w2,rfl,hR,ka,((k1.mono fun _ _ h=>bk h).trans hk fun _ h=>.inl h).trans ka fun j e=>.inr (by omega),by omega⟩
variable {D:Nat->Prop}{P:Nat->Int->Int->Int->Bool->al->Prop}
theorem aaB{pk:Int}(hp:St w bp 66 (zl 0 b (some ⟨be,0,none⟩) bF))(hg:kQ w mt)(hg0:bp≠0)(hg1:bp≠mt)(hD:∀j,D j->j<w.heap.size)(hbe:be<w.heap.size)(hne:be≠bp)(hbp:¬D bp)(hP:∀B er nn v is W W' (Z:Nat->Prop),P B er nn v is W->Keeps Z W W'->(∀a,Z a->¬D a∧a≠be∧a<B)->P B er nn v is W')(hM:∀B B' er nn v is W,P B er nn v is W->B'<=B->P B' er nn v is W)(hcall:∀W,Keeps (fun j=>j=bp) w W->w.heap.size<=W.heap.size->az aa 163 #[.pointer (some ⟨be,0,none⟩),.slice dA xD xE,.int .i64 n] W fun e W'=>∃er nn v is,e=.returned (.tuple #[.int .i64 nn,.int .i64 er])∧v=0∧is=false∧Keeps (fun j=>D j∨j=be) W W'∧P W.heap.size er nn v is W'):
 az aa 8 #[.pointer (some ⟨bp,0,none⟩),.agg #[.int .i64 2,.int .i64 n,.int .i64 m,.int .i64 pk,.int .u32 jr,.slice dA xD xE,.slice none 0 0]] w fun e w'=>∃er nn v is,e=.returned (.agg #[.int .i64 er,.int .i64 nn,.int .u64 v,.bool is,.int .i64 0,.int .u32 0])∧P (w.heap.size+2) er nn v is w'∧St w' bp 66 (zl 0 b (some ⟨be,0,none⟩) bF)∧Keeps (fun j=>(D j∨j=be)∨j=bp) w w':=by
 refine(RP (kk:=2) (ff:=162) (by simp) (S:=fun j=>D j∨j=be) (R:=fun er nn v is W=>P (w.heap.size+2) er nn v is W) hp hg hg0 hg1 ⟨_,_,_,rfl⟩ (fun j h=>h.elim (hD j) fun e=>e▸hbe) (fun h=>h.elim hbp fun e=>hne e.symm) fun W hW hz=>?_).mono ?_
 .refine(MQ (S:=fun j=>D j∨j=be) (R:=fun er nn v is W'=>P (W.heap.size+2) er nn v is W') (fun j h=>?_) fun W1 hW1 hz1=>?_).mono ?_
  .rcases h with h|h
   .have:=hD j h;omega
   .omega
  .refine(hcall W1 (hW.trans hW1 fun _ h=>h.elim) (by omega)).mono ?_;rintro e W' ⟨er,nn,v,is,he,h1,h2,hk,FP⟩;exact⟨er,nn,v,is,he,h1,h2,hk,hM _ _ _ _ _ _ _ FP hz1⟩
  .rintro e W' ⟨er,nn,v,is,W2,rfl,FP,hka,RQ,hz2⟩;exact⟨er,nn,v,is,rfl,RQ,hM _ _ _ _ _ _ _ (hP _ _ _ _ _ _ _ _ FP hka fun a e=>⟨fun h=>by have:=hD _ h;have:=hW.size;omega,by have:=hW.size;omega,by omega⟩) (by omega)⟩
 .rintro e w' ⟨er,nn,v,is,W2,rfl,FP,hka,hp',RQ,hz2⟩;have hpl:=hp.lt;refine⟨er,nn,v,is,rfl,?_,hp',RQ⟩;refine hP _ _ _ _ _ _ _ _ FP hka fun a e=>?_
  rcases e with e|e
  .exact⟨e▸hbp,fun h=>hne (h▸e),by omega⟩
  .exact⟨fun h=>by have:=hD _ h;omega,by omega,by omega⟩
theorem aaC{pk:Int}(hp:St w bp 66 (zl 0 b (some ⟨be,0,none⟩) bF))(hg:kQ w mt)(hg0:bp≠0)(hg1:bp≠mt)(hD:∀j,D j->j<w.heap.size)(hbe:be<w.heap.size)(hne:be≠bp)(hbp:¬D bp)(hP:∀B er nn v is W W' (Z:Nat->Prop),P B er nn v is W->Keeps Z W W'->(∀a,Z a->¬D a∧a≠be∧a<B)->P B er nn v is W')(hM:∀B B' er nn v is W,P B er nn v is W->B'<=B->P B' er nn v is W)(hcall:∀W,Keeps (fun j=>j=bp) w W->w.heap.size<=W.heap.size->az aa 165 #[.pointer (some ⟨be,0,none⟩),.agg #[.int .i64 pk,.int .u32 jr],.int .i64 n] W fun e W'=>∃er nn v is,e=.returned (.tuple #[.int .i64 nn,.int .i64 er])∧v=0∧is=false∧Keeps (fun j=>D j∨j=be) W W'∧P W.heap.size er nn v is W'):
 az aa 8 #[.pointer (some ⟨bp,0,none⟩),.agg #[.int .i64 3,.int .i64 n,.int .i64 m,.int .i64 pk,.int .u32 jr,.slice dA xD xE,.slice none 0 0]] w fun e w'=>∃er nn v is,e=.returned (.agg #[.int .i64 er,.int .i64 nn,.int .u64 v,.bool is,.int .i64 0,.int .u32 0])∧P (w.heap.size+2) er nn v is w'∧St w' bp 66 (zl 0 b (some ⟨be,0,none⟩) bF)∧Keeps (fun j=>(D j∨j=be)∨j=bp) w w':=by
 refine(RP (kk:=3) (ff:=164) (by simp) (S:=fun j=>D j∨j=be) (R:=fun er nn v is W=>P (w.heap.size+2) er nn v is W) hp hg hg0 hg1 ⟨_,_,_,rfl⟩ (fun j h=>h.elim (hD j) fun e=>e▸hbe) (fun h=>h.elim hbp fun e=>hne e.symm) fun W hW hz=>?_).mono ?_
 .refine(MR (S:=fun j=>D j∨j=be) (R:=fun er nn v is W'=>P (W.heap.size+2) er nn v is W') (fun j h=>?_) fun W1 hW1 hz1=>?_).mono ?_
  .rcases h with h|h
   .have:=hD j h;omega
   .omega
  .refine(hcall W1 (hW.trans hW1 fun _ h=>h.elim) (by omega)).mono ?_;rintro e W' ⟨er,nn,v,is,he,h1,h2,hk,FP⟩;exact⟨er,nn,v,is,he,h1,h2,hk,hM _ _ _ _ _ _ _ FP hz1⟩
  .rintro e W' ⟨er,nn,v,is,W2,rfl,FP,hka,RQ,hz2⟩;exact⟨er,nn,v,is,rfl,RQ,hM _ _ _ _ _ _ _ (hP _ _ _ _ _ _ _ _ FP hka fun a e=>⟨fun h=>by have:=hD _ h;have:=hW.size;omega,by have:=hW.size;omega,by omega⟩) (by omega)⟩
 .rintro e w' ⟨er,nn,v,is,W2,rfl,FP,hka,hp',RQ,hz2⟩;have hpl:=hp.lt;refine⟨er,nn,v,is,rfl,?_,hp',RQ⟩;refine hP _ _ _ _ _ _ _ _ FP hka fun a e=>?_
  rcases e with e|e
  .exact⟨e▸hbp,fun h=>hne (h▸e),by omega⟩
  .exact⟨fun h=>by have:=hD _ h;omega,by omega,by omega⟩
theorem aaD{pk:Int}(hp:St w bp 66 (zl 0 b (some ⟨be,0,none⟩) bF))(hg:kQ w mt)(hg0:bp≠0)(hg1:bp≠mt)(hD:∀j,D j->j<w.heap.size)(hbe:be<w.heap.size)(hne:be≠bp)(hbp:¬D bp)(hP:∀B er nn v is W W' (Z:Nat->Prop),P B er nn v is W->Keeps Z W W'->(∀a,Z a->¬D a∧a≠be∧a<B)->P B er nn v is W')(hM:∀B B' er nn v is W,P B er nn v is W->B'<=B->P B' er nn v is W)(hcall:∀W,Keeps (fun j=>j=bp) w W->w.heap.size<=W.heap.size->az aa 167 #[.pointer (some ⟨be,0,none⟩),.int .i64 n,.int .i64 m] W fun e W'=>∃er nn v is,e=.returned (.tuple #[.int .u64 v,.bool is,.int .i64 er])∧nn=0∧Keeps (fun j=>D j∨j=be) W W'∧P W.heap.size er nn v is W'):
 az aa 8 #[.pointer (some ⟨bp,0,none⟩),.agg #[.int .i64 4,.int .i64 n,.int .i64 m,.int .i64 pk,.int .u32 jr,.slice dA xD xE,.slice none 0 0]] w fun e w'=>∃er nn v is,e=.returned (.agg #[.int .i64 er,.int .i64 nn,.int .u64 v,.bool is,.int .i64 0,.int .u32 0])∧P (w.heap.size+2) er nn v is w'∧St w' bp 66 (zl 0 b (some ⟨be,0,none⟩) bF)∧Keeps (fun j=>(D j∨j=be)∨j=bp) w w':=by
 refine(RP (kk:=4) (ff:=166) (by simp) (S:=fun j=>D j∨j=be) (R:=fun er nn v is W=>P (w.heap.size+2) er nn v is W) hp hg hg0 hg1 ⟨_,_,_,rfl⟩ (fun j h=>h.elim (hD j) fun e=>e▸hbe) (fun h=>h.elim hbp fun e=>hne e.symm) fun W hW hz=>?_).mono ?_
 .refine(MU (S:=fun j=>D j∨j=be) (R:=fun er nn v is W'=>P (W.heap.size+2) er nn v is W') (fun j h=>?_) fun W1 hW1 hz1=>?_).mono ?_
  .rcases h with h|h
   .have:=hD j h;omega
   .omega
  .refine(hcall W1 (hW.trans hW1 fun _ h=>h.elim) (by omega)).mono ?_;rintro e W' ⟨er,nn,v,is,he,h1,hk,FP⟩;exact⟨er,nn,v,is,he,h1,hk,hM _ _ _ _ _ _ _ FP hz1⟩
  .rintro e W' ⟨er,nn,v,is,W2,rfl,FP,hka,RQ,hz2⟩;exact⟨er,nn,v,is,rfl,RQ,hM _ _ _ _ _ _ _ (hP _ _ _ _ _ _ _ _ FP hka fun a e=>⟨fun h=>by have:=hD _ h;have:=hW.size;omega,by have:=hW.size;omega,by omega⟩) (by omega)⟩
 .rintro e w' ⟨er,nn,v,is,W2,rfl,FP,hka,hp',RQ,hz2⟩;have hpl:=hp.lt;refine⟨er,nn,v,is,rfl,?_,hp',RQ⟩;refine hP _ _ _ _ _ _ _ _ FP hka fun a e=>?_
  rcases e with e|e
  .exact⟨e▸hbp,fun h=>hne (h▸e),by omega⟩
  .exact⟨fun h=>by have:=hD _ h;omega,by omega,by omega⟩
structure zB (w:al) (N mt b bp be bF room c:Nat) (D:Nat->Prop) (F:Files) (ev:List bb):Prop where
 disk:aV w D b room F c
 p:St w bp 66 (zl 0 b (some ⟨be,0,none⟩) bF)
 e:St w be 111 ev
 RA:¬D be
 Sn:¬D bp
 ne:be≠bp
 lo:∀j,D j->N<=j
 RS:N<=bp
 V6:N<=be
 glob:kQ w mt
 n0:0<N
 nm:mt<N
theorem zB.keep{S:Nat->Prop}{w w':al}{N mt b bp be bF room c:Nat}{D:Nat->Prop}{F:Files}{ev:List bb}(h:zB w N mt b bp be bF room c D F ev)(hk:Keeps S w w')(h1:∀j,D j->¬S j)(h2:¬S bp)(h3:¬S be)(h4:¬S 0)(h5:¬S mt):zB w' N mt b bp be bF room c D F ev:=
 ⟨h.disk.keep hk h1,h.p.keep hk h2,h.e.keep hk h3,h.RA,h.Sn,h.ne,h.lo,h.RS,h.V6,h.glob.keep hk h4 h5,h.n0,h.nm⟩
variable {F:Files}
theorem zm{cp n m s:Nat}{A:Option cU}{l:List Int}{es:List jB}(h:zB w N mt b bp be bF room c D F (iD b bF 0 0 0 0 0 0 false))(hF:∀x,F x=none)(hl0:Kd.C (Kd.int .u8) w A l.length l)(hA:∀a,A=some a->a.block≠bp)(hc:l.length<=cp)(hl:l=kG (n:Int) es)(hm:es.length=m)(hm2:m<=39)(he:∀e∈es,Ls (n:Int) e)(hn:n<=12)(hs:1<=s)(hs2:s<=6)(hb:1<=bF)(hb2:bF<=20)(hroom:c+s*(m+2)+6*m+20<=room)(hc0:c<50000):
 az aa 8 #[.pointer (some ⟨bp,0,none⟩),.agg #[.int .i64 2,.int .i64 (s:Nat),.int .i64 0,.int .i64 0,.int .u32 0,.slice A l.length cp,.slice none 0 0]] w fun e w'=>e=.returned (.agg #[.int .i64 0,.int .i64 0,.int .u64 0,.bool false,.int .i64 0,.int .u32 0])∧∃D' c' F' Rs,zB w' N mt b bp be bF room c' D' F' (iD b bF 1 n s (-1) 0 0 true)∧
  c'<=c+s*(m+2)+5∧(∀C,jw n Rs 0 C F')∧Rs.length=s∧Rs.flatten.Perm (es.map ed)∧Keeps (fun j=>(D j∨j=be)∨j=bp) w w'∧∀j,D' j->D j∨w.heap.size<=j:=by
 have hDl:∀j,D j->j<w.heap.size:=fun j hj=>h.disk.lt hj
 have h0:=h.n0;have hmt:=h.nm;have hb1:=h.RS;have hb3:=h.V6;have hpl:=h.p.lt;refine(aaB (D:=D) (P:=fun B er nn v is W'=>(er=0∧nn=0∧v=0∧is=false)∧∃D' c' F' Rs,aV W' D' b room F' c'∧c'<=c+s*(m+2)+5∧(∀C,jw n Rs 0 C F')∧Rs.length=s∧Rs.flatten.Perm (es.map ed)∧St W' be 111 (iD b bF 1 n s (-1) 0 0 true)∧¬D' be∧∀j,D' j->D j∨B<=j)
  h.p h.glob (by omega) (by omega) hDl h.e.lt h.ne h.Sn ?_ ?_ ?_).mono ?_
 .rintro B er nn v is W W' Z ⟨h1,D',c',F',Rs,h2,h3,h4,h5,h6,h7,h8,h9⟩ hk hZ;exact⟨h1,D',c',F',Rs,h2.keep hk fun j hj hz=>by
   obtain⟨z1,z2,z3⟩:=hZ j hz;rcases h9 j hj with h|h
   .exact z1 h
   .omega,h3,h4,h5,h6,h7.keep hk fun hz=>(hZ _ hz).2.1 rfl,h8,h9⟩
 .rintro B B' er nn v is W ⟨h1,D',c',F',Rs,h2,h3,h4,h5,h6,h7,h8,h9⟩ hB;exact⟨h1,D',c',F',Rs,h2,h3,h4,h5,h6,h7,h8,fun j hj=>(h9 j hj).imp id fun h=>bt hB h⟩
 .intro W hW hz;have hlW:=Kd.Am (g:=bp) (fun h=>h) hl0 (fun ad e _=>hA ad e) W ⟨hW.size,fun k hk hne _=>hW.at_ hk hne⟩;refine(RN (h.disk.keep hW fun j hj e=>h.Sn (e▸hj)) (h.e.keep hW h.ne) h.RA hF hlW hc hl hm hm2 he hn hs hs2 hb hb2 hroom hc0).mono ?_;rintro e W' ⟨rfl,D',c',F',Rs,h2,h3,h4,h5,h6,h7,h8,h9,h10⟩;exact⟨0,0,0,false,rfl,rfl,rfl,h9,⟨rfl,rfl,rfl,rfl⟩,D',c',F',Rs,h2,h3,h4,h5,h6,h7,h8,h10⟩
 .rintro e w' ⟨er,nn,v,is,rfl,⟨⟨rfl,rfl,rfl,rfl⟩,D',c',F',Rs,h2,h3,h4,h5,h6,h7,h8,h9⟩,hp',hk⟩;exact⟨rfl,D',c',F',Rs,⟨h2,hp',h7,h8,fun hj=>(h9 _ hj).elim h.Sn fun h=>by omega,h.ne,fun j hj=>(h9 j hj).elim (h.lo j) fun h=>by omega,h.RS,h.V6,h.glob.keep hk (fun hj=>by
   rcases hj with(hj|hj)|hj
   .have:=h.lo _ hj;omega
   .omega
   .omega) (fun hj=>by
   rcases hj with(hj|hj)|hj
   .have:=h.lo _ hj;omega
   .omega
   .omega),h.n0,h.nm⟩,h3,h4,h5,h6,hk,fun j hj=>(h9 j hj).imp id fun h=>by omega⟩
theorem Kv{n s st most:Nat}{Rs:List (List Ed)}{C0:Nat->List Int×List Bool}{I:Nat->List Int->List Bool->Prop}(h:zB w N mt b bp be bF room c D F (iD b bF 1 n s (-1) 0 0 true))(hG:jw n Rs 0 C0 F)(hP:Mi kd st n)(hn:n<=12)(hR:Rs.length=s)(hs:1<=s)(hs2:s<=6)(hok:∀r∈Rs,∀e∈r,e.ok n)(hfl:Rs.flatten.length<=39)(hI:Rel n kd st (Rs.flatten.map uL) I)(hb:1<=bF)(hm:most<=20)(hroom:c+16*(most+2)+200<=room)(hc0:c<60000):
 az aa 8 #[.pointer (some ⟨bp,0,none⟩),.agg #[.int .i64 3,.int .i64 (most:Nat),.int .i64 0,.int .i64 kd,.int .u32 (st:Nat),.slice none 0 0,.slice none 0 0]] w fun e w'=>∃K C,e=.returned (.agg #[.int .i64 0,.int .i64 (K:Nat),.int .u64 0,.bool false,.int .i64 0,.int .u32 0])∧K<=most∧(K=most∨Still n (C K).2)∧(∀j,j<K->¬Still n (C j).2)∧(∀j,j<=K->I j (C j).1 (C j).2)∧
  ∃D' c' F',zB w' N mt b bp be bF room c' D' F' (iD b bF (2+K) n s (K:Nat) kd st true)∧jw n Rs (K+1) C F'∧Keeps (fun j=>(D j∨j=be)∨j=bp) w w'∧∀j,D' j->D j∨w.heap.size<=j:=by
 have hDl:∀j,D j->j<w.heap.size:=fun j hj=>h.disk.lt hj
 have h0:=h.n0;have hmt:=h.nm;have hb1:=h.RS;have hb3:=h.V6;have hpl:=h.p.lt;refine(aaC (D:=D) (P:=fun B er nn v is W'=>(er=0∧v=0∧is=false)∧∃(K:Nat) (C:Nat->List Int×List Bool) (D':Nat->Prop) (c':Nat) (F':Files),nn=(K:Nat)∧K<=most∧(K=most∨Still n (C K).2)∧(∀j,j<K->¬Still n (C j).2)∧(∀j,j<=K->I j (C j).1 (C j).2)∧aV W' D' b room F' c'∧jw n Rs (K+1) C F'∧St W' be 111 (iD b bF (2+K) n s (K:Nat) kd st true)∧¬D' be∧∀j,D' j->D j∨B<=j)
  h.p h.glob (by omega) (by omega) hDl h.e.lt h.ne h.Sn ?_ ?_ ?_).mono ?_
 .rintro B er nn v is W W' Z ⟨h1,K,C,D',c',F',a1,a2,a3,a4,a5,h2,h6,h7,h8,h9⟩ hk hZ;exact⟨h1,K,C,D',c',F',a1,a2,a3,a4,a5,h2.keep hk fun j hj hz=>by
   obtain⟨z1,z2,z3⟩:=hZ j hz;rcases h9 j hj with h|h
   .exact z1 h
   .omega,h6,h7.keep hk fun hz=>(hZ _ hz).2.1 rfl,h8,h9⟩
 .rintro B B' er nn v is W ⟨h1,K,C,D',c',F',a1,a2,a3,a4,a5,h2,h6,h7,h8,h9⟩ hB;exact⟨h1,K,C,D',c',F',a1,a2,a3,a4,a5,h2,h6,h7,h8,fun j hj=>(h9 j hj).imp id fun h=>bt hB h⟩
 .intro W hW hz;refine(aaw (kd:=kd) (st:=st) (h.disk.keep hW fun j hj e=>h.Sn (e▸hj)) (h.e.keep hW h.ne) h.RA hG hP hn hR hs hs2 hok hfl hI hb (by omega) hm hroom hc0).mono ?_;rintro e W' ⟨K,C,D',c',F',rfl,a2,a3,a4,a5,h2,h6,h7,h8,h9,h10⟩;rw[show 1+1+K=2+K by omega]at h7;exact⟨0,K,0,false,rfl,rfl,rfl,h9,⟨rfl,rfl,rfl⟩,K,C,D',c',F',rfl,a2,a3,a4,a5,h2,h6,h7,h8,h10⟩
 .rintro e w' ⟨er,nn,v,is,rfl,⟨⟨rfl,rfl,rfl⟩,K,C,D',c',F',rfl,a2,a3,a4,a5,h2,h6,h7,h8,h9⟩,hp',hk⟩;exact⟨K,C,rfl,a2,a3,a4,a5,D',c',F',⟨h2,hp',h7,h8,fun hj=>(h9 _ hj).elim h.Sn fun h=>by omega,h.ne,fun j hj=>(h9 j hj).elim (h.lo j) fun h=>by omega,h.RS,h.V6,h.glob.keep hk (fun hj=>by
   rcases hj with(hj|hj)|hj
   .have:=h.lo _ hj;omega
   .omega
   .omega) (fun hj=>by
   rcases hj with(hj|hj)|hj
   .have:=h.lo _ hj;omega
   .omega
   .omega),h.n0,h.nm⟩,h6,hk,fun j hj=>(h9 j hj).imp id fun h=>by omega⟩
variable {L:List Bool}{V:List Int}
theorem BN{n s st at_ v q:Nat}(h:zB w N mt b bp be bF room c D F (iD b bF q n s (K:Nat) kd st true))(hF:F (zy at_)=some (mP at_ n V L))(hat:at_<=K)(hK:K<100)(hv:v<n)(hn:n<=12)(hV:V.length=n)(hL:L.length=n)(hr:∀v,v<n->0<=V.getD v 0∧V.getD v 0<18446744073709551616):
 az aa 8 #[.pointer (some ⟨bp,0,none⟩),.agg #[.int .i64 4,.int .i64 (at_:Nat),.int .i64 (v:Nat),.int .i64 0,.int .u32 0,.slice none 0 0,.slice none 0 0]] w fun e w'=>e=.returned (.agg #[.int .i64 0,.int .i64 0,.int .u64 (V.getD v 0),.bool (L.getD v false),.int .i64 0,.int .u32 0])∧zB w' N mt b bp be bF room c D F (iD b bF q n s (K:Nat) kd st true)∧Keeps (fun j=>(D j∨j=be)∨j=bp) w w':=by
 have hDl:∀j,D j->j<w.heap.size:=fun j hj=>h.disk.lt hj
 have h0:=h.n0;have hmt:=h.nm;have hb1:=h.RS;have hb3:=h.V6;refine(aaD (D:=D) (P:=fun B er nn x is W'=>(er=0∧nn=0∧x=V.getD v 0∧is=L.getD v false)∧aV W' D b room F c∧St W' be 111 (iD b bF q n s (K:Nat) kd st true))
  h.p h.glob (by omega) (by omega) hDl h.e.lt h.ne h.Sn ?_ ?_ ?_).mono ?_
 .rintro B er nn x is W W' Z ⟨h1,h2,h7⟩ hk hZ;exact⟨h1,h2.keep hk fun j hj hz=>(hZ j hz).1 hj,h7.keep hk fun hz=>(hZ _ hz).2.1 rfl⟩
 .rintro B B' er nn x is W hh hB;exact hh
 .intro W hW hz;refine(V3 (h.disk.keep hW fun j hj e=>h.Sn (e▸hj)) (h.e.keep hW h.ne) h.RA hF hat hK hv hn hV hL hr).mono ?_;rintro e W' ⟨rfl,h2,h7,h9⟩;exact⟨0,0,_,_,rfl,rfl,h9.mono fun _ _ h=>.inl h,⟨rfl,rfl,rfl,rfl⟩,h2,h7⟩
 .rintro e w' ⟨er,nn,x,is,rfl,⟨⟨rfl,rfl,rfl,rfl⟩,h2,h7⟩,hp',hk⟩;exact⟨rfl,⟨h2,hp',h7,h.RA,h.Sn,h.ne,h.lo,h.RS,h.V6,h.glob.keep hk (fun hj=>by
   rcases hj with(hj|hj)|hj
   .have:=h.lo _ hj;omega
   .omega
   .omega) (fun hj=>by
   rcases hj with(hj|hj)|hj
   .have:=h.lo _ hj;omega
   .omega
   .omega),h.n0,h.nm⟩,hk⟩
theorem FQ(hD:aV w D b room F c)(hp:St w bp 66 (zl 0 b none bF))(hbp:¬D bp)(hF:∀x,F x=none)(hb:1<=bF)(lo:∀j,D j->N<=j)(RS:N<=bp)(hg:kQ w mt)(h0:0<N)(hmt:mt<N):
 az aa 8 #[.pointer (some ⟨bp,0,none⟩),.agg #[.int .i64 1,.int .i64 0,.int .i64 0,.int .i64 0,.int .u32 0,.slice none 0 0,.slice none 0 0]] w fun e w'=>e=.returned (.agg #[.int .i64 0,.int .i64 0,.int .u64 0,.bool false,.int .i64 0,.int .u32 0])∧∃be,zB w' N mt b bp be bF room c D F (iD b bF 0 0 0 0 0 0 false)∧w.heap.size<=be∧Keeps (fun j=>D j∨j=bp) w w':=by
 refine(MP hD hp hbp hF hb).mono ?_;rintro e w' ⟨rfl,be,h1,h2,h3,h4,h5⟩;have hpl:=hp.lt;refine⟨rfl,be,⟨h4,h1,h3,fun h=>by have:=hD.lt h;omega,hbp,by omega,lo,RS,by omega,hg.keep h5 (fun h=>?_) (fun h=>?_),h0,hmt⟩,h2,h5⟩
 .rcases h with h|h
  .have:=lo _ h;omega
  .omega
 .rcases h with h|h
  .have:=lo _ h;omega
  .omega
theorem FR(w:al)(room bF:Nat)(hr:room<=1000000):
 az aa 9 #[.int .i64 (room:Nat),.int .i64 (bF:Nat)] w fun e w'=>∃bp b D,e=.returned (.pointer (some ⟨bp,0,none⟩))∧aV w' D b room (fun _=>none) 0∧St w' bp 66 (zl 0 b none bF)∧¬D bp∧w.heap.size<=bp∧(∀k,D k->w.heap.size<=k)∧Below w.heap.size w w':=aaA w room bF hr
variable {E:zH}
theorem FT{n st:Nat}(hE:∀e∈E,e.1<n∧e.2<n)(hst:st<n):Rel n 1 st E (fun j V L=>mE n E st j V L∧V.length=n∧L.length=n):=by
 refine⟨⟨IY hst,?_,?_⟩,fun j V L V' L' hj h hs=>⟨h.1.step hE (by omega) hs,hs.v,hs.l⟩,fun j V L hj h v hv hl=>?_⟩
 .unfold iV;rw[if_pos rfl,bj,cD]
 .unfold jE;rw[if_pos rfl,bj,cD]
 .have h1:=h.1.l v hv;rw[hl]at h1;have h2:far E st j v=some j:=by simpa using h1.symm
  rw[h.1.v v hv,h2];show 0<=(j:Int)∧(j:Int)+1<_;omega
theorem zn{n st j:Nat}(h:mE n E st j V L)(hj:j<1000):∀v,v<n->0<=V.getD v 0∧V.getD v 0<18446744073709551616:=fun v hv=>by
 rw[h.v v hv];cases hf:far E st j v with
 |none=>show(0:Int)<=never∧never<_;unfold never;omega
 |some a=>
  have:=uY _ _ _ hf;show(0:Int)<=(a:Int)∧(a:Int)<_;omega
theorem xG:far [(0,1)] 0 1 1=some 1:=by
 show nT [(0,1)] 0 (far [(0,1)] 0 0) 1=some 1;unfold nT;have h1:far [(0,1)] 0 0 1=none:=rfl;have h0:far [(0,1)] 0 0 0=some 0:=rfl;rw[h1];exact if_pos ⟨(0,1),by simp,rfl,h0⟩
theorem FU(j:Nat):far [(0,1)] 0 j 0=some 0:=by
 induction j with
 |zero=>rfl
 |succ j ih=>exact om ih
theorem MV{C:Nat->List Int×List Bool}(h1:K=5∨Still 2 (C K).2)(h2:∀j,j<K->¬Still 2 (C j).2)(hI:∀j,j<=K->mE 2 [(0,1)] 0 j (C j).1 (C j).2):K=2:=by
 have n0:∀j,j<=K->j=0->¬Still 2 (C j).2:=fun j hj e hs=>by
  subst e;have:=(hI 0 hj).l 0 (by omega);rw[hs 0 (by omega),FU]at this;cases this
 have n1:∀j,j<=K->j=1->¬Still 2 (C j).2:=fun j hj e hs=>by
  subst e;have:=(hI 1 hj).l 1 (by omega);rw[hs 1 (by omega),xG]at this;cases this
 have y2:2<=K->Still 2 (C 2).2:=fun hK v hv=>by
  rw[(hI 2 hK).l v hv];rcases(by omega:v=0∨v=1)with rfl|rfl
  .rw[FU];rfl
  .rw[om xG];rfl
 rcases(by omega:K=0∨K=1∨K=2∨2<K)with rfl|rfl|h|h
 .exact(n0 0 (ae _) rfl (h1.resolve_left (by omega))).elim
 .exact(n1 1 (ae _) rfl (h1.resolve_left (by omega))).elim
 .exact h
 .exact(h2 2 h (y2 (by omega))).elim
theorem zB.grow{w':al}{ev:List bb}(h:zB w N mt b bp be bF room c D F ev)(hk:Keeps (fun _=>False) w w'):zB w' N mt b bp be bF room c D F ev:=h.keep hk (fun _ _=>id) id id id id
theorem zB.far{a:Nat}{ev:List bb}(h:zB w N mt b bp be bF room c D F ev)(ha:w.heap.size<=a):¬((D a∨a=be)∨a=bp):=by
 rintro((h1|h1)|h1)
 .have:=h.disk.lt h1;omega
 .have:=h.e.lt;omega
 .have:=h.p.lt;omega
theorem zB.hi{X Y:al}{ev:List bb}(h:zB w N mt b bp be bF room c D F ev)(hk:Keeps (fun j=>(D j∨j=be)∨j=bp) X Y):Keeps (fun j=>N<=j) X Y:=
 hk.mono fun k _ hh=>by
  rcases hh with(h1|h1)|h1
  .exact h.lo _ h1
  .exact h1▸h.V6
  .exact h1▸h.RS
def zo:List Int:=[2,0,0,0,0,0,0,0,1,0,0,0,7,0,0,0]
theorem MW:zo=kG ((2:Nat):Int) [⟨0,1,7⟩]:=by decide
theorem V7(hg:kQ w mt)(h0:0<w.heap.size)(hmt:mt<w.heap.size):
 az aa 5 #[] w fun e w'=>e=.returned (.bool true)∧Below w.heap.size w w':=by
 have hn:=FR w 1000 4 (by omega);have HG:=Y3 hg h0 hmt;clear hg h0 hmt;go_enter func5,ntmps5
 go_wp2_with fail
 refine hn.mono ?_;clear hn;rintro e w1 ⟨bp,b,D,rfl,hD,hp,hbp,hle,hlo,hb1⟩;have H1:=Y6 hD hp hbp hle hlo hb1;clear hD hp hbp hle hlo hb1
 go_wp2_with fail
 obtain⟨hD,hp,hbp,hle,hlo,hb1⟩:=H1.out;obtain⟨hg,h0,hmt⟩:=HG.out;refine(FQ (N:=w.heap.size) (mt:=mt) hD hp hbp (fun _=>rfl) (by omega) hlo hle (hg.keep (Keeps.of_below (S:=fun _=>False) hb1) id id) h0 hmt).mono ?_;rintro e w2 ⟨rfl,be,hP2,hbe,hk2⟩;have H2:=Y3 hP2 hbe hk2;have hb1':=Y3 hb1 hlo hle;clear hD hp hbp hle hlo hb1 hg h0 hmt hP2 hbe hk2 H1 HG
 go_wp2_with fail
 obtain⟨hP2,hbe,hk2⟩:=H2.out;have kA:=(Keeps.refl (fun _=>False) w2).alloc (.cells #[.int .i64 0,.int .i64 0,.int .u64 0,.bool false,.int .i64 0,.int .u32 0] 38 (0,0));have a3:=(St.new w2 38 #[.int .i64 0,.int .i64 0,.int .u64 0,.bool false,.int .i64 0,.int .u32 0]).alloc (.cells #[.int .u8 2,.int .u8 0,.int .u8 0,.int .u8 0,.int .u8 0,.int .u8 0,.int .u8 0,.int .u8 0,.int .u8 1,.int .u8 0,.int .u8 0,.int .u8 0,.int .u8 7,.int .u8 0,.int .u8 0,.int .u8 0] 5 (0,0));have kB:=kA.alloc (.cells #[.int .u8 2,.int .u8 0,.int .u8 0,.int .u8 0,.int .u8 0,.int .u8 0,.int .u8 0,.int .u8 0,.int .u8 1,.int .u8 0,.int .u8 0,.int .u8 0,.int .u8 7,.int .u8 0,.int .u8 0,.int .u8 0] 5 (0,0));have hb3:=rA (n:=16) (St.new (w2.alloc (.cells #[.int .i64 0,.int .i64 0,.int .u64 0,.bool false,.int .i64 0,.int .u32 0] 38 (0,0))) 5 #[.int .u8 2,.int .u8 0,.int .u8 0,.int .u8 0,.int .u8 0,.int .u8 0,.int .u8 0,.int .u8 0,.int .u8 1,.int .u8 0,.int .u8 0,.int .u8 0,.int .u8 7,.int .u8 0,.int .u8 0,.int .u8 0]) rfl (by unfold maxLen;omega) (cJ _);rw[aq]at hb3;have z3:((w2.alloc (.cells #[.int .i64 0,.int .i64 0,.int .u64 0,.bool false,.int .i64 0,.int .u32 0] 38 (0,0))).alloc (.cells #[.int .u8 2,.int .u8 0,.int .u8 0,.int .u8 0,.int .u8 0,.int .u8 0,.int .u8 0,.int .u8 0,.int .u8 1,.int .u8 0,.int .u8 0,.int .u8 0,.int .u8 7,.int .u8 0,.int .u8 0,.int .u8 0] 5 (0,0))).heap.size=w2.heap.size+2:=by simp
 generalize (w2.alloc (.cells #[.int .i64 0,.int .i64 0,.int .u64 0,.bool false,.int .i64 0,.int .u32 0] 38 (0,0))).alloc (.cells #[.int .u8 2,.int .u8 0,.int .u8 0,.int .u8 0,.int .u8 0,.int .u8 0,.int .u8 0,.int .u8 0,.int .u8 1,.int .u8 0,.int .u8 0,.int .u8 0,.int .u8 7,.int .u8 0,.int .u8 0,.int .u8 0] 5 (0,0))=w3 at*;have wX:Kd.C (Kd.int .u8) w3 (some ⟨w2.heap.size+1,0,none⟩) zo.length zo:=Kd.dP (d:=(0:Int)) (gD (show World.ownsRow _ 0 5 1 (.slice (some ⟨w2.heap.size+1,0,none⟩) 16 16) 16 (nums .u8 zo)from hb3));have hP3:=hP2.grow kB;have hpl:=hP2.p.lt;refine(zm (n:=2) (m:=1) (s:=1) (es:=[⟨0,1,7⟩]) (l:=zo) (cp:=16) hP3 (fun _=>rfl) wX (fun a e=>by cases e;show w2.heap.size+1≠bp;omega) (ae _) MW rfl (by omega) (fun e h=>by rw[cd.1 h];unfold Ls;dsimp only;omega) (by omega) (by omega) (by omega) (by omega) (by omega) (by omega) (by omega)).mono ?_;rintro e w4 ⟨rfl,D4,c4,F4,Rs,RU,hc4,hG4,hRl,zX,hk4,hl4⟩;have fa:=hP3.far (a:=w2.heap.size);have a4:=a3.keep hk4 (hP2.far (ae _));have nD4:¬D4 w2.heap.size:=fun h=>(hl4 _ h).elim (fun h=>by have:=hP2.disk.lt h;omega) fun h=>by omega
 have H4:=Y8 RU hc4 hG4 hRl zX a4 nD4 hk4;have K4:=Y3 kB hk2 hk4;clear hP2 hbe hk2 kA a3 kB hb3 wX hP3 RU hc4 hG4 hRl zX hk4 hl4 fa a4 nD4
 go_wp2_with fail
 obtain⟨RU,hc4,hG4,hRl,zX,a4,nD4,hk4⟩:=H4.out;have k5:=(Keeps.refl (fun _=>False) w4).alloc (.cells #[.int .i64 0,.int .i64 0,.int .u64 0,.bool false,.int .i64 0,.int .u32 0] 38 (0,0));have b5:=St.new w4 38 #[.int .i64 0,.int .i64 0,.int .u64 0,.bool false,.int .i64 0,.int .u32 0];have a5:=a4.keep k5 id;have hP5:=RU.grow k5;have z5:(w4.alloc (.cells #[.int .i64 0,.int .i64 0,.int .u64 0,.bool false,.int .i64 0,.int .u32 0] 38 (0,0))).heap.size=w4.heap.size+1:=by simp
 generalize w4.alloc (.cells #[.int .i64 0,.int .i64 0,.int .u64 0,.bool false,.int .i64 0,.int .u32 0] 38 (0,0))=w5 at*;have hfl:=List.perm_singleton.1 zX;have hE1:Rs.flatten.map uL=[(0,1)]:=by rw[hfl];rfl
 have z4:=a4.lt;have fbe:=RU.e.lt;have fbp:=RU.p.lt;have MX:=a4.ne RU.e (by decide);have MZ:=a4.ne RU.p (by decide);refine(Kv (kd:=1) (st:=0) (most:=5) (I:=fun j V L=>mE 2 [(0,1)] 0 j V L∧V.length=2∧L.length=2) hP5 (hG4 fun _=>([],[])) (.inl ⟨rfl,by omega⟩) (by omega) hRl (by omega) (by omega) (fun r hr e he=>by
  have h1:=cH.2 ⟨r,hr,he⟩;rw[hfl,cd]at h1;rw[h1];unfold Ed.ok ed;decide) (by rw[hfl];decide) (by rw[hE1];exact FT (fun e h=>by rw[cd.1 h];decide) (by omega)) (by omega) (by omega) (by omega) (by omega)).mono ?_
 rintro e w6 ⟨K,C,rfl,hK,hend,hst,hIs,D6,c6,F6,Kw,Dj,Br,RG⟩;obtain rfl:K=2:=MV hend hst fun j hj=>(hIs j hj).1
 have a6:=a5.keep Br fun h=>by
  rcases h with(h|h)|h
  .exact nD4 h
  .exact MX h
  .exact MZ h
 have b6:=b5.keep Br (RU.far (ae _));have nA:¬D6 w2.heap.size:=fun h=>(RG _ h).elim nD4 fun h=>by omega
 have nB:¬D6 w4.heap.size:=fun h=>(RG _ h).elim (fun h=>by have:=RU.disk.lt h;omega) fun h=>by omega
 have H6:=Y8 Kw Dj hIs a6 b6 nA nB Br;have K6:=Y4 k5 (cz MX MZ) fbe fbp;clear RU hc4 hG4 hRl zX a4 nD4 hk4 k5 b5 a5 hP5 hfl hE1 hK hend hst hIs Kw Dj Br RG a6 b6 nA nB fbe fbp MX MZ
 go_wp2_with fail
 obtain⟨Kw,Dj,hIs,a6,b6,nA,nB,Br⟩:=H6.out;have k7:=(Keeps.refl (fun _=>False) w6).alloc (.cells #[.int .i64 0,.int .i64 2,.int .u64 0,.bool false,.int .i64 0,.int .u32 0] 38 (0,0));have c7:=St.new w6 38 #[.int .i64 0,.int .i64 2,.int .u64 0,.bool false,.int .i64 0,.int .u32 0];have a7:=a6.keep k7 id;have b7:=b6.keep k7 id;have hP7:=Kw.grow k7;have z7:(w6.alloc (.cells #[.int .i64 0,.int .i64 2,.int .u64 0,.bool false,.int .i64 0,.int .u32 0] 38 (0,0))).heap.size=w6.heap.size+1:=by simp
 generalize w6.alloc (.cells #[.int .i64 0,.int .i64 2,.int .u64 0,.bool false,.int .i64 0,.int .u32 0] 38 (0,0))=w7 at*;have hv1:(C 2).1.getD 1 0=1:=by rw[(hIs 2 (by omega)).1.v 1 (by omega),om xG];rfl
 have hl1:(C 2).2.getD 1 false=false:=by rw[(hIs 2 (by omega)).1.l 1 (by omega),om xG];rfl
 have Sq:=BN (at_:=2) (v:=1) hP7 (Dj.st 2 (by omega)) (by omega) (by omega) (by omega) (by omega) (hIs 2 (by omega)).2.1 (hIs 2 (by omega)).2.2 (zn (hIs 2 (by omega)).1 (by omega));rw[hv1,hl1]at Sq;refine Sq.mono ?_;rintro e w8 ⟨rfl,hP8,hk8⟩;have fbe:=K6.out.2.2.1;have fbp:=K6.out.2.2.2;have MX:=K6.out.2.1.1;have MZ:=K6.out.2.1.2;have a8:=a7.keep hk8 fun h=>by
  rcases h with(h|h)|h
  .exact nA h
  .exact MX h
  .exact MZ h
 have b8:=b7.keep hk8 fun h=>by
  rcases h with(h|h)|h
  .exact nB h
  .omega
  .omega
 have c8:=c7.keep hk8 (Kw.far (ae _));have k9:=(Keeps.refl (fun _=>False) w8).alloc (.cells #[.int .i64 0,.int .i64 0,.int .u64 1,.bool false,.int .i64 0,.int .u32 0] 38 (0,0));have d9:=St.new w8 38 #[.int .i64 0,.int .i64 0,.int .u64 1,.bool false,.int .i64 0,.int .u32 0];have a9:=a8.keep k9 id;have b9:=b8.keep k9 id;have c9:=c8.keep k9 id;have q0:=a9.cell 0 rfl;have q1:=b9.cell 0 rfl;have q2:=c9.cell 0 rfl;have q3:=c9.cell 1 rfl;have q4:=d9.cell 0 rfl;have q5:=d9.cell 2 rfl;have KZ:=Y1 (show Keeps (fun j=>w.heap.size<=j) w (w8.alloc (.cells #[.int .i64 0,.int .i64 0,.int .u64 1,.bool false,.int .i64 0,.int .u32 0] 38 (0,0)))from by
  obtain⟨hP2,_,_⟩:=H2.out;obtain⟨kB,hk2,hk4⟩:=K4.out;obtain⟨hb1,hlo,hle⟩:=hb1'.out;have s1:Keeps (fun j=>w.heap.size<=j) w w1:=Keeps.of_below hb1;have s2:=s1.trans (hk2.mono (S':=fun j=>w.heap.size<=j) fun k _ h=>h.elim (hlo k) fun e=>e▸hle) fun _ h=>.inl h
  have s3:=s2.trans kB fun _ h=>h.elim
  have s4:=s3.trans (hP2.hi hk4) fun _ h=>.inl h
  have s5:=s4.trans K6.out.1 fun _ h=>h.elim
  have s6:=s5.trans (H4.out.1.hi Br) fun _ h=>.inl h
  have s7:=s6.trans k7 fun _ h=>h.elim
  have s8:=s7.trans (Kw.hi hk8) fun _ h=>.inl h
  exact s8.trans k9 fun _ h=>h.elim)
 clear Kw Dj hIs a6 b6 nA nB Br k7 c7 a7 b7 hP7 hv1 hl1 Sq hP8 hk8 fbe fbp MX MZ a8 b8 c8 k9 d9 a9 b9 c9 z3 z5 z7 hpl;clear H2 hb1' H4 K4 H6 K6
 go_wp2_with fail
 go_ret;exact⟨rfl,KZ.out.eG fun k hk h=>by omega⟩
end Go.Proofs.YtlhhcnknclnlaaaGreatDoor.Top
namespace Go.Proofs.YtlhhcnknclnlaaaGreatDoor.Top
open Go Go.WideShapes Go.RowKit Go.Proofs.YtlhhcnknclnlaaaGreatDoor.iH Go.Proofs.YtlhhcnknclnlaaaGreatDoor.Oct Go.Proofs.YtlhhcnknclnlaaaGreatDoor.HX Go.Proofs.ah.aN Go.Proofs.ah.bA Go.Proofs.ah.dx
section
attribute [local go_sem] gM gN
theorem V8(x:Int)(m:Nat)(hm:m<9223372036854775808):0<=bits .and .i64 x m∧bits .and .i64 x m<=m:=by
 have e:bits .and .i64 x m=wrap64 (((bz 64 x &&& bz 64 (m:Int)).toNat:Nat):Int):=by
  rw[<-gK];rfl
 have hb:(bz 64 x &&& bz 64 (m:Int)).toNat<=m:=by
  rw[BitVec.toNat_and,BitVec.ofInt_natCast,BitVec.toNat_ofNat];exact bt Nat.and_le_right (Nat.mod_le _ _)
 rw[e];generalize (bz 64 x &&& bz 64 (m:Int)).toNat=q at hb;rw[dW (by omega) (by omega)];omega
theorem V9(x:Int)(m:Nat)(hm:m<9223372036854775808)(q:Int)(hq:0<q):0<=Int.tmod (bits .and .i64 x m) q∧Int.tmod (bits .and .i64 x m) q<q:=by
 have:=(V8 x m hm).1;rw[Int.tmod_eq_emod_of_nonneg this];exact⟨Int.emod_nonneg _ (by omega),Int.emod_lt_of_pos _ hq⟩
theorem xY:(aa.info? 46).map (fun i=>(i.zero,i.size,i.bytes))=some (some (.agg #[.int .u32 0,.int .u32 0,.int .u32 0]),3,12):=by kernel_rfl
def M0(es:List jB):List bb:=es.flatMap fun e=>[.int .u32 e.f0,.int .u32 e.f1,.int .u32 e.f2]
theorem mO(es:List jB):(M0 es).length=es.length*3:=by
 induction es with
 |nil=>rfl
 |cons e es ih=>unfold M0 at *; rw[List.flatMap_cons,List.length_append,ih,cI];simp;omega
theorem Dr:∀(es:List jB) (k:Nat) (e:jB),es[k]? =some e->(M0 es)[k*3]? =some (.int .u32 e.f0)∧(M0 es)[k*3+1]? =some (.int .u32 e.f1)∧(M0 es)[k*3+2]? =some (.int .u32 e.f2)
 | [],k,e,h=>by cases h
 |x::es,0,e,h=>by cases h;exact⟨rfl,rfl,rfl⟩
 |x::es,k+1,e,h=>by
  have h':es[k]? =some e:=h;obtain⟨h1,h2,h3⟩:=Dr es k e h';rw[show(k+1)*3=k*3+3 by omega];exact⟨h1,h2,h3⟩
variable {A:Option cU}{es:List jB}{w:al}
theorem uP(h:Kd.C pR w A es.length es)(hm:0<es.length):∃g o,A=some ⟨g,o,none⟩∧∀j u,(M0 es)[j]? =some u->w.cell? ((⟨g,o,none⟩:cU).add j)=some u:=by
 obtain⟨ad,rfl,z1,_⟩:=lJ h 0 (by omega) (by omega);have hs:=BL z1;obtain⟨g,o,s⟩:=ad;have hs':s=none:=hs;subst hs';refine⟨g,o,rfl,fun j u hj=>?_⟩;have hjl:j<es.length*3:=by have:=(cm.1 hj).1;rwa [mO]at this
 obtain⟨k,hk,hj3⟩:∃k,k<es.length∧(j=k*3∨j=k*3+1∨j=k*3+2):=⟨j/3,by omega,by omega⟩
 obtain⟨h1,h2,h3⟩:=Dr es k es[k] (ab hk);obtain⟨_,e,q1,q2,q3⟩:=lJ h (k:Int) (by omega) (by omega);injection e with e;subst e;have hr:bE es (k:Int)=es[k]:=by unfold bE;rw[cq,a_,ab hk];rfl
 rw[hr,cq,zi]at q1 q2 q3;rw[zi];rcases hj3 with rfl|rfl|rfl
 .rw[h1]at hj;injection hj with hj;subst hj;exact q1
 .rw[h2]at hj;injection hj with hj;subst hj;exact q2
 .rw[h3]at hj;injection hj with hj;subst hj;exact q3
theorem M9{base n c:Nat}(h:w.ownsRow base 46 3 (.slice A n c) n (M0 es))(hn:es.length=n)(hn2:n<=1000000):Kd.C pR w A n es∧n<=c:=by
 refine⟨⟨hn,by omega,fun hp=>?_⟩,mM h⟩;obtain⟨g,rfl⟩:=gY h hp;obtain⟨_,e,hc,_⟩:=dZ h;cases e;refine⟨_,rfl,fun j p hj=>⟨_,rfl,GN w p,fun i u hi=>?_⟩⟩;obtain⟨h1,h2,h3⟩:=Dr es j p hj;rw[show pR.sz=3 from rfl,zi,cF]
 match i,hi with
 |0,hi=>cases hi;exact hc _ _ h1
 |1,hi=>cases hi;exact hc _ _ h2
 |2,hi=>cases hi;exact hc _ _ h3
end
section
attribute [local go_sem] gM gN
def Gd(pk jr n:Int)(es:bb)(sh mo bu:Int):List bb:=[.int .i64 pk,.int .u32 jr,.int .i64 n,es,.int .i64 sh,.int .i64 mo,.int .i64 bu]
theorem M_{n:Int}{es:List jB}(hm:es.length<=1000)(hb:∀e∈es,(0<=e.f0∧e.f0<4294967296)∧(0<=e.f1∧e.f1<4294967296)∧0<=e.f2∧e.f2<4294967296):∃r,aY.f 2000 n es=some r∧(r=true->0<=n∧∀e∈es,Ls n e):=by
 have hl:∀(d k i:Nat),i+d=es.length->d<k->∃r,aY.l0 k (i:Int) n es=some r∧(r=true->∀j,i<=j->∀e,es[j]? =some e->e.f0<n∧e.f1<n):=by
  intro d
  induction d with
  |zero=>
   intro k i h hk;obtain⟨k,rfl⟩:∃m,k=m+1:=⟨k-1,by omega⟩
   unfold aY.l0;rw[if_neg (by omega)];refine⟨_,rfl,fun _ j hj e he=>?_⟩;have:=(cm.1 he).1;omega
  |succ d ih=>
   intro k i h hk;obtain⟨k,rfl⟩:∃m,k=m+1:=⟨k-1,by omega⟩
   have hi:i<es.length:=by omega
   have e1:bE es (i:Int)=es[i]:=by unfold bE;rw[cq,a_,ab hi];rfl
   obtain⟨⟨a0,a1⟩,⟨b0,b1⟩,_⟩:=hb es[i] (List.getElem_mem hi);unfold aY.l0;rw[if_pos (by omega),if_pos (by omega),e1,dW (by omega) (by omega),dW (by omega) (by omega)];by_cases c0:es[i].f0>=n
   .rw[if_pos c0];exact⟨_,rfl,fun h=>by cases h⟩
   .rw[if_neg c0];by_cases c1:es[i].f1>=n
    .rw[if_pos c1];exact⟨_,rfl,fun h=>by cases h⟩
    .rw[if_neg c1,EK i (by omega)];obtain⟨r,h1,h2⟩:=ih k (i+1) (by omega) (by omega);refine⟨r,h1,fun hr j hj e he=>?_⟩;by_cases hji:j=i
     .subst hji;rw[ab hi]at he;cases he;exact⟨by omega,by omega⟩
     .exact h2 hr j (by omega) e he
 obtain⟨r,h1,h2⟩:=hl es.length 1999 0 (by omega) (by omega);unfold aY.f;by_cases c0:n<0
 .rw[if_pos c0];exact⟨false,rfl,fun h=>by cases h⟩
 .rw[if_neg c0];by_cases c1:n>1048576
  .rw[if_pos c1];exact⟨false,rfl,fun h=>by cases h⟩
  .rw[if_neg c1,decide_eq_false (show ¬(es.length:Int)>1048576 by omega)];refine⟨r,h1,fun hr=>⟨by omega,fun e he=>?_⟩⟩;obtain⟨j,hj⟩:=List.getElem?_of_mem he;obtain⟨⟨a0,a1⟩,⟨b0,b1⟩,c⟩:=hb e he;have:=h2 hr j (cJ _) e hj;exact⟨⟨a0,this.1⟩,⟨b0,this.2⟩,c⟩
theorem V_(W:al)(g:Nat)(A:Option cU)(cp:Nat):(Builtin.append_ #[25,25] 25 #[.slice (some ⟨g,0,none⟩) 0 0,.slice A 0 cp]).run aa W=.ok (.slice (some ⟨g,0,none⟩) 0 0) W:=by
 obtain⟨i0,hi,hz0,hz1,hz2⟩:=info_parts xY;cases A with
 |none=>simp[Builtin.append_,run_underlying ca,sizeOf,typeInfo,hi,Builtin.lenOf,run_firstCells_none,storeCells]
 |some a=>
  have:=run_append_room_cells (P:=aa) (w:=W) 25 25 46 i0 ca hi g 0 0 0 a 0 cp [] (by simp) (fun j u h=>by cases h) (fun u h=>by cases h) (by omega) (fun j h=>by cases h) (fun j h=>by cases h);exact this
variable {A:Option cU}{q:List jB}
theorem zq{w w':al}{n:Nat}(h:Kd.C pR w A n q)(hm:∀a,A=some a->w'.heap[a.block]? =w.heap[a.block]?):Kd.C pR w' A n q:=by
 refine⟨h.1,h.2.1,fun hn=>?_⟩;obtain⟨ad,e,h3⟩:=h.2.2 hn;refine⟨ad,e,fun j p hj=>?_⟩;obtain⟨c,hl,hk,hcc⟩:=h3 j p hj;have ec:c=[.int .u32 p.f0,.int .u32 p.f1,.int .u32 p.f2]:=by
  obtain⟨a,b,rfl,rfl,a2,b2,rfl,rfl,rfl⟩:=hk;rfl
 exact⟨c,hl,ec▸GN w' p,fun i u hu=>(World.cell?_of_block (w:=w) (by rw[oI];exact hm ad e)).trans (hcc i u hu)⟩
theorem Du{W0:al}{cp:Nat}(hC:Kd.C pR W0 A q.length q)(h15:q.length<=15):
 ∃A' c' w',(Builtin.append_ #[25,25] 25 #[.slice (some ⟨W0.heap.size,0,none⟩) 0 0,.slice A q.length cp]).run aa (W0.alloc (.cells #[] 46))=.ok (.slice A' q.length c') w'∧Kd.C pR w' A' q.length q∧q.length<=c'∧Keeps (fun _=>False) W0 w'∧∀a,A'=some a->W0.heap.size<=a.block:=by
 obtain⟨i0,hi,hz0,hz1,hz2⟩:=info_parts xY;have kA:Keeps (fun _=>False) W0 (W0.alloc (.cells #[] 46)):=(Keeps.refl _ W0).alloc _;by_cases h0:q=[]
 .subst h0;exact⟨_,_,_,V_ _ _ _ _,⟨rfl,by simp,fun h=>absurd h (aE 0)⟩,ae _,kA,fun a e=>by cases e;exact ae _⟩
 .have hp:=ar.2 h0;obtain⟨g,o,rfl,hcs⟩:=uP hC hp;have hb:Below W0.heap.size W0 (W0.alloc (.cells #[] 46)):=(Below.refl _ W0).alloc (ae _) _;obtain⟨v',w',h1,h2,h3⟩:=run_append_arg_grows (P:=aa) (w:=W0.alloc (.cells #[] 46)) 25 25 46 i0 _ 3 12 ca hi hz0 hz1 hz2 rfl (by decide) ⟨W0.heap.size,0,none⟩ 0 0 [] rfl (fun j u h=>by cases h) ⟨g,o,none⟩ q.length cp (M0 q) (mO q) (fun j u hj=>(hb.cell (ax W0 _ (hcs j u hj))).trans (hcs j u hj)) (by omega) (by unfold maxLen;omega) (by omega);rw[cF,List.nil_append]at h2;obtain⟨A',c',rfl⟩:=aW h2;obtain⟨e1,e2⟩:=M9 h2 rfl (by omega);refine⟨A',c',w',h1,e1,e2,kA.grown h3 (fun m e=>by cases e),fun a e=>?_⟩;subst e;have:=gB h2 a.block rfl;rw[aq]at this;omega
end
section
attribute [local go_sem] gM gN
variable {b:Nat}{v0 v1 v2 v3 v4 v5 v6:bb}{w:al}
theorem St.Ky{t:Nat}{u0 u1 u2 u3 u4 u5 u6:bb}(h:St w b t [u0,u1,u2,u3,u4,u5,u6]):St (((((((w.setCell ⟨b,0,none⟩ v0).setCell ⟨b,1,none⟩ v1).setCell ⟨b,2,none⟩ v2).setCell ⟨b,3,none⟩ v3).setCell ⟨b,4,none⟩ v4).setCell ⟨b,5,none⟩ v5).setCell ⟨b,6,none⟩ v6) b t [v0,v1,v2,v3,v4,v5,v6]:=(((((((h.set 0 v0).set 1 v1).set 2 v2).set 3 v3).set 4 v4).set 5 v5).set 6 v6)
theorem zu{S:Nat->Prop}(hb:S b∨w.heap.size<=b):Keeps S w (((((((w.setCell ⟨b,0,none⟩ v0).setCell ⟨b,1,none⟩ v1).setCell ⟨b,2,none⟩ v2).setCell ⟨b,3,none⟩ v3).setCell ⟨b,4,none⟩ v4).setCell ⟨b,5,none⟩ v5).setCell ⟨b,6,none⟩ v6):=((((((((Keeps.refl S w).setCell (a:=⟨b,0,none⟩) hb v0).setCell (a:=⟨b,1,none⟩) hb v1).setCell (a:=⟨b,2,none⟩) hb v2).setCell (a:=⟨b,3,none⟩) hb v3).setCell (a:=⟨b,4,none⟩) hb v4).setCell (a:=⟨b,5,none⟩) hb v5).setCell (a:=⟨b,6,none⟩) hb v6)
theorem Kz(x q:Int)(h:0<q)(h2:q<100):1<=wrap64 (1+(bits .and .i64 x 65535).tmod q)∧wrap64 (1+(bits .and .i64 x 65535).tmod q)<=q:=by
 have:=V9 x 65535 (by decide) q h;have e:bits .and .i64 x ((65535:Nat):Int)=bits .and .i64 x 65535:=rfl;rw[e]at this;generalize (bits .and .i64 x 65535).tmod q=y at this;rw[dW (by omega) (by omega)];omega
theorem aaE{pk jr n sh mo bu:Int}{A:Option cU}{cp:Nat}{es:List jB}(hC:Kd.C pR w A es.length es)(hcp:es.length<=cp)(hb:∀e∈es,(0<=e.f0∧e.f0<4294967296)∧(0<=e.f1∧e.f1<4294967296)∧0<=e.f2∧e.f2<4294967296):
 az aa 6 #[.agg #[.int .i64 pk,.int .u32 jr,.int .i64 n,.slice A es.length cp,.int .i64 sh,.int .i64 mo,.int .i64 bu]] w fun e w'=>∃A' c' m' sh' Gf FV may,e=.returned (.tuple #[.agg #[.int .i64 pk,.int .u32 jr,.int .i64 n,.slice A' m' c',.int .i64 sh',.int .i64 Gf,.int .i64 FV],.bool may])∧Below w.heap.size w w'∧
  (may=true->∃es',es'.length=m'∧m'<=15∧m'<=c'∧Kd.C pR w' A' m' es'∧(0<=n∧n<=12)∧(∀e∈es',Ls n e)∧(1<=sh'∧sh'<=6)∧(1<=FV∧FV<=20)∧dK.f pk jr n=some true):=by
 obtain⟨w1,hw1⟩:∃w1,w1=(w.alloc (.cells #[.int .i64 pk,.int .u32 jr,.int .i64 n,.slice A es.length cp,.int .i64 sh,.int .i64 mo,.int .i64 bu] 29 (0,0))).alloc (.cells #[.int .i64 0,.int .u32 0,.int .i64 0,.slice none 0 0,.int .i64 0,.int .i64 0,.int .i64 0] 29 (0,0)):=⟨_,rfl⟩
 have b1:Below w.heap.size w w1:=by rw[hw1];exact((Below.refl _ w).alloc (ae _) _).alloc (by simp) _
 have s1:St w1 w.heap.size 29 (Gd pk jr n (.slice A es.length cp) sh mo bu):=by rw[hw1];exact(St.new _ _ _).alloc _
 have t1:St w1 (w.heap.size+1) 29 (Gd 0 0 0 (.slice none 0 0) 0 0 0):=by
  have:=St.new (w.alloc (.cells #[.int .i64 pk,.int .u32 jr,.int .i64 n,.slice A es.length cp,.int .i64 sh,.int .i64 mo,.int .i64 bu] 29 (0,0))) 29 #[.int .i64 0,.int .u32 0,.int .i64 0,.slice none 0 0,.int .i64 0,.int .i64 0,.int .i64 0];rw[aq]at this;rw[hw1];exact this
 obtain⟨q,hq,hqm,hqs,hqC,hqc,adM⟩:=SY (P:=aa) 25 46 ca xY hC hcp 15;have hbq:∀e∈q,(0<=e.f0∧e.f0<4294967296)∧(0<=e.f1∧e.f1<4294967296)∧0<=e.f2∧e.f2<4294967296:=fun e h=>hb e (List.mem_of_mem_take (hq▸h))
 have H1:=Y7 b1 s1 t1 hqC hqc adM hbq;have HQ:=Y2 hqm hqs;clear b1 s1 t1 hqC hqc adM hbq hC hcp hb hq hqm hqs;go_enter func6,ntmps6
 go_wp2_with fail
 rw[<-hw1];clear hw1;obtain⟨m0,hm0⟩:=ex es.length
 rw[<-hm0]at HQ⊢;have hS1:=Y1 (show St w1 w.heap.size 29 (Gd pk jr n (.slice A m0 cp) sh mo bu)from by rw[hm0];exact H1.out.2.1);clear hm0;have hmin:min (m0:Int) 15=(q.length:Int):=by
  have h:=HQ.out.1
  split at h<;>omega
 refine gy (fun W=>Keeps (fun _=>False) w1 W) 12 [0,1,4,5,7,8] [2,6,9,10,11,12] [([3],[]),([13],[14,15])] [16] (by kernel_rfl) (fun _ _ x _ _ h=>by cases x<;>exact h) ((Keeps.refl _ w1).drewN 1) (by kernel_rfl) ?_;simp only[gu,aJ,ai,ao,af,ag]
 repeat (refine aI (fun K hK=>?_);go_simp;refine hK _ ?_;clear hK K)
 refine au ?_;refine ak (fun K hK=>?_);go_simp;refine⟨.int .i64 n,fun W hW=>(by rw[(hS1.out.keep hW id).cell 2 rfl];rfl),hK _ ?_⟩;clear hK K;refine ak (fun K hK=>?_);go_simp;refine⟨.slice A m0 cp,fun W hW=>(by rw[(hS1.out.keep hW id).cell 3 rfl];rfl),hK _ ?_⟩;clear hK K;refine ak (fun K hK=>?_);go_simp;refine⟨.slice A m0 cp,fun W hW=>(by rw[(hS1.out.keep hW id).cell 3 rfl];rfl),hK _ ?_⟩;clear hK K;refine ak (fun K hK=>?_);go_simp;refine⟨.int .i64 (m0:Nat),fun _ _=>rfl,hK _ ?_⟩;clear hK K;refine ak (fun K hK=>?_);go_simp;refine⟨.int .i64 (q.length:Nat),fun _ _=>rfl,hK _ ?_⟩;clear hK K;have hqs:=HQ.out.2;refine ak (fun K hK=>?_);go_simp;refine⟨.slice A q.length cp,fun _ _=>rfl,hK _ ?_⟩;clear hK K hqs;refine bD ?_;intro W0 hW0;refine aH (fun K hK=>?_);go_simp;refine hK _ _ (hW0.alloc _) ?_;clear hK K;have hCq:=Kd.bM (Kd.bM H1.out.2.2.2.1 H1.out.1) (hW0.eG fun _ _ h=>h);obtain⟨A2,c2,w2,hrun,hC2,hc2,hk2,hA2⟩:=Du (cp:=cp) hCq H1.out.2.2.2.2.2.1;have H2:=Y4 hC2 hc2 (hW0.trans hk2 fun _ h=>bk h) (show ∀a,A2=some a->w1.heap.size<=a.block from fun a e=>bt hW0.size (hA2 a e));clear hCq hC2 hc2 hA2;refine aQ (au ?_);refine aH (fun K hK=>?_);refine Bq (.tmp 8) (.tmp 17) 25 25 rfl (by simp[Act.eval]) (by simp[Act.eval]) hrun ?_;simp only[Act.put,List.setIfInBounds_toArray,List.set_cons_zero,List.set_cons_succ];refine hK _ _ H2.out.2.2.1 ?_;clear hK K hrun hk2;refine aQ ?_
 repeat (refine aI (fun K hK=>?_);go_simp;refine hK _ ?_;clear hK K)
 refine au ?_;have s2:=H1.out.2.1.keep H2.out.2.2.1 id;have x2:=s2.cell 2 rfl;have x3:=s2.cell 3 rfl;have y2:=s2.frozen 2;have y3:=s2.frozen 3;have s3:St ((w2.setCell ⟨w.heap.size,2,none⟩ (.int .i64 n)).setCell ⟨w.heap.size,3,none⟩ (.slice A2 q.length c2)) w.heap.size 29 (Gd pk jr n (.slice A2 q.length c2) sh mo bu):=(s2.set 2 (.int .i64 n)).set 3 (.slice A2 q.length c2);have k3:=((Keeps.refl (fun j=>j=w.heap.size) w2).setCell (a:=⟨w.heap.size,2,none⟩) (.inl rfl) (.int .i64 n)).setCell (a:=⟨w.heap.size,3,none⟩) (.inl rfl) (.slice A2 q.length c2);have H3:=Y2 s3 k3;have p2:=s3.cell 2 rfl;have p3:=s3.cell 3 rfl;clear s2 s3 k3
 go_wp2_with fail
 clear p2 p3 x2 x3 y2 y3;obtain⟨wx,hwx⟩:∃wx,wx=(w2.setCell ⟨w.heap.size,2,none⟩ (.int .i64 n)).setCell ⟨w.heap.size,3,none⟩ (.slice A2 q.length c2):=⟨_,rfl⟩
 rw[<-hwx]at H3⊢;clear hwx;have hCx:Kd.C pR wx A2 q.length q:=by
  by_cases h0:q=[]
  .subst h0;exact⟨rfl,by simp,fun h=>absurd h (aE 0)⟩
  .refine zq H2.out.1 fun a e=>?_
   obtain⟨g,o,e',hcs⟩:=uP H2.out.1 (ar.2 h0);rw[e]at e';cases e';have hl:0<(M0 q).length:=by rw[mO];have:=ar.2 h0;omega
   have h1:=H2.out.2.2.2 _ e;have h2:=H1.out.2.2.1.lt;have h3:=ax _ _ (hcs 0 _ (ab hl));rw[oI]at h3;exact H3.out.2.at_ h3 (by show ¬g=w.heap.size;have:w1.heap.size<=g:=h1;omega)
 obtain⟨r,hr,hrt⟩:=M_ (n:=n) (show q.length<=1000 by have:=H1.out.2.2.2.2.2.1;omega) H1.out.2.2.2.2.2.2;refine(aY.calls 2000 n A2 c2 q r wx hCx H2.out.2.1 hr).mono ?_;clear hr;rintro e w4 ⟨rfl,hb4⟩;have H4:=Y3 hb4 hCx hrt;clear hb4 hCx hrt;have s4:=H3.out.1.keep (Keeps.of_below (S:=fun _=>False) H4.out.1) id;have t4:=((H1.out.2.2.1.keep H2.out.2.2.1 id).keep H3.out.2 (by omega)).keep (Keeps.of_below (S:=fun _=>False) H4.out.1) id;have p0:=s4.cell 0 rfl;have p1:=s4.cell 1 rfl;have p2:=s4.cell 2 rfl;have p3:=s4.cell 3 rfl;have p4:=s4.cell 4 rfl;have p5:=s4.cell 5 rfl;have p6:=s4.cell 6 rfl;have fp4:=s4.frozen 4;have fp5:=s4.frozen 5;have fp6:=s4.frozen 6;have y0:=t4.cell 0 rfl;have y1:=t4.cell 1 rfl;have y2:=t4.cell 2 rfl;have y3:=t4.cell 3 rfl;have y4:=t4.cell 4 rfl;have y5:=t4.cell 5 rfl;have y6:=t4.cell 6 rfl;have u0:=t4.frozen 0;have u1:=t4.frozen 1;have u2:=t4.frozen 2;have u3:=t4.frozen 3;have u4:=t4.frozen 4;have u5:=t4.frozen 5;have u6:=t4.frozen 6;have H5:=Y2 s4 t4;clear s4 t4 hmin hS1;have HB:aG (Keeps (fun j=>w.heap.size<=j) w w4):=⟨(((Keeps.of_below (S:=fun j=>w.heap.size<=j) H1.out.1).trans H2.out.2.2.1 fun _ h=>h.elim).trans H3.out.2 fun j h=>.inl (by omega)).trans (Keeps.of_below (S:=fun _=>False) H4.out.1) fun _ h=>h.elim⟩
 have gone:aG (∀wf,Keeps (fun j=>w.heap.size<=j) w4 wf->Below w.heap.size w wf):=⟨fun wf hk=>(HB.out.trans hk fun _ h=>.inl h).eG fun j hj hn=>by omega⟩
 cases r with
 |false=>
  go_wp2_with fail
  obtain⟨s4,t4⟩:=H5.out;refine bodyPost_ret (dX rfl _ _ (w.heap.size+1) 29 #[.int .i64 pk,.int .u32 jr,.int .i64 n,.slice A2 q.length c2,.int .i64 sh,.int .i64 mo,.int .i64 bu] (0,0) _ rfl t4.Ky cx rfl (by kernel_rfl)) rfl ?_;exact⟨A2,c2,q.length,sh,mo,bu,false,rfl,gone.out _ (zu (.inl (cM _))),fun h=>by cases h⟩
 |true=>
  by_cases c12:n>12
  .have adN:=decide_eq_true c12
   go_wp2_with fail
   obtain⟨s4,t4⟩:=H5.out;refine bodyPost_ret (dX rfl _ _ (w.heap.size+1) 29 #[.int .i64 pk,.int .u32 jr,.int .i64 n,.slice A2 q.length c2,.int .i64 sh,.int .i64 mo,.int .i64 bu] (0,0) _ rfl t4.Ky cx rfl (by kernel_rfl)) rfl ?_;exact⟨A2,c2,q.length,sh,mo,bu,false,rfl,gone.out _ (zu (.inl (cM _))),fun h=>by cases h⟩
  .have adN:=decide_eq_false c12
   go_wp2_with fail
   obtain⟨s4,t4⟩:=H5.out;obtain⟨sh',hsh,hsh'⟩:∃x,wrap64 (1+(bits .and .i64 sh 65535).tmod 6)=x∧(1<=x∧x<=6):=⟨_,rfl,Kz sh 6 (by decide) (by decide)⟩
   obtain⟨FV,hbu,agy⟩:∃x,wrap64 (1+(bits .and .i64 bu 65535).tmod 20)=x∧(1<=x∧x<=20):=⟨_,rfl,Kz bu 20 (by decide) (by decide)⟩
   obtain⟨Gf,hmo⟩:∃x,(bits .and .i64 mo 65535).tmod 7=x:=⟨_,rfl⟩
   rw[hsh,hbu,hmo];obtain⟨w5,rQ⟩:∃w5,w5=((w4.setCell ⟨w.heap.size,4,none⟩ (.int .i64 sh')).setCell ⟨w.heap.size,5,none⟩ (.int .i64 Gf)).setCell ⟨w.heap.size,6,none⟩ (.int .i64 FV):=⟨_,rfl⟩
   rw[<-rQ];have s5:St w5 w.heap.size 29 (Gd pk jr n (.slice A2 q.length c2) sh' Gf FV):=by rw[rQ];exact((s4.set 4 (.int .i64 sh')).set 5 (.int .i64 Gf)).set 6 (.int .i64 FV)
   have k5:Keeps (fun j=>j=w.heap.size) w4 w5:=by rw[rQ];exact(((Keeps.refl (fun j=>j=w.heap.size) w4).setCell (a:=⟨w.heap.size,4,none⟩) (.inl rfl) (.int .i64 sh')).setCell (a:=⟨w.heap.size,5,none⟩) (.inl rfl) (.int .i64 Gf)).setCell (a:=⟨w.heap.size,6,none⟩) (.inl rfl) (.int .i64 FV)
   have t5:=t4.keep k5 (by omega);clear rQ hsh hbu hmo p0 p1 p2 p3 p4 p5 p6 fp4 fp5 fp6 y0 y1 y2 y3 y4 y5 y6 u0 u1 u2 u3 u4 u5 u6 s4 t4 adN;have H6:=Y3 s5 k5 t5;have p0:=s5.cell 0 rfl;have p1:=s5.cell 1 rfl;have p2:=s5.cell 2 rfl;have p3:=s5.cell 3 rfl;have p4:=s5.cell 4 rfl;have p5:=s5.cell 5 rfl;have p6:=s5.cell 6 rfl;clear s5 k5 t5;clear p0 p1 p2 p3 p4 p5 p6;refine gy (fun W=>Keeps (fun _=>False) w5 W) 9 [1,3,4] [2,5,0] [([6],[])] [7,8] (by kernel_rfl) (fun _ _ x _ _ h=>by cases x<;>exact h) ((Keeps.refl _ w5).drewN 1) (by kernel_rfl) ?_;simp only[gu,aJ,ai,ao,af,ag]
   repeat (refine aI (fun K hK=>?_);go_simp;refine hK _ ?_;clear hK K)
   refine au ?_;refine ak (fun K hK=>?_);go_simp;refine⟨.agg #[.int .i64 pk,.int .u32 jr],fun W hW=>(by
    have s:=H6.out.1.keep hW id;simp only[s.cell 0 rfl,s.cell 1 rfl,cy]),hK _ ?_⟩
   clear hK K;refine ak (fun K hK=>?_);go_simp;refine⟨.int .i64 n,fun W hW=>(by rw[(H6.out.1.keep hW id).cell 2 rfl];rfl),hK _ ?_⟩;clear hK K;refine ak (fun K hK=>?_);go_simp;refine⟨.agg #[.int .i64 pk,.int .u32 jr,.int .i64 n,.slice A2 q.length c2,.int .i64 sh',.int .i64 Gf,.int .i64 FV],fun W hW=>(by
    have s:=H6.out.1.keep hW id;simp only[s.cell 0 rfl,s.cell 1 rfl,s.cell 2 rfl,s.cell 3 rfl,s.cell 4 rfl,s.cell 5 rfl,s.cell 6 rfl,cy]),hK _ ?_⟩
   clear hK K;refine bD ?_;intro W6 Vb;obtain⟨r13,h13⟩:∃r,dK.f pk jr n=some r:=by unfold dK.f;(repeat' split)<;>exact⟨_,rfl⟩
   refine aH (fun K hK=>?_);go_simp;refine(dK.calls pk jr n r13 W6 h13).mono ?_;rintro e w7 ⟨rfl,Mh⟩;refine hK _ _ (Vb.below Mh) ?_;clear hK K;refine aQ (au ?_);have t7:=H6.out.2.2.keep (Vb.below Mh) id;have y0:=t7.cell 0 rfl;have u0:=t7.frozen 0;have y1:=t7.cell 1 rfl;have u1:=t7.frozen 1;have y2:=t7.cell 2 rfl;have u2:=t7.frozen 2;have y3:=t7.cell 3 rfl;have u3:=t7.frozen 3;have y4:=t7.cell 4 rfl;have u4:=t7.frozen 4;have y5:=t7.cell 5 rfl;have u5:=t7.frozen 5;have y6:=t7.cell 6 rfl;have u6:=t7.frozen 6;have H7:=Y3 Mh Vb t7;clear t7 Mh Vb
   go_wp2_with fail
   obtain⟨Mh,Vb,t7⟩:=H7.out;obtain⟨s5,k5,t5⟩:=H6.out;refine bodyPost_ret (dX rfl _ _ (w.heap.size+1) 29 #[.int .i64 pk,.int .u32 jr,.int .i64 n,.slice A2 q.length c2,.int .i64 sh',.int .i64 Gf,.int .i64 FV] (0,0) _ rfl t7.Ky cx rfl (by kernel_rfl)) rfl ?_;have k7:=(Vb.below Mh)
   have k47:Keeps (fun j=>w.heap.size<=j) w4 w7:=(k5.mono fun j _ h=>by omega).trans (k7.mono fun _ _ h=>bk h) fun _ h=>.inl h
   refine⟨A2,c2,q.length,sh',Gf,FV,r13,rfl,gone.out _ (k47.trans (zu (S:=fun j=>w.heap.size<=j) (.inl (cM _))) fun _ h=>.inl h),fun h=>?_⟩;subst h;obtain⟨hb4,hCx,hrt⟩:=H4.out;obtain⟨hn0,hen⟩:=hrt trivial;have k4z:=((Keeps.of_below (S:=fun j=>j=w.heap.size∨j=w.heap.size+1) hb4).trans k5 fun _ h=>.inl (.inl h)).trans k7 fun _ h=>bk h
   refine⟨q,rfl,H1.out.2.2.2.2.2.1,H2.out.2.1,?_,⟨hn0,by omega⟩,hen,hsh',agy,h13⟩;by_cases h0:q=[]
   .subst h0;exact⟨rfl,by simp,fun h=>absurd h (aE 0)⟩
   .refine zq hCx fun a e=>?_
    obtain⟨g,o,e',hcs⟩:=uP hCx (ar.2 h0);rw[e]at e';cases e';have hl:0<(M0 q).length:=by rw[mO];have:=ar.2 h0;omega
    have h1:=H2.out.2.2.2 _ e;have h2:=H1.out.2.2.1.lt;have h3:=ax _ _ (hcs 0 _ (ab hl));rw[oI]at h3;exact(k4z.trans (zu (S:=fun j=>j=w.heap.size∨j=w.heap.size+1) (.inl (.inr rfl))) fun _ h=>.inl h).at_ h3 (by show ¬(g=w.heap.size∨g=w.heap.size+1);have:w1.heap.size<=g:=h1;omega)
end
end Go.Proofs.YtlhhcnknclnlaaaGreatDoor.Top
namespace Go.Proofs.YtlhhcnknclnlaaaGreatDoor.Top
open Go Go.Proofs.ah.bA
section
variable {P:Program} {md:Region.Mode} {C:al->Prop} {D:List Nat} {Q:Exit->Act->al->Prop}
theorem KA{L:List Oper}{N k:Nat}{R:Act->al->Prop}(hQ:∀c a x v w,Q (.panic c) (a.put x v) w->Q (.panic c) a w)(hsel:Region.noSelect L.toArray=true):
 ∀(ks:List Nat) (l:Array Bool) (a:Act) (w:al),C w->iN md L.toArray l->tQ md L.toArray N D ks l=true->
 dS P L.toArray C (fun a'=>R a' w) (aJ L ks) a->(iN md L.toArray (bC l ks)->∀a',C w->R a' w->aK P md L.toArray Q C D k (bC l ks) a' w)->aK P md L.toArray Q C D (ks.length+k) l a w
 | [],l,a,w,hC,hsh,_,h,hR=>by
  rw[List.length_nil,cF];exact hR hsh a hC h
 |k'::ks,l,a,w,hC,hsh,hB,h,hR=>by
  simp only[tQ,cA]at hB;have hr:k'∈Region.ready md L.toArray l:=by simpa using hB.1.1.1
  obtain⟨_,o,h0,_⟩:=mem_ready.1 hr;have h0':L[k']? =some o:=by simpa using h0
  simp only[aJ,ai,h0',dS]at h;have key:∃v,YieldsIf P L.toArray C o v a∧dS P L.toArray C (fun a'=>R a' w) (aJ L ks) (a.put o.dst v):=by
   by_cases hw:Region.wanted o (yielded L.toArray a.tmps)=true
   .rw[if_pos hw]at h;obtain⟨v,h1,h2⟩:=h;exact⟨v,.inl ⟨hw,h1⟩,h2⟩
   .rw[if_neg hw]at h;exact⟨undef,.inr ⟨by simpa using hw,rfl⟩,h⟩
  obtain⟨v,hy,hK⟩:=key;rw[cI,show ks.length+1+k=ks.length+k+1 by omega];exact jH h0 (Region.noSelect_spec hsel) (fun c a w=>hQ c a _ v w) N _ l a w (Region.free_spec h0 hB.1.1.2) hsh (fun d hd _=>cC.1 hB.1.2 d hd) hr hy hC (KA hQ hsel ks _ _ w hC (iN.set hsh hr) hB.2 hK hR)
end
section
variable {P:Program} {md:Region.Mode} {C:al->Prop} {D:List Nat} {Q:Exit->Act->al->Prop}
theorem Dv{id:Nat}{a:Act}{w:al}{l:List Oper}(C:al->Prop)(N:Nat)(fs rs G:List Nat)(J:(Nat->Prop)->Act->al->Prop)(u_:List (List Nat×List Nat))(ts:List Nat)(hm:P.follows .mixedOrders=true)(hQ:∀c a x v w,Q (.panic c) (a.put x v) w->Q (.panic c) a w)(hC:C w.drew)(hB:(Region.noSelect l.toArray&&decide (fs.length+(rs.length+(G.length+(mY u_+ts.length)))=l.length)&&(ts.all fun t=>decide (t<l.length))&&vQ .any l.toArray fs (an l.length false)&&tQ .any l.toArray N ts rs (bC (an l.length false) fs)   &&rX .any l.toArray G (bC (bC (bC (an l.length false) fs) rs) G) G.length (bC (bC (an l.length false) fs) rs)   &&(G.all fun j=>(bC (bC (bC (an l.length false) fs) rs) G).getD j false&& !(bC (bC (an l.length false) fs) rs).getD j false)   &&su .any l.toArray ts u_ (bC (bC (bC (an l.length false) fs) rs) G))=true)(step:∀(d:Nat->Prop) (a:Act) (w:al) (i:Nat) (o:Oper),i∈G->l[i]? =some o->C w->(∀j,Region.waitsFor .any l.toArray i j=true->(bC (bC (an l.length false) fs) rs).getD j false=false->d j)->¬d i->J d a w->dO P l.toArray Q C (fun a' w'=>J (fun j=>j=i∨d j) a' w') [o] a w)(fin:∀(d:Nat->Prop) (a:Act) (w:al),(∀j∈G,d j)->C w->J d a w->gu P l Q C ts u_ a w)(h:cB P l.toArray (dS P l.toArray C (fun a'=>J (fun _=>False) a' w.drew) (aJ l rs)) (aJ l fs) a):(Code.region id l.toArray true).wp P Q a w:=by
 simp only[cA,decide_eq_true_eq]at hB;obtain⟨⟨⟨⟨⟨⟨⟨h1,h4⟩,h6⟩,h5⟩,h7⟩,h9⟩,h10⟩,h8⟩:=hB;refine fI (S:=C) (ds:=ts) hm ?_;have ht:∀t∈ts,∃o,l.toArray[t]? =some o:=fun t ht=>by
  have:=cC.1 h6 t ht;exact⟨_,Array.getElem?_eq_getElem (by simpa using this)⟩
 have hG:=fun j hj=>by
  have:=cC.1 h10 j hj;simpa only[cA,Bool.not_eq_true']using this
 have:=uZ (P:=P) (md:=.any) (C:=C) (D:=ts) (w:=w.drew) (k:=rs.length+(G.length+(mY u_+ts.length))) hQ h1 fs _ a (fun j oj _ hl=>by rw[getD_replicate_false]at hl;cases hl) h5 h
  fun hsh a1 hr=>KA (R:=fun a w=>J (fun _=>False) a w) hQ h1 rs _ a1 w.drew hC hsh h7 hr fun tV a2 hC2 h2=>GL (l0:=bC (bC (an l.length false) fs) rs) (J:=J) step (fun d a3 w3 hd wX OM hJ=>tT hQ h1 ht u_ _ a3 w3 wX OM h8 (fin d a3 w3 hd wX hJ)) hG _ _ (fun _=>False) a2 w.drew h9 hC2 tV (fun j hj=>.inl hj) (fun j hj=>hj.elim) h2
 rw[h4]at this;simpa using this
end
end Go.Proofs.YtlhhcnknclnlaaaGreatDoor.Top
namespace Go.Proofs.YtlhhcnknclnlaaaGreatDoor.Top
open Go Go.WideShapes Go.RowKit Go.Proofs.YtlhhcnknclnlaaaGreatDoor.iH Go.Proofs.YtlhhcnknclnlaaaGreatDoor.Oct Go.Proofs.YtlhhcnknclnlaaaGreatDoor.HX Go.Proofs.ah.aN Go.Proofs.ah.bA Go.Proofs.ah.dx
def zan:List bb:=[.int .i64 0,.int .i64 0,.int .u64 0,.bool false,.int .i64 0,.int .u32 0]
def LdR(N mt b bp be bF room n sh:Nat)(es:List jB)(W:al)(X:Nat->Prop):Prop:=
 ∃c D F Rs,zB W N mt b bp be bF room c D F (iD b bF 1 n sh (-1) 0 0 true)∧c<=200∧(∀C,jw n Rs 0 C F)∧Rs.length=sh∧Rs.flatten.Perm (es.map ed)∧∀g,X g->¬((D g∨g=be)∨g=bp)
structure LdJ (N mt b bp be bF room n sh base a0:Nat) (es:List jB) (D:Nat->Prop) (W:al) (v22 v23 v24 v7:bb) (d:Nat->Prop):Prop where
 j5:d 5->¬d 7->∃A c,v22=.slice A (kG n es).length c∧(kG n es).length<=c∧Kd.C (Kd.int .u8) W A (kG n es).length (kG n es)∧∀a,A=some a->base<=a.block∧a.block<W.heap.size
 j6:d 6->¬d 7->∃A c,v23=.agg #[.int .i64 2,.int .i64 (sh:Nat),.int .i64 0,.int .i64 0,.int .u32 0,.slice A (kG n es).length c,.slice none 0 0]∧(kG n es).length<=c∧Kd.C (Kd.int .u8) W A (kG n es).length (kG n es)∧∀a,A=some a->base<=a.block∧a.block<W.heap.size
 jn:¬d 7->zB W N mt b bp be bF room 0 D (fun _=>none) (iD b bF 0 0 0 0 0 0 false)
 j7:d 7->v24=.agg zan.toArray∧LdR N mt b bp be bF room n sh es W (fun g=>v7=.pointer (some ⟨g,0,none⟩)∧d 8)
 j76:d 7->d 6
 j0:St W a0 38 zan
 j8:d 8->∃g,v7=.pointer (some ⟨g,0,none⟩)∧base<=g∧St W g 38 zan
theorem LdR.grow{N mt b bp be bF room n sh:Nat}{es:List jB}{W W':al}{X X':Nat->Prop}(h:LdR N mt b bp be bF room n sh es W X)(hk:Keeps (fun _=>False) W W')(hX:∀g,X' g->X g∨W.heap.size<=g):LdR N mt b bp be bF room n sh es W' X':=by
 obtain⟨c,D,F,Rs,h1,h2,h3,h4,h5,h6⟩:=h;exact⟨c,D,F,Rs,h1.grow hk,h2,h3,h4,h5,fun g hg=>(hX g hg).elim (h6 g) fun h=>h1.far h⟩
theorem LdJ.keep{N mt b bp be bF room n sh base a0:Nat}{es:List jB}{D:Nat->Prop}{W W':al}{v22 v23 v24 v7:bb}{d:Nat->Prop}(h:LdJ N mt b bp be bF room n sh base a0 es D W v22 v23 v24 v7 d)(hk:Keeps (fun _=>False) W W'):LdJ N mt b bp be bF room n sh base a0 es D W' v22 v23 v24 v7 d:=
 ⟨fun h1 h2=>by
  obtain⟨A,c,e1,e2,e3,e4⟩:=h.j5 h1 h2;exact⟨A,c,e1,e2,jf e3 fun a e=>hk.at_ (e4 a e).2 id,fun a e=>⟨(e4 a e).1,cE (e4 a e).2 hk.size⟩⟩,fun h1 h2=>by
  obtain⟨A,c,e1,e2,e3,e4⟩:=h.j6 h1 h2;exact⟨A,c,e1,e2,jf e3 fun a e=>hk.at_ (e4 a e).2 id,fun a e=>⟨(e4 a e).1,cE (e4 a e).2 hk.size⟩⟩,fun h1=>(h.jn h1).grow hk,fun h1=>⟨(h.j7 h1).1,(h.j7 h1).2.grow hk fun _ h=>.inl h⟩,h.j76,h.j0.keep hk id,fun h1=>by
  obtain⟨g,e1,e2,e3⟩:=h.j8 h1;exact⟨g,e1,e2,e3.keep hk id⟩⟩
variable {b i j n:Nat}{w w':al}
theorem aaF{S:Nat->Prop}{v0 v1 v2 v3 v4 v5:bb}(hb:S b∨w.heap.size<=b):Keeps S w ((((((w.setCell ⟨b,0,none⟩ v0).setCell ⟨b,1,none⟩ v1).setCell ⟨b,2,none⟩ v2).setCell ⟨b,3,none⟩ v3).setCell ⟨b,4,none⟩ v4).setCell ⟨b,5,none⟩ v5):=(((((((Keeps.refl S w).setCell (a:=⟨b,0,none⟩) hb v0).setCell (a:=⟨b,1,none⟩) hb v1).setCell (a:=⟨b,2,none⟩) hb v2).setCell (a:=⟨b,3,none⟩) hb v3).setCell (a:=⟨b,4,none⟩) hb v4).setCell (a:=⟨b,5,none⟩) hb v5)
variable {A:Option cU}{es q:List jB}{mo jr:Int}
theorem Wd{mt sh bu cp room:Nat}{pk:Int}(hg:kQ w mt)(h0:0<w.heap.size)(hmt:mt<w.heap.size)(hC:Kd.C pR w A es.length es)(hcp:es.length<=cp)(hm:es.length<=15)(hn:n<=12)(he:∀e∈es,Ls (n:Int) e)(hs:1<=sh)(hs2:sh<=6)(hb:1<=bu)(hb2:bu<=20)(hr1:1000<=room)(hr2:room<=1000000):
 az aa 7 #[.agg #[.int .i64 pk,.int .u32 jr,.int .i64 (n:Nat),.slice A es.length cp,.int .i64 (sh:Nat),.int .i64 mo,.int .i64 (bu:Nat)],.int .i64 (room:Nat)] w fun e w'=>∃bp b be,e=.returned (.pointer (some ⟨bp,0,none⟩))∧LdR (w.heap.size+1) mt b bp be bu room n sh es w' (fun _=>False)∧Below w.heap.size w w':=by
 obtain⟨w1,hw1⟩:=ex (w.alloc (.cells #[.int .i64 pk,.int .u32 jr,.int .i64 (n:Nat),.slice A es.length cp,.int .i64 (sh:Nat),.int .i64 mo,.int .i64 (bu:Nat)] 29 (0,0)))
 have b1:Below w.heap.size w w1:=by rw[hw1];exact(Below.refl _ w).alloc (ae _) _
 have s1:St w1 w.heap.size 29 (Gd pk jr n (.slice A es.length cp) sh mo bu):=by rw[hw1];exact St.new _ _ _
 have z1:w1.heap.size=w.heap.size+1:=by rw[hw1];simp
 have hn1:=FR w1 room bu hr2;have p6:=s1.cell 6 rfl;have HG:=Y6 hg h0 hmt b1 s1 z1;have HE:=Y9 hC hcp hm hn he (cz hs hs2) (cz hb hb2) hr1 hr2;clear hg h0 hmt b1 s1 z1 hC hcp hm hn he hs hs2 hb hb2 hr1 hr2;obtain⟨m0,hm0⟩:=ex es.length
 go_enter func7,ntmps7;rw[hw1]at p6
 go_wp2_with fail
 rw[<-hw1];clear hw1 p6;refine hn1.mono ?_;clear hn1;rintro e w2 ⟨bp,b,D,rfl,hD,hp,hbp,hle,hlo,hb2⟩;have H2:=Y6 hD hp hbp hle hlo hb2;clear hD hp hbp hle hlo hb2
 go_wp2_with fail
 obtain⟨hD,hp,hbp,hle,hlo,hb2⟩:=H2.out;obtain⟨hg,h0,hmt,b1,s1,z1⟩:=HG.out;refine(FQ (N:=w.heap.size+1) (mt:=mt) hD hp hbp (fun _=>rfl) HE.out.2.2.2.2.2.2.1.1 (by rw[<-z1];exact hlo) (by rw[<-z1];exact hle) (((hg.keep (Keeps.of_below (S:=fun _=>False) b1) id id)).keep (Keeps.of_below (S:=fun _=>False) hb2) id id) (by omega) (by omega)).mono ?_;rintro e w3 ⟨rfl,be,hP3,hbe,hk3⟩;have s3:=(s1.keep (Keeps.of_below (S:=fun _=>False) hb2) id).keep hk3 fun h=>by
  rcases h with h|h
  .have:=hlo _ h;omega
  .omega
 have kz:=(Keeps.of_below (S:=fun j=>w.heap.size+1<=j) hb2).trans (hk3.mono (S':=fun j=>w.heap.size+1<=j) fun j _ h=>by
  rcases h with h|h
  .have:=hlo _ h;omega
  .omega) fun _ h=>.inl h
 have H3:=Y3 hP3 s3 kz;clear hD hp hbp hle hlo hb2 hg h0 hmt b1 s1 z1 hP3 hbe hk3 s3 kz H2
 go_wp2_with fail
 have a4:St (w3.alloc (.cells #[.int .i64 0,.int .i64 0,.int .u64 0,.bool false,.int .i64 0,.int .u32 0] 38 (0,0))) w3.heap.size 38 zan:=St.new _ _ _;have k4:Keeps (fun _=>False) w3 (w3.alloc (.cells #[.int .i64 0,.int .i64 0,.int .u64 0,.bool false,.int .i64 0,.int .u32 0] 38 (0,0))):=(Keeps.refl _ w3).alloc _;generalize w3.alloc (.cells #[.int .i64 0,.int .i64 0,.int .u64 0,.bool false,.int .i64 0,.int .u32 0] 38 (0,0))=w4 at*;have H4:aG (zB w4 (w.heap.size+1) mt b bp be bu room 0 D (fun x=>none) (iD b bu 0 0 0 0 0 0 false)∧St w4 w.heap.size 29 (Gd pk jr n (.slice A es.length cp) sh mo bu)∧Keeps (fun j=>w.heap.size+1<=j) w1 w4):=⟨H3.out.1.grow k4,H3.out.2.1.keep k4 id,H3.out.2.2.trans k4 fun _ h=>h.elim⟩
 have HD:aG ((∀j,D j->j<w3.heap.size)∧be<w3.heap.size∧bp<w3.heap.size∧w3.heap.size<w4.heap.size∧w.heap.size<w3.heap.size):=⟨fun j h=>H3.out.1.disk.lt h,H3.out.1.e.lt,H3.out.1.p.lt,a4.lt,H3.out.2.1.lt⟩
 have HA:=Y1 a4;have HCC:aG (∀W,Keeps (fun j=>w.heap.size+1<=j) w4 W->St W w.heap.size 29 (Gd pk jr n (.slice A es.length cp) sh mo bu)):=⟨fun W hW=>H4.out.2.1.keep hW (by omega)⟩
 clear a4 k4 H3;refine Dv (Keeps (fun j=>w.heap.size+1<=j) w4) 8 [0,1,3] [2,4] [5,6,7,8] (fun d a W=>∃v22 v23 v24 v7,a={tmps:=List.toArray (.agg #[.int .i64 pk,.int .u32 jr,.int .i64 (n:Nat),.slice A es.length cp,.int .i64 (sh:Nat),.int .i64 mo,.int .i64 (bu:Nat)]:: .int .i64 (room:Nat):: .pointer (some ⟨w.heap.size,0,none⟩)::undef:: .pointer none:: .pointer (some ⟨bp,0,none⟩):: .pointer (some ⟨w3.heap.size,0,none⟩)::v7:: .int .i64 (room:Nat):: .pointer (some ⟨w.heap.size,6,none⟩):: .int .i64 (bu:Nat):: .pointer (some ⟨bp,0,none⟩):: .pointer (some ⟨bp,0,none⟩):: .bool false:: .pointer (some ⟨bp,0,none⟩):: .agg #[.int .i64 1,.int .i64 0,.int .i64 0,.int .i64 0,.int .u32 0,.slice none 0 0,.slice none 0 0]:: .agg #[.int .i64 0,.int .i64 0,.int .u64 0,.bool false,.int .i64 0,.int .u32 0]:: .pointer (some ⟨bp,0,none⟩):: .pointer (some ⟨w.heap.size,4,none⟩):: .int .i64 (sh:Nat):: .pointer (some ⟨w.heap.size,2,none⟩):: .agg #[.int .i64 (n:Nat),.slice A es.length cp]::v22::v23::v24::undef::undef::undef::undef::undef::undef::undef::undef::undef::[]),defers:=[]}∧LdJ (w.heap.size+1) mt b bp be bu room n sh w4.heap.size w3.heap.size es D W v22 v23 v24 v7 d) [] [9] (by kernel_rfl) (fun _ _ x _ _ h=>by cases x<;>exact h) ((Keeps.refl _ w4).drewN 1) (by kernel_rfl) ?_ ?_ ?_
 .rintro d a W i o hi ho hC hd hnd ⟨v22,v23,v24,v7,rfl,hJ⟩;have HC:=Y2 hC hJ;simp only[List.mem_cons,List.not_mem_nil,or_false]at hi;rcases hi with rfl|rfl|rfl|rfl
  .clear hd hC hJ;cases ho;refine aH (fun K hK=>?_);go_simp;obtain⟨hC0,hcp,hm,hn,he,_⟩:=HE.out;have hb:=(HG.out.2.2.2.1).trans (((H4.out.2.2.trans HC.out.1 fun _ h=>.inl h).eG fun j hj h=>by have:=HG.out.2.2.2.2.2;omega).mono (by have:=HG.out.2.2.2.2.2;omega));refine(aA.calls 400 (n:Nat) A cp es (kG n es) W (Kd.bM hC0 hb) hcp (Ur (by omega) (by omega) (by omega) 400 (by omega))).mono ?_;rintro e W1 ⟨v,rfl,ho,hb1⟩;obtain⟨A',c',rfl⟩:=qm ho;have hr:vU W W1 A' _ c' _:=.Pz ho;obtain⟨hC,hJ⟩:=HC.out;have kb:Keeps (fun _=>False) W W1:=Keeps.of_below hb1;refine hK _ _ (hC.trans kb fun _ h=>h.elim) ?_;clear hK K;have hJ:=hJ.keep kb;exact aQ ⟨_,v23,v24,v7,rfl,fun _ _=>⟨A',c',rfl,hr.cap,hr.C,fun a e=>⟨bt hC.size (hr.fresh e).1,(hr.fresh e).2⟩⟩,fun h h'=>hJ.j6 (h.resolve_left (by decide)) fun x=>h' (.inr x),fun h=>hJ.jn fun x=>h (.inr x),fun h=>⟨(hJ.j7 (h.resolve_left (by decide))).1,(hJ.j7 (h.resolve_left (by decide))).2.grow (Keeps.refl _ _) fun g hg=>.inl ⟨hg.1,hg.2.resolve_left (by decide)⟩⟩,fun h=>.inr (hJ.j76 (h.resolve_left (by decide))),hJ.j0,fun h=>hJ.j8 (h.resolve_left (by decide))⟩
  .have n7:¬d 7:=fun h=>hnd (hJ.j76 h)
   obtain⟨A',c',rfl,e2,e3,e4⟩:=hJ.j5 (hd 5 (by kernel_rfl) (by kernel_rfl)) n7;have h5:=Y3 e2 e3 e4;clear hd hC hJ e2 e3 e4;cases ho;refine aH (fun K hK=>?_);go_simp;obtain⟨hC,hJ⟩:=HC.out;refine hK _ _ hC ?_;clear hK K;exact aQ ⟨_,_,v24,v7,rfl,fun h h'=>hJ.j5 (h.resolve_left (by decide)) fun x=>h' (.inr x),fun _ _=>⟨A',c',rfl,h5.out⟩,fun h=>hJ.jn fun x=>h (.inr x),fun h=>(n7 (h.resolve_left (by decide))).elim,fun h=>.inl rfl,hJ.j0,fun h=>hJ.j8 (h.resolve_left (by decide))⟩
  .obtain⟨A',c',rfl,e2,e3,e4⟩:=hJ.j6 (hd 6 (by kernel_rfl) (by kernel_rfl)) hnd;have h6:=hd 6 (by kernel_rfl) (by kernel_rfl);have h5:=Y4 e2 e3 e4 (hJ.jn hnd);clear hd hC hJ e2 e3 e4;cases ho;refine aH (fun K hK=>?_);go_simp;obtain⟨hC0,hcp,hm,hn,he,⟨hs,hs2⟩,⟨hb,hb2⟩,hr1,hr2⟩:=HE.out;obtain⟨e2,e3,e4,hP⟩:=h5.out;obtain⟨dD,dbe,dbp,d34,d0⟩:=HD.out;have hmul:sh*(es.length+2)<=6*(15+2):=Nat.mul_le_mul hs2 (by omega);refine(zm (n:=n) (m:=es.length) (s:=sh) (es:=es) (l:=kG n es) (cp:=c') hP (fun _=>rfl) e3 (fun a e=>by have:=(e4 a e).1;omega) e2 rfl rfl (by omega) he hn hs hs2 hb hb2 (by omega) (by omega)).mono ?_;rintro e W1 ⟨rfl,D',c1,F',Rs,hP',hc',hG',hRl,zX,hk,hl⟩;obtain⟨hC,hJ⟩:=HC.out;refine hK _ _ (hC.trans (hP.hi hk) fun _ h=>.inl h) ?_;clear hK K;have nn:∀g,w3.heap.size<=g->¬((D g∨g=be)∨g=bp):=fun g hg h=>by
    rcases h with(h|h)|h
    .have:=dD _ h;omega
    .omega
    .omega
   refine aQ ⟨v22,_,_,v7,rfl,fun _ h=>(h (.inl rfl)).elim,fun _ h=>(h (.inl rfl)).elim,fun h=>(h (.inl rfl)).elim,fun _=>⟨rfl,c1,D',F',Rs,hP',by omega,hG',hRl,zX,?_⟩,fun _=>.inr h6,hJ.j0.keep hk (nn _ (ae _)),fun h=>?_⟩
   .rintro g ⟨e,h8⟩ hh;obtain⟨g',e',hg',hsg⟩:=hJ.j8 (h8.resolve_left (by decide));rw[e]at e';cases e';have:=hsg.lt;rcases hh with(h|h)|h
    .rcases hl _ h with h|h
     .have:=dD _ h;omega
     .omega
    .omega
    .omega
   .obtain⟨g',e',hg',hsg⟩:=hJ.j8 (h.resolve_left (by decide));exact⟨g',e',hg',hsg.keep hk (nn _ (by omega))⟩
  .clear hd hC hJ;cases ho;refine aH (fun K hK=>?_);go_simp;obtain⟨hC,hJ⟩:=HC.out;refine hK _ _ (hC.alloc _) ?_;clear hK K;have kA:=(Keeps.refl (fun _=>False) W).alloc (.cells #[.int .i64 0,.int .i64 0,.int .u64 0,.bool false,.int .i64 0,.int .u32 0] 38 (0,0));have hJ':=hJ.keep kA;exact aQ ⟨v22,v23,v24,_,rfl,fun h h'=>hJ'.j5 (h.resolve_left (by decide)) fun x=>h' (.inr x),fun h h'=>hJ'.j6 (h.resolve_left (by decide)) fun x=>h' (.inr x),fun h=>hJ'.jn fun x=>h (.inr x),fun h=>⟨(hJ.j7 (h.resolve_left (by decide))).1,(hJ.j7 (h.resolve_left (by decide))).2.grow kA fun g hg=>.inr (by have:=hg.1;cases this;exact ae _)⟩,fun h=>.inr (hJ.j76 (h.resolve_left (by decide))),hJ'.j0,fun _=>⟨_,rfl,hC.size,St.new _ _ _⟩⟩
 .rintro d a W hd hC ⟨v22,v23,v24,v7,rfl,hJ⟩;obtain⟨g,rfl,hg,hsg⟩:=hJ.j8 (hd 8 (by simp));obtain⟨rfl,hR⟩:=hJ.j7 (hd 7 (by simp));have h8:=hd 8 (by simp);have ha0:=hJ.j0;have t0:=hsg.frozen 0;have t1:=hsg.frozen 1;have t2:=hsg.frozen 2;have t3:=hsg.frozen 3;have t4:=hsg.frozen 4;have t5:=hsg.frozen 5;have c0:=hsg.cell 0 rfl;have c1:=hsg.cell 1 rfl;have c2:=hsg.cell 2 rfl;have c3:=hsg.cell 3 rfl;have c4:=hsg.cell 4 rfl;have c5:=hsg.cell 5 rfl;have a00:=ha0.cell 0 rfl;have hne:g≠w3.heap.size:=by have:=HD.out.2.2.2.1;omega
  have HF:=Y5 hC hg hsg hR h8;clear hd hJ hC hg hsg hR h8 ha0;simp only[gu,aJ,ai,ao,af,ag,zan]
  go_wp2_with fail
  obtain⟨hC,hg,hsg,hR,h8⟩:=HF.out;obtain⟨c,D2,F,Rs,h1,h2,h3,h4,h5,h6⟩:=hR;have nx:=h6 g ⟨rfl,h8⟩;obtain⟨dD,dbe,dbp,d34,d0⟩:=HD.out;have k6:Keeps (fun j=>j=g) W ((((((W.setCell ⟨g,0,none⟩ (.int .i64 0)).setCell ⟨g,1,none⟩ (.int .i64 0)).setCell ⟨g,2,none⟩ (.int .u64 0)).setCell ⟨g,3,none⟩ (.bool false)).setCell ⟨g,4,none⟩ (.int .i64 0)).setCell ⟨g,5,none⟩ (.int .u32 0)):=aaF (.inl rfl);obtain⟨hg0,hz,hmt,b1,s1,z1⟩:=HG.out;go_ret;refine⟨bp,b,be,rfl,⟨c,D2,F,Rs,h1.keep k6 (fun j hj e=>nx (.inl (.inl (e▸hj)))) (fun e=>nx (.inr e.symm)) (fun e=>nx (.inl (.inr e.symm))) (by omega) (by omega),h2,h3,h4,h5,fun _ h=>h.elim⟩,?_⟩;exact b1.trans ((((H4.out.2.2.trans hC fun _ h=>.inl h).trans (k6.mono (S':=fun j=>w.heap.size+1<=j) fun _ _ e=>by omega) fun _ h=>.inl h).eG fun j hj h=>by omega).mono (by omega))
 .simp only[aJ,ai,ao,af,ag]
  repeat (refine aI (fun K hK=>?_);go_simp;refine hK _ ?_;clear hK K)
  refine au ?_;refine ak (fun K hK=>?_);go_simp;refine⟨.int .i64 (sh:Nat),fun W hW=>(by rw[(HCC.out W hW).cell 4 rfl];rfl),hK _ ?_⟩;clear hK K;refine ak (fun K hK=>?_);go_simp;refine⟨.agg #[.int .i64 (n:Nat),.slice A es.length cp],fun W hW=>(by
   have s:=HCC.out W hW;simp only[s.cell 2 rfl,s.cell 3 rfl,cy]),hK _ ?_⟩
  clear hK K;refine bD ?_;have kd:Keeps (fun _=>False) w4 w4.drew:=(Keeps.refl _ w4).drewN 1;exact⟨_,_,_,_,rfl,fun h=>h.elim,fun h=>h.elim,fun _=>H4.out.1.grow kd,fun h=>h.elim,fun h=>h.elim,HA.out.keep kd id,fun h=>h.elim⟩
variable {E:zH}
theorem aip{E':zH}(h:∀e,e∈E↔e∈E')(v:Nat):grt E v=grt E' v:=by
 have e:∀g,Closed E g↔Closed E' g:=fun g=>⟨fun hc=>⟨hc.1,fun e he=>hc.2 e ((h e).2 he)⟩,fun hc=>⟨hc.1,fun e he=>hc.2 e ((h e).1 he)⟩⟩
 unfold grt
 congr 1
 funext k
 exact propext ⟨fun ⟨g,h1,h2⟩=>⟨g,(e g).1 h1,h2⟩,fun ⟨g,h1,h2⟩=>⟨g,(e g).2 h1,h2⟩⟩
def zw(es:List jB):zH:=es.map fun e=>uL (ed e)
variable {Rs:List (List Ed)}
theorem FW(h:Rs.flatten.Perm (es.map ed))(e:Nat×Nat):e∈Rs.flatten.map uL↔e∈zw es:=by
 have:=(h.map uL).mem_iff (a:=e);rw[List.map_map]at this;exact this
theorem KD(he:∀e∈es,Ls (n:Int) e):∀e∈zw es,e.1<n∧e.2<n:=fun e h=>by
 obtain⟨x,hx,rfl⟩:=cW.1 h;have:=Kt (he x hx);exact⟨this.1,this.2.1⟩
theorem Wh(h:Rs.flatten.Perm (es.map ed))(he:∀e∈es,Ls (n:Int) e):(∀r∈Rs,∀e∈r,e.ok n)∧Rs.flatten.length=es.length∧∀e∈Rs.flatten.map uL,e.1<n∧e.2<n:=by
 refine⟨fun r hr e hx=>?_,by rw[h.length_eq,cN],fun e hx=>KD he e ((FW h e).1 hx)⟩;have h1:=h.mem_iff.1 (cH.2 ⟨r,hr,hx⟩);obtain⟨x,hx2,rfl⟩:=cW.1 h1;exact Kt (he x hx2)
theorem RX{S:Nat->Prop}(h:Kd.C pR w A q.length q)(hk:Keeps S w w')(hs:∀g o,A=some ⟨g,o,none⟩->(∀j u,(M0 q)[j]? =some u->w.cell? ⟨g,o+j,none⟩=some u)->0<q.length->¬S g):Kd.C pR w' A q.length q:=by
 by_cases h0:q=[]
 .subst h0;exact⟨rfl,by simp,fun h=>absurd h (aE 0)⟩
 .refine zq h fun a e=>?_
  have hp:=ar.2 h0;obtain⟨g,o,e',hcs⟩:=uP h hp;rw[e]at e';cases e';have hl:0<(M0 q).length:=by rw[mO];omega
  have h3:=ax _ _ (hcs 0 _ (ab hl));rw[oI]at h3;exact hk.at_ h3 (hs g o e (fun j u hj=>by have:=hcs j u hj;rwa [zi]at this) hp)
theorem aaG{g o:Nat}{pk n sh bu:Int}{es:bb}(hs:St w b 29 (Gd pk jr n es sh mo bu))(hes:∀x,es≠.int .u32 x)(hc:∀j u,(M0 q)[j]? =some u->w.cell? ⟨g,o+j,none⟩=some u)(hp:0<q.length):g≠b:=by
 rintro rfl;obtain⟨h1,h2,h3⟩:=Dr q 0 q[0] (ab hp);have c1:=hc _ _ h1;have c2:=hc _ _ h2;have hs':w.heap[g]? =some (.cells (Gd pk jr n es sh mo bu).toArray 29 (0,0)):=hs;rw[ay hs']at c1 c2
 match o,c1,c2 with
 |0,c1,c2=>injection c1 with c1;cases c1
 |1,c1,c2=>injection c2 with c2;cases c2
 |2,c1,c2=>injection c1 with c1;cases c1
 |3,c1,c2=>injection c1 with c1;exact hes _ c1
 |4,c1,c2=>injection c1 with c1;cases c1
 |5,c1,c2=>injection c1 with c1;cases c1
 |6,c1,c2=>injection c1 with c1;cases c1
 |o+7,c1,c2=>simp[Gd]at c1
theorem Keeps.rC{S:Nat->Prop}{B:Nat}(h:Keeps S w w')(hS:∀k,k<B->¬S k)(hB:B<=w.heap.size):Below B w w':=⟨h.1,h.2.1,h.2.2.1,h.size,fun k hk=>h.at_ (by omega) (hS k hk)⟩
theorem Nb{α:Type}(f:List Int->α->List Int)(l:List Int){E:List α}{e:α}(h:E[i]? =some e):(E.take (i+1)).foldl f l=f ((E.take i).foldl f l) e:=by
 rw[List.take_add_one,h,List.foldl_append];rfl
theorem agz(n:Nat)(hn:n<=1000)(W:al):(Instr.makeSlice 44 (.int .i64 (n:Int)) (.int .i64 (n:Int))).run aa W=.ok (.slice (some ⟨W.heap.size,0,none⟩) n n) (W.alloc (.cells (nums .i64 (ba n 0)).toArray 3 (0,0))):=by
 rw[nO 44 3 (.int .i64 0) 8 underlying44 (by kernel_rfl) rfl (by omega) n (by omega) W,vE];simp[nums]
variable {V:List Int}
theorem rD(h:i<V.length):(nums .i64 V)[i]? =some (.int .i64 (V.getD i 0)):=by
 simp[nums,a_,h]
theorem zx(V:List Int)(k:Nat)(x:Int):(nums .i64 V).set k (.int .i64 x)=nums .i64 (V.set k x):=by simp[nums,List.map_set]
def LeI(n:Nat)(E:zH)(j:Nat)(V:List Int)(L:List Bool):Prop:=
 ah3 n E V L∧V.length=n∧L.length=n∧∃C:Nat->List Int×List Bool,C 0=(iV 2 0 n,jE 2 0 n)∧C j=(V,L)∧∀i,i<j->Sup (fun x=>x) n E (C i).1 (C i).2 (C (i+1)).1 (C (i+1)).2
variable {L:List Bool}
theorem LeI.rng(h:LeI n E j V L)(hn:n<=12):∀v,v<n->0<=V.getD v 0∧V.getD v 0<18446744073709551615:=fun v hv=>by
 have h1:=h.1.ge v hv;have h2:=h.1.le v hv;omega
theorem aik(hE:∀e∈E,e.1<n∧e.2<n)(hn:n<=12):Rel n 2 0 E (LeI n E):=by
 refine⟨⟨ah7 hE,?_,?_,fun _=>(iV 2 0 n,jE 2 0 n),rfl,rfl,fun i h=>by omega⟩,fun j V L V' L' hj h hs=>?_,fun j V L hj h v hv hl=>?_⟩
 .unfold iV;rw[if_neg (by decide)];simp
 .unfold jE;rw[if_neg (by decide)];simp
 .have hs':Sup (fun x=>x) n E V L V' L':=hs;obtain⟨h1,h2,h3,C,c0,cj,hc⟩:=h;refine⟨h1.step hE hs',hs.v,hs.l,fun i=>if i<=j then C i else(V',L'),?_,?_,fun i hi=>?_⟩
  .exact(if_pos (cJ _)).trans c0
  .exact if_neg (by omega)
  .by_cases hij:i<j
   .have e1:(if i<=j then C i else(V',L'))=C i:=if_pos (by omega);have e2:(if i+1<=j then C (i+1)else(V',L'))=C (i+1):=if_pos (by omega);simp only[e1,e2];exact hc i hij
   .obtain rfl:i=j:=by omega
    have e1:(if i<=i then C i else(V',L'))=(V,L):=(if_pos (ae _)).trans cj;have e2:(if i+1<=i then C (i+1)else(V',L'))=(V',L'):=if_neg (by omega);simp only[e1,e2];exact hs'
 .have:=h.rng hn v hv;omega
theorem LeI.end_(h:LeI n E j V L)(hE:∀e∈E,e.1<n∧e.2<n)(hq:j=n+1∨Still n L):∀v,v<n->V.getD v 0=grt E v∧L.getD v false=false:=by
 have hs:Still n L:=by
  rcases hq with rfl|hq
  .obtain⟨h1,h2,h3,C,c0,cj,hc⟩:=h;have:=aij hE C (by rw[c0];exact ah7 hE) (fun j hj=>hc j (by omega));rwa [cj]at this
  .exact hq
 exact fun v hv=>⟨h.1.still hE hs v hv,hs v hv⟩
def lq(E:zH)(l:List Int):Nat->List Int
 |0=>l
 |k+1=>E.foldl ah4 (lq E l k)
theorem aib(E:zH):∀l:List Int,(E.foldl ah4 l).length=l.length:=by
 induction E with
 |nil=>exact fun _=>rfl
 |cons e E ih=>exact fun l=>(ih _).trans (by unfold ah4;rw[bj])
theorem aic(E:zH)(l:List Int):∀k,(lq E l k).length=l.length
 |0=>rfl
 |k+1=>(aib E _).trans (aic E l k)
theorem ais{l:List Int}(hE:∀e∈E,e.1<n∧e.2<n)(hl:l.length=n)(h:∀v,v<n->l.getD v 0=v):∀v,v<n->(lq E l n).getD v 0=grt E v:=
 ah9 hE (lq E l) ⟨hl,h⟩ fun _ _=>rfl
theorem ait(E:zH)(v:Nat):grt E v<=v:=(ah5 E).1 v
section
attribute [local go_sem] gM gN
theorem aie{w:al}{mt cp:Nat}{pk jr n sh mo bu:Int}{A:Option cU}{es:List jB}(hg:kQ w mt)(h0:0<w.heap.size)(hmt:mt<w.heap.size)(hC:Kd.C pR w A es.length es)(hcp:es.length<=cp)(hb:∀e∈es,(0<=e.f0∧e.f0<4294967296)∧(0<=e.f1∧e.f1<4294967296)∧0<=e.f2∧e.f2<4294967296):
 az aa 4 #[.agg #[.int .i64 pk,.int .u32 jr,.int .i64 n,.slice A es.length cp,.int .i64 sh,.int .i64 mo,.int .i64 bu]] w fun e w'=>e=.returned (.bool true)∧Below w.heap.size w w':=by
 obtain⟨w1,hw1⟩:=ex (w.alloc (.cells #[.int .i64 pk,.int .u32 jr,.int .i64 n,.slice A es.length cp,.int .i64 sh,.int .i64 mo,.int .i64 bu] 29 (0,0)))
 have b1:Below w.heap.size w w1:=by rw[hw1];exact(Below.refl _ w).alloc (ae _) _
 have s1:St w1 w.heap.size 29 (Gd pk jr n (.slice A es.length cp) sh mo bu):=by rw[hw1];exact St.new _ _ _
 have z1:w1.heap.size=w.heap.size+1:=by rw[hw1];simp
 have hwk:=V7 (hg.keep (Keeps.of_below (S:=fun _=>False) b1) id id) (by omega) (by omega);have HG:=Y6 hg h0 hmt b1 s1 z1;have HE:=Y3 hC hcp hb;clear hg h0 hmt b1 s1 z1 hC hcp hb;go_enter func4,ntmps4
 go_wp2_with fail
 rw[<-hw1];clear hw1;refine hwk.mono ?_;clear hwk;rintro e w2 ⟨rfl,hb2⟩;have s2:=HG.out.2.2.2.2.1.keep (Keeps.of_below (S:=fun _=>False) hb2) id;have c2:=s2.cell 2 rfl;have H2:=Y2 s2 hb2;clear s2 hb2;have c0:=H2.out.1.cell 0 rfl;have c1:=H2.out.1.cell 1 rfl;have f0:=H2.out.1.frozen 0;have f1:=H2.out.1.frozen 1;have c3:=H2.out.1.cell 3 rfl;have c4:=H2.out.1.cell 4 rfl;have c5:=H2.out.1.cell 5 rfl;have c6:=H2.out.1.cell 6 rfl
 go_wp2_with fail
 have s3:St ((w2.setCell ⟨w.heap.size,0,none⟩ (.int .i64 2)).setCell ⟨w.heap.size,1,none⟩ (.int .u32 0)) w.heap.size 29 (Gd 2 0 n (.slice A es.length cp) sh mo bu):=(H2.out.1.set 0 (.int .i64 2)).set 1 (.int .u32 0);have k3:=((Keeps.refl (fun j=>j=w.heap.size) w2).setCell (a:=⟨w.heap.size,0,none⟩) (.inl rfl) (.int .i64 2)).setCell (a:=⟨w.heap.size,1,none⟩) (.inl rfl) (.int .u32 0);generalize (w2.setCell ⟨w.heap.size,0,none⟩ (.int .i64 2)).setCell ⟨w.heap.size,1,none⟩ (.int .u32 0)=w3 at*;have kz3:=((Keeps.of_below (S:=fun j=>w.heap.size<=j) HG.out.2.2.2.1).trans (Keeps.of_below (S:=fun _=>False) H2.out.2) fun _ h=>h.elim).trans k3 fun j h=>.inl (by omega)
 have b3:=kz3.eG fun j hj h=>by omega
 refine(aaE (pk:=2) (jr:=0) (n:=n) (sh:=sh) (mo:=mo) (bu:=bu) (Kd.bM HE.out.1 b3) HE.out.2.1 HE.out.2.2).mono ?_;rintro e w4 ⟨A',c',m',sh',Gf,FV,may,rfl,hb4,hmay⟩;have s4:=s3.keep (Keeps.of_below (S:=fun _=>False) hb4) id;have kz4:=kz3.trans (Keeps.of_below (S:=fun _=>False) hb4) fun _ h=>h.elim
 have s5:St (((((((w4.setCell ⟨w.heap.size,0,none⟩ (.int .i64 2)).setCell ⟨w.heap.size,1,none⟩ (.int .u32 0)).setCell ⟨w.heap.size,2,none⟩ (.int .i64 n)).setCell ⟨w.heap.size,3,none⟩ (.slice A' m' c')).setCell ⟨w.heap.size,4,none⟩ (.int .i64 sh')).setCell ⟨w.heap.size,5,none⟩ (.int .i64 Gf)).setCell ⟨w.heap.size,6,none⟩ (.int .i64 FV)) w.heap.size 29 (Gd 2 0 n (.slice A' m' c') sh' Gf FV):=s4.Ky;have k5:Keeps (fun j=>j=w.heap.size) w4 (((((((w4.setCell ⟨w.heap.size,0,none⟩ (.int .i64 2)).setCell ⟨w.heap.size,1,none⟩ (.int .u32 0)).setCell ⟨w.heap.size,2,none⟩ (.int .i64 n)).setCell ⟨w.heap.size,3,none⟩ (.slice A' m' c')).setCell ⟨w.heap.size,4,none⟩ (.int .i64 sh')).setCell ⟨w.heap.size,5,none⟩ (.int .i64 Gf)).setCell ⟨w.heap.size,6,none⟩ (.int .i64 FV)):=zu (.inl rfl);have d0:=s4.cell 0 rfl;have d1:=s4.cell 1 rfl;have d2:=s4.cell 2 rfl;have d3:=s4.cell 3 rfl;have d4:=s4.cell 4 rfl;have d5:=s4.cell 5 rfl;have d6:=s4.cell 6 rfl;have g0:=s4.frozen 0;have g1:=s4.frozen 1;have g2:=s4.frozen 2;have g3:=s4.frozen 3;have g4:=s4.frozen 4;have g5:=s4.frozen 5;have g6:=s4.frozen 6;have H5:=Y5 s5 k5 kz4 s4 hmay;clear s3 k3 kz3 b3 hb4 hmay s4 kz4 s5 k5 c0 c1 c2 c3 c4 c5 c6 f0 f1;cases may with
 |false=>
  go_wp2_with fail
  go_ret;obtain⟨s5,k5,kz4,_⟩:=H5.out;exact⟨rfl,(kz4.trans k5 fun j h=>.inl (by omega)).eG fun j hj h=>by omega⟩
 |true=>
  go_wp2_with fail
  obtain⟨s5,k5,kz4,s4,hmay⟩:=H5.out;have z4:=s4.lt;obtain⟨es',rfl,I8,hmc,Xq,⟨hn0,aaI⟩,hen,⟨KW,tV⟩,⟨Wj,Wm⟩,h13⟩:=hmay trivial;obtain⟨n,rfl⟩:∃k:Nat,n=(k:Int):=⟨n.toNat,by omega⟩
  obtain⟨sh,rfl⟩:∃k:Nat,sh'=(k:Int):=⟨sh'.toNat,by omega⟩
  obtain⟨bu,rfl⟩:∃k:Nat,FV=(k:Int):=⟨FV.toNat,by omega⟩
  have Rl:=kz4.trans k5 fun j h=>.inl (by omega)
  have LV:=RX Xq k5 fun g o _ hc hp=>aaG s4 (by intro x h;cases h) hc hp
  have lt5:=k5.size;generalize ((((((w4.setCell ⟨w.heap.size,0,none⟩ (.int .i64 2)).setCell ⟨w.heap.size,1,none⟩ (.int .u32 0)).setCell ⟨w.heap.size,2,none⟩ (.int .i64 (n:Int))).setCell ⟨w.heap.size,3,none⟩ (.slice A' es'.length c')).setCell ⟨w.heap.size,4,none⟩ (.int .i64 (sh:Int))).setCell ⟨w.heap.size,5,none⟩ (.int .i64 Gf)).setCell ⟨w.heap.size,6,none⟩ (.int .i64 (bu:Int))=w5 at*;obtain⟨hg,h0,hmt,b1,s1,z1⟩:=HG.out;have zz:=Rl.size;refine(Wd (w:=w5) (mt:=mt) (n:=n) (sh:=sh) (bu:=bu) (room:=10000) (hg.keep Rl (by omega) (by omega)) (by omega) (by omega) LV hmc I8 (by omega) hen (by omega) (by omega) (by omega) (by omega) (by omega) (by omega)).mono ?_;rintro e w6 ⟨bp,b,be,rfl,⟨c,D,F,Rs,Kw,hc6,Dj,hRl,zX,hX6⟩,hb6⟩;clear hX6;have s6:=s5.keep (Keeps.of_below (S:=fun _=>False) hb6) id;have q0:=s6.cell 0 rfl;have q1:=s6.cell 1 rfl;have q2:=s6.cell 2 rfl;have RY:=s5.lt;have hE5:=FN LV hen;have H6:=Wo Kw hc6 Dj hRl zX hb6 s6 (hE5.below hb6) Rl RY;have HH:=Y6 hen I8 (cz KW tV) (cz Wj Wm) aaI h0;clear Kw hc6 Dj hRl zX hb6 s6 hE5 Rl RY hen I8 KW tV Wj Wm h13 hn0 hmay Xq LV s5 k5 kz4 s4 hg h0 hmt b1 s1 z1 H5 d0 d1 d2 d3 d4 d5 d6 g0 g1 g2 g3 g4 g5 g6 lt5 H2 zz z4 hmc
  go_wp2_with fail
  obtain⟨Kw,hc6,Dj,hRl,zX,hb6,s6,VU,Rl,RY⟩:=H6.out;obtain⟨hen,I8,⟨KW,tV⟩,⟨Wj,Wm⟩,aaI,h0⟩:=HH.out;obtain⟨hok,hfl,hE'⟩:=Wh zX hen;have hrun:=Kv (kd:=2) (st:=0) (most:=n+1) (I:=LeI n (Rs.flatten.map uL)) Kw (Dj fun _=>([],[])) (.inr ⟨rfl,rfl⟩) (by omega) hRl (by omega) (by omega) hok (by omega) (aik hE' (by omega)) (by omega) (by omega) (by omega) (by omega);rw[show((n+1:Nat):Int)=(n:Int)+1 by omega]at hrun;refine hrun.mono ?_;clear hrun;rintro e w7 ⟨K,C,rfl,hK,hend,hst',hIs,D7,c7,F7,hP7,Xy,hk7,hl7⟩;have k7:=Kw.hi hk7;have s7:=s6.keep k7 (by omega);have hE7:=VU.below (k7.rC (fun j hj h=>by omega) hb6.size);have hI0:=hIs K (ae _);have hI1:=hI0.1;have hI2:=hI0.2.1;have hI3:=hI0.2.2.1;have hV:∀v,v<n->(C K).1.getD v 0=(grt (zw es') v:Nat)∧(C K).2.getD v false=false:=fun v hv=>by
   rw[<-aip (FW zX)];exact hI0.end_ hE' hend v hv
  have hrg:=hI0.rng (show n<=12 by omega);have kz7:=(Rl.trans (Keeps.of_below (S:=fun _=>False) hb6) fun _ h=>h.elim).trans (k7.mono (S':=fun j=>w.heap.size<=j) fun j _ h=>by omega) fun _ h=>.inl h
  obtain⟨w8,hw8⟩:=ex (w7.alloc (.cells #[.int .i64 0,.int .i64 (K:Nat),.int .u64 0,.bool false,.int .i64 0,.int .u32 0] 38 (0,0)))
  have k8:Keeps (fun _=>False) w7 w8:=by rw[hw8];exact(Keeps.refl _ w7).alloc _
  have a8:St w8 w7.heap.size 38 [.int .i64 0,.int .i64 (K:Nat),.int .u64 0,.bool false,.int .i64 0,.int .u32 0]:=by rw[hw8];exact St.new _ _ _
  have nD:∀g,w7.heap.size<=g->¬((D7 g∨g=be)∨g=bp):=fun g hg=>hP7.far hg
  have H8:=Y7 (hP7.grow k8) (Xy.st K (by omega)) a8 (s7.keep k8 id) (jq.below (Keeps.rC k8 (fun _ _ h=>h) (by have:=hb6.size;have:=k7.size;omega)) hE7) (kz7.trans k8 fun _ h=>h.elim) nD;have HV:=Y5 hK hV hI2 hI3 hrg;have HZ:=Y2 RY (bt hb6.size k7.size);have b0:=a8.cell 0 rfl;have b2:=(s7.keep k8 id).cell 2 rfl;rw[hw8]at b0 b2;clear Kw hc6 Dj hRl zX hb6 s6 VU Rl RY hen I8 KW tV Wj Wm hok hfl hE' hK hend hst' hIs hP7 Xy hk7 hl7 k7 s7 hE7 hI0 hI1 hI2 hI3 hV hrg kz7 k8 a8 nD q0 q1 q2 H6;have hmk:=agz n (by omega);have hnz:¬(n:Int)<0:=by omega
  go_wp2_with fail
  rw[<-hw8];have z8:w8.heap.size=w7.heap.size+1:=by rw[hw8];simp
  clear hw8 b0 b2;have s9:St (w8.alloc (.cells (nums .i64 (ba n 0)).toArray 3 (0,0))) (w7.heap.size+1) 3 (nums .i64 (ba n 0)):=by rw[<-z8];simpa using St.new w8 3 (nums .i64 (ba n 0)).toArray
  have k9:Keeps (fun _=>False) w8 (w8.alloc (.cells (nums .i64 (ba n 0)).toArray 3 (0,0))):=(Keeps.refl _ w8).alloc _;generalize w8.alloc (.cells (nums .i64 (ba n 0)).toArray 3 (0,0))=w9 at*;obtain⟨f,hf⟩:=ex (w7.heap.size+1)
  rw[<-hf]at s9⊢;have H9:aG (∀W,Keeps (fun j=>j=f) w9 W->zB W (w5.heap.size+1) mt b bp be bu 10000 c7 D7 F7 (iD b bu (2+K) n sh (K:Nat) 2 0 true)∧St W w7.heap.size 38 [.int .i64 0,.int .i64 (K:Nat),.int .u64 0,.bool false,.int .i64 0,.int .u32 0]∧St W w.heap.size 29 (Gd 2 0 n (.slice A' es'.length c') sh Gf bu)∧jq w5.heap.size W A' (es'.map ed)∧Keeps (fun j=>w.heap.size<=j) w W):=by
   obtain⟨hP8,hF8,a8,s8,hE8,kz8,nD⟩:=H8.out;obtain⟨y1,y2⟩:=HZ.out;have nf:=nD f (by omega);have h0:=HH.out.2.2.2.2.2;refine⟨fun W hW=>⟨(hP8.grow k9).keep hW (fun j hj e=>nf (.inl (.inl (e▸hj)))) (fun e=>nf (.inr e.symm)) (fun e=>nf (.inl (.inr e.symm))) (by omega) (by have:=hP8.nm;omega),(a8.keep k9 id).keep hW (by omega),(s8.keep k9 id).keep hW (by omega),(hE8.below (k9.rC (fun _ _ h=>h) (by omega))).below (hW.rC (fun j hj h=>by omega) (by have:=k9.size;omega)),(kz8.trans k9 fun _ h=>h.elim).trans hW fun j h=>.inl (by omega)⟩⟩
  have hfz:=Y1 hf;have aaI:=HH.out.2.2.2.2.1;have A0:=Y1 s9;have I8:=HH.out.2.1;clear s9 k9 hf z8 hmk
  go_loopg [8] n (fun kq v8 wr=>∃k:Nat,kq+k=n∧v8=.int .i64 (k:Nat)∧aG (Keeps (fun j=>j=f) w9 wr∧∃l,St wr f 3 (nums .i64 l)∧l.length=n∧∀v,v<k->l.getD v 0=v))
  case atStart=>exact⟨0,by omega,rfl,⟨Keeps.refl _ _,_,A0.out,by simp,fun v h=>by omega⟩⟩
  case round=>
   obtain⟨k,hk,rfl,hA⟩:=hrel;obtain⟨hkw,l,hsl,hll,hlv⟩:=hA.out;have p2:=(H9.out wr hkw).2.2.1.cell 2 rfl;by_cases hlt:k<n
   .have t0:=hsl.cell k (rD (by omega));have u0:=hsl.frozen k;have hs2:St (wr.setCell ⟨f,k,none⟩ (.int .i64 (k:Nat))) f 3 (nums .i64 (l.set k (k:Nat))):=by rw[<-zx];exact hsl.set k _
    have HA2:=Y4 (hkw.setCell (a:=⟨f,k,none⟩) (.inl rfl) (.int .i64 (k:Nat))) hs2 hll hlv;clear hsl hll hlv hkw hs2 hA;obtain⟨k1,hk1⟩:∃k1,k1+(k+1)=n:=⟨n-(k+1),by omega⟩
    go_wp2_with fail
    go_roundg k1
    case measure=>omega
    case rel=>
     obtain⟨a1,a2,a3,a4⟩:=HA2.out;refine⟨k+1,by omega,by simp,a1,_,a2,by rw[bj];exact a3,fun v hv=>?_⟩;rw[dL _ _ _ _ _ (by omega)];by_cases e:k=v
     .rw[if_pos e,e]
     .rw[if_neg e];exact a4 v (by omega)
   .obtain rfl:n=k:=by omega
    have HA2:=Y4 hkw hsl hll hlv;clear hsl hll hlv hkw hA A0 hk
    go_wp2_with fail
    clear p2 hlt;generalize wr=wB at*;generalize l=lB at*;obtain⟨m,hm⟩:=ex es'.length
    rw[<-hm]at I8;have HM:=Y1 hm;clear hm
    go_loopg [9] n (fun kq v9 wr=>∃k:Nat,kq+k=n∧v9=.int .i64 (k:Nat)∧aG (Keeps (fun j=>j=f) w9 wr∧St wr f 3 (nums .i64 (lq (zw es') lB k))))
    case atStart=>exact⟨0,by omega,rfl,⟨HA2.out.1,HA2.out.2.1⟩⟩
    case round=>
     obtain⟨k,hk,rfl,hA⟩:=hrel;obtain⟨hkw,hsl⟩:=hA.out;have p2:=(H9.out wr hkw).2.2.1.cell 2 rfl;have HA3:=Y2 hkw hsl;clear hkw hsl hA;by_cases hlt:k<n
     .obtain⟨k1,hk1⟩:∃k1,k1+(k+1)=n:=⟨n-(k+1),by omega⟩
      go_wp2_with fail
      clear p2
      go_loopg [10] m (fun kq v10 wr=>∃i:Nat,kq+i=m∧v10=.int .i64 (i:Nat)∧aG (Keeps (fun j=>j=f) w9 wr∧∃l',St wr f 3 (nums .i64 l')∧l'.length=n∧l'=((zw es').take i).foldl ah4 (lq (zw es') lB k)))
      case atStart=>exact⟨0,by omega,rfl,⟨HA3.out.1,_,HA3.out.2,(aic _ _ _).trans HA2.out.2.2.1,by simp⟩⟩
      case round=>
       obtain⟨i,hi,rfl,hA⟩:=hrel;obtain⟨hkw,l',hsl,hll,hle⟩:=hA.out;obtain⟨hPz,haz,hbz,hEz,hkz⟩:=H9.out wr hkw;have p2:=hbz.cell 2 rfl;have p3:=hbz.cell 3 rfl;rw[<-HM.out]at p3;by_cases hlt2:i<m
       .obtain⟨x,hx⟩:∃x,es'[i]? =some x:=⟨_,ab (by have:=HM.out;omega)⟩
        have hex:(es'.map ed)[i]? =some (ed x):=by rw[cG,hx];rfl
        have hee:(zw es')[i]? =some (uL (ed x)):=by unfold zw;rw[cG,hx];rfl
        obtain⟨ea,eb,ec⟩:=Kt (HH.out.1 x (List.mem_of_getElem? hx));obtain⟨g,o,rfl,hg5,g0,g1,g2⟩:=hEz i (ed x) hex;generalize ed x=e at*;obtain⟨wx,hwx⟩:=ex (wr.alloc (.cells #[.int .u32 (e.a:Nat),.int .u32 (e.b:Nat),.int .u32 (e.c:Nat)] 46 (0,0)))
        have kx:Keeps (fun _=>False) wr wx:=by rw[hwx];exact(Keeps.refl _ wr).alloc _
        have sx:St wx wr.heap.size 46 [.int .u32 (e.a:Nat),.int .u32 (e.b:Nat),.int .u32 (e.c:Nat)]:=by rw[hwx];exact St.new _ _ _
        have sf:=hsl.keep kx id;have hstep:=Nb ah4 (lq (zw es') lB k) hee;rw[<-hle]at hstep;have HS:=Y6 hkw kx sf hll hstep sx;obtain⟨i1,hi1⟩:∃i1,i1+(i+1)=m:=⟨m-(i+1),by omega⟩
        have HW:=Y1 hwx;clear hwx hx hex hee hA hkw hsl hll hle hPz haz hbz hEz hkz kx sx sf hstep ec
        go_wp2_with fail
        rw[<-HW.out];obtain⟨hkw,kx,sf,hll,hstep,sx⟩:=HS.out;have d0:=sx.cell 0 rfl;have d1:=sx.cell 1 rfl;have ta:=sf.cell e.a (rD (by omega));have tb:=sf.cell e.b (rD (by omega));obtain⟨x1,hx1⟩:=ex (l'.getD e.a 0)
        obtain⟨x2,hx2⟩:=ex (l'.getD e.b 0)
        rw[<-hx1]at ta;rw[<-hx2]at tb;have HX:=Y2 hx1 hx2;clear hkw kx sf hll hstep sx hx1 hx2 p2 p3 g0 g1 g2;refine dG [0] [1,2,3,4,5,6,7,8,9,10,11,12,13,14] [15] (by kernel_rfl) (fun _ _ x _ _ h=>by cases x<;>exact h) (by kernel_rfl) ?_;simp only[aJ,ai,ao,af,ag];refine aI (fun K hK=>?_);go_simp;refine hK _ ?_;clear hK K;refine au ?_
        repeat quiet_step (fail)
        refine wpQuiet_nil ?_;rintro _ ⟨n3,rfl⟩;have tb':(wx.drewN n3).cell? ⟨f,e.b,none⟩=some (.int .i64 x2):=tb;have ub':(wx.drewN n3).frozen? ⟨f,e.b,none⟩=false:=HS.out.2.2.1.frozen e.b;clear d0 d1 ta tb
        go_wp2_with fail
        go_roundg i1
        case measure=>omega
        case rel=>
         obtain⟨hkw,kx,sf,hll,hstep,sx⟩:=HS.out;refine⟨i+1,by omega,by simp,((hkw.trans kx fun _ h=>h.elim).drewN n3).setCell (a:=⟨f,e.b,none⟩) (.inl rfl) (.int .i64 (min x2 x1)),l'.set e.b (min x2 x1),by rw[<-zx];exact St.set (show St (wx.drewN n3) f 3 (nums .i64 l')from sf) e.b _,by rw[bj];exact hll,?_⟩;rw[hstep,HX.out.1,HX.out.2];rfl
       .have him:i=m:=by omega
        have HS:=Y1 (show Keeps (fun j=>j=f) w9 wr∧St wr f 3 (nums .i64 (lq (zw es') lB (k+1)))from⟨hkw,by
         rw[hle,him,List.take_of_length_le (by unfold zw;rw[cN];exact Nat.le_of_eq HM.out.symm)]at hsl;exact hsl⟩)
        clear hA hkw hsl hll hle hPz haz hbz hEz hkz him
        go_wp2_with fail
        go_roundg k1
        case measure=>omega
        case rel=>exact⟨k+1,by omega,by simp,HS⟩
     .obtain rfl:n=k:=by omega
      have HL:aG (∀v,v<n->(lq (zw es') lB n).getD v 0=(grt (zw es') v:Nat)):=⟨ais (KD HH.out.1) HA2.out.2.2.1 HA2.out.2.2.2⟩
      have HLL:aG ((lq (zw es') lB n).length=n):=⟨(aic _ _ _).trans HA2.out.2.2.1⟩
      clear hlt hk HA2
      go_wp2_with fail
      clear p2;generalize wr=wC at*;obtain⟨hkw,hsl⟩:=HA3.out;have ZB:aG (∀W,Keeps (fun j=>(D7 j∨j=be)∨j=bp) wC W->St W w7.heap.size 38 [.int .i64 0,.int .i64 (K:Nat),.int .u64 0,.bool false,.int .i64 0,.int .u32 0]∧St W w.heap.size 29 (Gd 2 0 n (.slice A' es'.length c') sh Gf bu)∧St W f 3 (nums .i64 (lq (zw es') lB n))∧Keeps (fun j=>w.heap.size<=j) w W):=⟨fun W hW=>by
       obtain⟨hPz,haz,hbz,hEz,hkz⟩:=H9.out wC hkw;have nD:=H8.out.2.2.2.2.2.2;have h5:=HZ.out.1;have hf:=hfz.out;have hlo:∀j,((D7 j∨j=be)∨j=bp)->w5.heap.size+1<=j:=fun j hj=>by
        rcases hj with(hj|hj)|hj
        .exact hPz.lo _ hj
        .exact hj▸hPz.V6
        .exact hj▸hPz.RS
       exact⟨haz.keep hW (nD _ (ae _)),hbz.keep hW (fun h=>by have:=hlo _ h;omega),hsl.keep hW (nD _ (by omega)),hkz.trans hW fun j hj=>.inl (by have:=hlo _ hj;omega)⟩⟩
      have A1:=Y1 (H9.out wC hkw).1;clear hkw hsl
      go_loopg [12] n (fun kq v12 wq=>∃v:Nat,kq+v=n∧v12=.int .i64 (v:Nat)∧aG (zB wq (w5.heap.size+1) mt b bp be bu 10000 c7 D7 F7 (iD b bu (2+K) n sh (K:Nat) 2 0 true)∧Keeps (fun j=>(D7 j∨j=be)∨j=bp) wC wq))
      case atStart=>exact⟨0,by omega,rfl,⟨A1.out,Keeps.refl _ _⟩⟩
      case round=>
       obtain⟨v,hv,rfl,hA⟩:=hrel;obtain⟨Sr,hkq⟩:=hA.out;obtain⟨haq,hbq,hfq,hzq⟩:=ZB.out _ hkq;have p2:=hbq.cell 2 rfl;by_cases hlt:v<n
       .have p1:=haq.cell 1 rfl;obtain⟨k1,hk1⟩:∃k1,k1+(v+1)=n:=⟨n-(v+1),by omega⟩
        have hlv:=HL.out v hlt;obtain⟨hK,hV,hI2,hI3,hrg⟩:=HV.out;obtain⟨hv1,hv2⟩:=hV v hlt;have Sq:=BN (at_:=K) (v:=v) Sr H8.out.2.1 (ae _) (by omega) hlt (by omega) hI2 hI3 (fun v hv=>⟨(hrg v hv).1,by have:=(hrg v hv).2;omega⟩);obtain⟨a,ha⟩:=ex (grt (zw es') v)
        have ha2:=ha▸ait _ _;rw[<-ha]at hv1 hlv;rw[hv1,hv2]at Sq;have HQ:=Y2 hkq hlv;clear hlv hK hV hI2 hI3 hrg hv1 hv2 Sr hkq haq hbq hfq hzq hA ha
        go_wp2_with fail
        refine Sq.mono ?_;clear Sq;rintro e wq ⟨rfl,Sr,hkq⟩;have kz:=HQ.out.1.trans hkq fun _ h=>.inl h
        have kA:=(Keeps.refl (fun _=>False) wq).alloc (.cells #[.int .i64 0,.int .i64 0,.int .u64 (a:Nat),.bool false,.int .i64 0,.int .u32 0] 38 (0,0));have sA:=St.new wq 38 #[.int .i64 0,.int .i64 0,.int .u64 (a:Nat),.bool false,.int .i64 0,.int .u32 0];have q0:=sA.cell 0 rfl;have q2:=sA.cell 2 rfl;have q3:=sA.cell 3 rfl;have tv:=(((ZB.out _ kz).2.2.1).keep kA id).cell v (rD (by have:=HLL.out;omega));rw[HQ.out.2]at tv;have HR:=Y2 (Sr.grow kA) (kz.trans kA fun _ h=>h.elim);clear Sr hkq kz kA sA p1 p2
        go_wp2_with fail
        go_quiet (fail)
        have HR2:=Y2 (HR.out.1.grow ((Keeps.refl _ _).drewN nq)) (HR.out.2.drewN nq)
        go_wp2_with fail
        go_roundg k1
        case measure=>omega
        case rel=>exact⟨v+1,by omega,by simp,HR2⟩
       .have hvn:v=n:=by omega
        have HR:=Y1 hzq;clear Sr hkq haq hbq hfq hzq hA
        go_wp2_with fail
        go_ret;exact⟨rfl,HR.out.eG fun j hj h=>by omega⟩
end
end Go.Proofs.YtlhhcnknclnlaaaGreatDoor.Top
