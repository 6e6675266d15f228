/- Parts of the proof. -/
import Derived.Laws.CopyRow
import Derived.Test.YtlhhcnknclnlaaaGreatDoorS02
import Derived.Test.YtlhhcnknclnlaaaGreatDoorS10
set_option linter.all false
set_option maxRecDepth 100000
set_option maxHeartbeats 16000000
open List renaming replicate->aa,getElem?_cons_succ->af,getElem?_cons_zero->ag,filterMap_cons->ai,filterMap_nil->an,getElem?_eq_some_iff->aw,getElem?_eq_getElem->bb,append_assoc->bz,getD_eq_getElem?_getD->cd,length_append->cm,not_mem_nil->cA,take_of_length_le->cC,replicate_succ'->cD,set_cons_zero->cF,mem_singleton->cH,mem_map->cI,range_succ->cN,range->cU,mem_cons->cW,set_set->cY
open Go.Proofs.Tryz renaming prog->ab,underlying41->bt,underlying253->ca,underlying107->cq,ntmps60->c_,func60->dd
open Nat renaming le_refl->ae,le_trans->aq,zero_le->cx,lt_of_lt_of_le->cG,le_of_eq->cJ,sub_self->cX,min_def->da,min->de
open Go.RowKit renaming Below->al
open Go.World renaming block_lt_of_cell?->ao,ownsRow_nil->cM
open ByteArray renaming size_append->ar
open Go.Value renaming slice->ax
open Go.RowKit.Below renaming refl->az
open Go renaming World->aE,Calls->ba,Value->cz,Addr->cE
open Go.Act renaming eval->a_
open And renaming intro->bj
open Go.Result renaming andThen->bk
open Go.IntKind renaming u64->cy
open Go.Proofs.Tryz
namespace Go.Proofs.YtlhhcnknclnlaaaGreatDoor.Top
open Go Go.WideShapes Go.RowKit Go.Proofs.YtlhhcnknclnlaaaGreatDoor.iH Go.Proofs.YtlhhcnknclnlaaaGreatDoor.Oct Go.Proofs.ah.aN Go.Proofs.ah.bA
theorem lZ.C{w:aE}{AV AL:Option cE}{n cv cl:Nat}{V:List Int}{L:List Bool}(h:lZ w AV AL n cv cl V L):Kd.C (Kd.int .u64) w AV n V∧Kd.C Kd.bool w AL n L∧n<=cv∧n<=cl:=
 ⟨Kd.dP (d:=(0:Int)) (gD h.v),Kd.dP (d:=false) (gD h.l),mM h.v,mM h.l⟩
variable {W w:aE}
theorem eO{a w':aE}(h:al a.heap.size a w)(hk:Keeps (fun _=>False) w w'):al a.heap.size a w':=h.trans ((hk.eG fun _ _ h=>h).mono h.size)
variable {A A1 AL AV:Option cE}{L:List Bool}{V:List Int}{b base c c1 cl cp cv g k m n:Nat}
theorem xw{w5:aE}{bo c2 b1 b2:Nat}{A2:Option cE}(hb:al w5.heap.size w5 W)(so:St W bo 253 [.slice none 0 0,.slice none 0 0])(o1:W.ownsRow b1 36 1 (.slice A1 n c1) n (nums .u64 V))(o2:W.ownsRow b2 4 1 (.slice A2 n c2) n (bools L))(qz:w5.heap.size<=bo)(h1b:w5.heap.size<=b1)(Nu:w5.heap.size<=b2):
 al w5.heap.size w5 ((W.setCell ⟨bo,0,none⟩ (.slice A1 n c1)).setCell ⟨bo,1,none⟩ (.slice A2 n c2))∧St ((W.setCell ⟨bo,0,none⟩ (.slice A1 n c1)).setCell ⟨bo,1,none⟩ (.slice A2 n c2)) bo 253 [.slice A1 n c1,.slice A2 n c2]∧
  lZ ((W.setCell ⟨bo,0,none⟩ (.slice A1 n c1)).setCell ⟨bo,1,none⟩ (.slice A2 n c2)) A1 A2 n c1 c2 V L∧w5.heap.size<=bo∧∀a,A1=some a∨A2=some a->w5.heap.size<=a.block:=by
 have kk:Keeps (fun j=>j=bo) W ((W.setCell ⟨bo,0,none⟩ (.slice A1 n c1)).setCell ⟨bo,1,none⟩ (.slice A2 n c2)):=((Keeps.refl (fun j=>j=bo) W).setCell (a:=⟨bo,0,none⟩) (.inl rfl) _).setCell (a:=⟨bo,1,none⟩) (.inl rfl) _;refine⟨((Keeps.of_below (S:=fun _=>False) hb).trans kk fun j e=>.inr (e▸qz)).eG fun _ _ h=>h,(so.set 0 _).set 1 _,⟨own_base' (kk.own o1 fun j e e2=>so.own_ne o1 (by decide) j e e2) (cx _),own_base' (kk.own o2 fun j e e2=>so.own_ne o2 (by decide) j e e2) (cx _)⟩,qz,fun a ha=>?_⟩;rcases ha with rfl|rfl
 .exact aq h1b (gB o1 _ rfl)
 .exact aq Nu (gB o2 _ rfl)
theorem Kh(h:lZ w AV AL n cv cl V L)(hn:n<=1000):∃q,(q=true↔Still n L)∧ba ab 180 #[.agg #[.slice AV n cv,.slice AL n cl]] w fun e w'=>e=.returned (.bool q)∧al w.heap.size w w':=by
 obtain⟨l1,l2⟩:=h.len;obtain⟨h1,h2,h3,h4⟩:=h.C;obtain⟨q,hq1,hq2⟩:=Ra V l2 hn;have:=jM.calls 2000 AV cv V AL cl L q w (by rw[l1];exact h1) (by omega) (by rw[l2];exact h2) (by omega) hq1;rw[l1,l2]at this;exact⟨q,hq2,this⟩
variable {kd:Int}
theorem Ml{D:Nat->Prop}{room s bF st:Nat}{F:Files}{Rs:List (List Ed)}(hD:aV w D b room F c)(hc:lZ w AV AL n cv cl V L)(hS:∀a,AV=some a∨AL=some a->¬D a.block)(hP:Mi kd st n)(hR:Rs.length=s)(hs:1<=s)(hs2:s<=6)(hn:n<=12)(hF:∀i r,Rs[i]? =some r->F (nm (sn i))=some (fileOf (r.map pk)))(hok:∀r∈Rs,∀e∈r,e.ok n)(hfl:Rs.flatten.length<=39)(hV:∀v,v<n->L.getD v false=true->0<=V.getD v 0∧V.getD v 0+1<18446744073709551616)(hq:¬Still n L)(hfree:∀i,1<=i->i<100->F (nf box i)=none)(hb:1<=bF)(hroom:c+130<=room)(hc0:c<80000):
 ba ab 181 #[.pointer (some ⟨b,0,none⟩),.agg #[.int .i64 kd,.int .u32 (st:Nat)],.int .i64 (s:Nat),.agg #[.slice AV n cv,.slice AL n cl],.int .i64 (bF:Nat)] w fun e w'=>∃AV' cv' AL' cl' V' L' D' c',e=.returned (.tuple #[.agg #[.slice AV' n cv',.slice AL' n cl'],.int .i64 0])∧lZ w' AV' AL' n cv' cl' V' L'∧
  (∀a,AV'=some a∨AL'=some a->w.heap.size<=a.block∧¬D' a.block)∧Sup (msg kd) n (Rs.flatten.map uL) V L V' L'∧aV w' D' b room F c'∧Stp D D' w w':=by
 obtain⟨w1,hw1⟩:∃w1,w1=((w.alloc (.cells #[.int .i64 kd,.int .u32 (st:Nat)] 24 (0,0))).alloc (.cells #[.slice AV n cv,.slice AL n cl] 253 (0,0))).alloc (.cells #[.slice none 0 0,.slice none 0 0] 253 (0,0)):=⟨_,rfl⟩
 have z1:w1.heap.size=w.heap.size+1+1+1:=by rw[hw1];simp
 have k1:Keeps (fun _=>False) w w1:=by rw[hw1];exact(((Keeps.refl _ w).alloc _).alloc _).alloc _
 have sp:St w1 w.heap.size 24 [.int .i64 kd,.int .u32 (st:Nat)]:=by rw[hw1];exact((St.new _ _ _).alloc _).alloc _
 have sc:St w1 (w.heap.size+1) 253 [.slice AV n cv,.slice AL n cl]:=by
  have:=(St.new (w.alloc (.cells #[.int .i64 kd,.int .u32 (st:Nat)] 24 (0,0))) 253 #[.slice AV n cv,.slice AL n cl]).alloc (.cells #[.slice none 0 0,.slice none 0 0] 253 (0,0));rw[hw1];simpa using this
 have so:St w1 (w.heap.size+1+1) 253 [.slice none 0 0,.slice none 0 0]:=by
  have:=St.new ((w.alloc (.cells #[.int .i64 kd,.int .u32 (st:Nat)] 24 (0,0))).alloc (.cells #[.slice AV n cv,.slice AL n cl] 253 (0,0))) 253 #[.slice none 0 0,.slice none 0 0];rw[hw1];simpa using this
 obtain⟨bl,-,-,-,hbw⟩:=uJ w1 hn hs hs2;have c0':=sc.cell 0 rfl;have HW:=Y9 hD hc hS hP hF hok hV hq hfree;have H1:=Y5 z1 k1 sp sc so;clear hD hc hS hP hF hok hV hq hfree z1 k1 sp sc so;go_enter func181,ntmps181
 go_wp2_with fail
 rw[<-hw1];refine hbw.mono ?_;clear hbw;rintro e w2 ⟨v2,rfl,-,hb2⟩;have k2:Keeps (fun _=>False) w1 w2:=Keeps.of_below hb2;obtain⟨z1,k1,sp,sc,so⟩:=H1.out;have sp2:=sp.keep k2 id;have Vu:=sc.keep k2 id;have so2:=so.keep k2 id;have p0:=sp2.cell 0 rfl;have p1:=sp2.cell 1 rfl;have q1:=Vu.cell 1 rfl;have XC:=fM.calls _ _ _ _ w2 (oq HW.out.2.2.2.1 hn) ⟨rfl⟩;have H2:=Y5 sp2 Vu so2 (k1.trans k2 fun _ h=>h.elim) k2;clear z1 k1 sp sc so sp2 Vu so2 k2 hb2 hw1
 go_wp2_with fail
 refine XC.mono ?_;clear XC;rintro e w3 ⟨rfl,hb3⟩;obtain⟨sp2,Vu,so2,k2,k12⟩:=H2.out;have k3:Keeps (fun _=>False) w2 w3:=Keeps.of_below hb3;have Q9:=sp2.keep k3 id;have Vs:=Vu.keep k3 id;have so3:=so2.keep k3 id;have p0:=Q9.cell 0 rfl;have p1:=Q9.cell 1 rfl;have hho:=lY.calls _ _ _ w3 (ZX HW.out.2.2.2.1);have H3:=Y4 Q9 Vs so3 (k2.trans k3 fun _ h=>h.elim);clear sp2 Vu so2 k2 k12 k3 Q9 Vs so3 hb3
 go_wp2_with fail
 refine hho.mono ?_;clear hho;rintro e w4 ⟨rfl,hb4⟩;obtain⟨Q9,Vs,so3,k3⟩:=H3.out;have k4:Keeps (fun _=>False) w3 w4:=Keeps.of_below hb4;have hmn:=ZK w4 b bF hb;have H4:=Y4 (Q9.keep k4 id) (Vs.keep k4 id) (so3.keep k4 id) (k3.trans k4 fun _ h=>h.elim);clear Q9 Vs so3 k3 k4 hb4
 go_wp2_with fail
 refine hmn.mono ?_;clear hmn;rintro e w5 ⟨bx,T,rfl,Z0,hb5,Rb⟩;obtain⟨sp4,sc4,so4,k4⟩:=H4.out;have k5:Keeps (fun _=>False) w4 w5:=Keeps.of_below hb5;have H5:=Y6 (sp4.keep k5 id) (sc4.keep k5 id) (so4.keep k5 id) (k4.trans k5 fun _ h=>h.elim) Z0 (fun j hj=>(⟨aq k4.size (Rb j hj),Rb j hj⟩:w.heap.size<=j∧w4.heap.size<=j));clear sp4 sc4 so4 k4 k5 hb5 Z0 Rb p0 p1 q1 c0'
 go_wp2_with fail
 obtain⟨sp5,sc5,so5,k5,Z0,Rb⟩:=H5.out;have hcC:=(HW.out.2.1.keep k5 fun _ _=>id)
 obtain⟨lV,lL⟩:=hcC.len;obtain⟨cC1,cC2,agl,agm⟩:=hcC.C;have HC1:=Y1 (show ∀W,al w5.heap.size w5 W->ba ab 194 #[.slice AV n cv] W fun e w'=>∃A c,e=.returned (.slice A n c)∧w'.ownsRow W.heap.size 36 1 (.slice A n c) n (nums .u64 V)∧al W.heap.size W w' from fun W hW=>by
  have hcW:=(hcC.keep (Keeps.of_below (S:=fun _=>False) hW) fun _ _=>id).C;have:=Oi (A0:=AV) (c0:=cv) (l0:=V) (w:=W) (by rw[lV];exact hcW.1) (by omega) (by omega);rw[lV]at this;exact this)
 have R9:=Y1 (show ∀W,al w5.heap.size w5 W->ba ab 30 #[.slice AL n cl] W fun e w'=>∃A c,e=.returned (.slice A n c)∧w'.ownsRow W.heap.size 4 1 (.slice A n c) n (bools L)∧al W.heap.size W w' from fun W hW=>by
  have hcW:=(hcC.keep (Keeps.of_below (S:=fun _=>False) hW) fun _ _=>id).C;have:=Oj (A0:=AL) (c0:=cl) (l0:=L) (w:=W) (by rw[lL];exact hcW.2.1) (by omega) (by omega);rw[lL]at this;exact this)
 have qr:∀W,al w5.heap.size w5 W->W.cell? ⟨w.heap.size+1,0,none⟩=some (.slice AV n cv)∧W.cell? ⟨w.heap.size+1,1,none⟩=some (.slice AL n cl):=fun W hW=>⟨(sc5.keep (Keeps.of_below (S:=fun _=>False) hW) id).cell 0 rfl,(sc5.keep (Keeps.of_below (S:=fun _=>False) hW) id).cell 1 rfl⟩
 have HQ:=Y1 qr;clear sp5 sc5 so5 k5 Z0 Rb hcC lV lL cC1 cC2 agl agm qr;refine GJ (F:=fun a0 a' w'=>∃bo A1 c1 A2 c2,a'=(((((((a0.put (some 61) (.pointer (some ⟨w.heap.size+1,0,none⟩))).put (some 62) (.slice AV n cv)).put (some 63) (.slice A1 n c1)).put (some 64) (.pointer (some ⟨w.heap.size+1,1,none⟩))).put (some 65) (.slice AL n cl)).put (some 66) (.slice A2 n c2)).put (some 67) (.agg #[.slice A1 n c1,.slice A2 n c2])).put (some 17) (.pointer (some ⟨bo,0,none⟩))∧
  al w5.heap.size w5 w'∧St w' bo 253 [.slice A1 n c1,.slice A2 n c2]∧lZ w' A1 A2 n c1 c2 V L∧w5.heap.size<=bo∧∀a,A1=some a∨A2=some a->w5.heap.size<=a.block) ?_ ?_
 .refine Cj (al w5.heap.size w5) [0,3] [1,4] 7 [2,5,6] [] [8] rfl (by kernel_rfl) (fun _ _ x _ _ h=>by cases h.1) ((az _ w5).drew) (by kernel_rfl) ?_;simp only[aJ,ai,an,af,ag]
  repeat (refine aI (fun K hK=>?_);go_simp;refine hK _ ?_;clear hK K)
  refine au ?_;refine ak (fun K hK=>?_);go_simp;refine⟨_,fun w' hw'=>(by rw[(HQ.out w' hw').1];rfl),hK _ ?_⟩;clear hK K;refine ak (fun K hK=>?_);go_simp;refine⟨_,fun w' hw'=>(by rw[(HQ.out w' hw').2];rfl),hK _ ?_⟩;clear hK K;refine bD ?_;intro W hb0;have HB0:=Y1 hb0;clear hb0;refine⟨?_,?_⟩
  .refine aH (fun K hK=>?_);go_simp;obtain⟨W1,hW1⟩:=ex (W.alloc (.cells #[.slice none 0 0,.slice none 0 0] 253 (0,0)))
   have Z4:Keeps (fun _=>False) W W1:=by rw[hW1];exact(Keeps.refl _ _).alloc _
   have so:St W1 W.heap.size 253 [.slice none 0 0,.slice none 0 0]:=by rw[hW1];exact St.new _ _ _
   have qz:=(HB0.out).size;rw[<-hW1];clear hW1;have IU:=eO (HB0.out) Z4;refine hK _ _ IU ?_;clear hK K;refine aH (fun K hK=>?_);go_simp;refine(HC1.out W1 (IU)).mono ?_;rintro e W2 ⟨A1,c1,rfl,o1,bW2⟩;have AU:Keeps (fun _=>False) W1 W2:=Keeps.of_below bW2;have h1b:=(IU).size;clear bW2;have so:=so.keep AU id;have BA:=eO (IU) AU;refine hK _ _ BA ?_;clear hK K;refine aH (fun K hK=>?_);go_simp;refine(R9.out W2 (BA)).mono ?_;rintro e W3 ⟨A2,c2,rfl,o2,bW3⟩;have Dp:Keeps (fun _=>False) W2 W3:=Keeps.of_below bW3;have Nu:=(BA).size;clear bW3;have o1:=Dp.own o1 fun _ _=>id
   have so:=so.keep Dp id;have DC:=eO (BA) Dp;refine hK _ _ DC ?_;clear hK K;refine aH (fun K hK=>?_);go_simp;refine hK _ _ (DC) ?_;clear hK K;refine aQ ?_;refine au ?_;generalize W.heap.size=bo at so qz⊢;have t0:=so.cell 0 rfl;have t1:=so.cell 1 rfl;have u0:=so.frozen 0;have u1:=so.frozen 1;have HF:=Y1 (xw (DC) so o1 o2 qz h1b Nu);clear so o1 o2 qz h1b Nu Z4 IU AU BA Dp DC
   go_wp2_with fail
   exact⟨bo,A1,c1,A2,c2,by simp,HF.out⟩
  refine aH (fun K hK=>?_);go_simp;refine(HC1.out W (HB0.out)).mono ?_;rintro e W1 ⟨A1,c1,rfl,o1,bW1⟩;have Z4:Keeps (fun _=>False) W W1:=Keeps.of_below bW1;have h1b:=(HB0.out).size;clear bW1;have IU:al w5.heap.size w5 W1:=eO (HB0.out) Z4;refine hK _ _ IU ?_;clear hK K;refine aQ ?_;refine⟨?_,?_⟩
  .refine aH (fun K hK=>?_);go_simp;obtain⟨W2,hW2⟩:=ex (W1.alloc (.cells #[.slice none 0 0,.slice none 0 0] 253 (0,0)))
   have AU:Keeps (fun _=>False) W1 W2:=by rw[hW2];exact(Keeps.refl _ _).alloc _
   have so:St W2 W1.heap.size 253 [.slice none 0 0,.slice none 0 0]:=by rw[hW2];exact St.new _ _ _
   have qz:=(IU).size;rw[<-hW2];clear hW2;have o1:=AU.own o1 fun _ _=>id
   have BA:=eO (IU) AU;refine hK _ _ BA ?_;clear hK K;refine aH (fun K hK=>?_);go_simp;refine(R9.out W2 (BA)).mono ?_;rintro e W3 ⟨A2,c2,rfl,o2,bW3⟩;have Dp:Keeps (fun _=>False) W2 W3:=Keeps.of_below bW3;have Nu:w5.heap.size<=W2.heap.size:=(BA).size;clear bW3;have o1:=Dp.own o1 fun _ _=>id
   have so:=so.keep Dp id;have DC:=eO (BA) Dp;refine hK _ _ DC ?_;clear hK K;refine aH (fun K hK=>?_);go_simp;refine hK _ _ (DC) ?_;clear hK K;refine aQ ?_;refine au ?_;generalize W1.heap.size=bo at so qz⊢;have t0:=so.cell 0 rfl;have t1:=so.cell 1 rfl;have u0:=so.frozen 0;have u1:=so.frozen 1;have HF:=Y1 (xw (DC) so o1 o2 qz h1b Nu);clear so o1 o2 qz h1b Nu Z4 IU AU BA Dp DC
   go_wp2_with fail
   exact⟨bo,A1,c1,A2,c2,by simp,HF.out⟩
  refine aH (fun K hK=>?_);go_simp;refine(R9.out W1 (IU)).mono ?_;rintro e W2 ⟨A2,c2,rfl,o2,bW2⟩;have AU:Keeps (fun _=>False) W1 W2:=Keeps.of_below bW2;have Nu:=(IU).size;clear bW2;have o1:=AU.own o1 fun _ _=>id
  have BA:al w5.heap.size w5 W2:=eO (IU) AU;refine hK _ _ BA ?_;clear hK K;refine aQ ?_;refine⟨?_,?_⟩
  .refine aH (fun K hK=>?_);go_simp;obtain⟨W3,hW3⟩:=ex (W2.alloc (.cells #[.slice none 0 0,.slice none 0 0] 253 (0,0)))
   have Dp:Keeps (fun _=>False) W2 W3:=by rw[hW3];exact(Keeps.refl _ _).alloc _
   have so:St W3 W2.heap.size 253 [.slice none 0 0,.slice none 0 0]:=by rw[hW3];exact St.new _ _ _
   have qz:=(BA).size;rw[<-hW3];clear hW3;have o1:=Dp.own o1 fun _ _=>id
   have o2:=Dp.own o2 fun _ _=>id
   have DC:al w5.heap.size w5 W3:=eO (BA) Dp;refine hK _ _ DC ?_;clear hK K;refine aH (fun K hK=>?_);go_simp;refine hK _ _ (DC) ?_;clear hK K;refine aQ ?_;refine au ?_;generalize W2.heap.size=bo at so qz⊢;have t0:=so.cell 0 rfl;have t1:=so.cell 1 rfl;have u0:=so.frozen 0;have u1:=so.frozen 1;have HF:=Y1 (xw (DC) so o1 o2 qz h1b Nu);clear so o1 o2 qz h1b Nu Z4 IU AU BA Dp DC
   go_wp2_with fail
   exact⟨bo,A1,c1,A2,c2,by simp,HF.out⟩
  refine aH (fun K hK=>?_);go_simp;refine hK _ _ (BA) ?_;clear hK K;refine aQ ?_;refine aH (fun K hK=>?_);go_simp;obtain⟨W3,hW3⟩:=ex (W2.alloc (.cells #[.slice none 0 0,.slice none 0 0] 253 (0,0)))
  have Dp:Keeps (fun _=>False) W2 W3:=by rw[hW3];exact(Keeps.refl _ _).alloc _
  have so:St W3 W2.heap.size 253 [.slice none 0 0,.slice none 0 0]:=by rw[hW3];exact St.new _ _ _
  have qz:w5.heap.size<=W2.heap.size:=(BA).size;rw[<-hW3];clear hW3;have o1:=Dp.own o1 fun _ _=>id
  have o2:=Dp.own o2 fun _ _=>id
  have DC:al w5.heap.size w5 W3:=eO (BA) Dp;refine hK _ _ DC ?_;clear hK K;refine aQ ?_;refine au ?_;generalize W2.heap.size=bo at so qz⊢;have t0:=so.cell 0 rfl;have t1:=so.cell 1 rfl;have u0:=so.frozen 0;have u1:=so.frozen 1;have HF:=Y1 (xw (DC) so o1 o2 qz h1b Nu);clear so o1 o2 qz h1b Nu Z4 IU AU BA Dp DC
  go_wp2_with fail
  exact⟨bo,A1,c1,A2,c2,by simp,HF.out⟩
 .rintro a' w6 ⟨bo,A1,c1,A2,c2,rfl,hb6,Rf,Ki,qz,hbl⟩;simp only[Act.put,List.setIfInBounds_toArray,List.set_cons_succ,cF];obtain⟨sp5,sc5,so5,k5,Z0,Rb⟩:=H5.out;obtain⟨hD,hc,hS,hP,hF,hok,hV,hq,hfree⟩:=HW.out;have k6:Keeps (fun _=>False) w5 w6:=Keeps.of_below hb6;have kw6:=k5.trans k6 fun _ h=>h.elim
  have sp6:=sp5.keep k6 id;have Z5:=sc5.keep k6 id;have e0:=Z5.cell 0 rfl;have e1:=Z5.cell 1 rfl;obtain⟨q,hq1,Kj⟩:=Kh (hc.keep kw6 fun _ _=>id) (by omega);have hqf:q=false:=by
   cases q with
   |true=>exact absurd (hq1.1 rfl) hq
   |false=>rfl
  subst hqf;have H6:=Y9 sp6 Z5 (so5.keep k6 id) kw6 (Z0.keep k6 fun _ _=>id) Rf Ki qz hbl;have Vm:=Y2 Rb (show w.heap.size+3<=w5.heap.size from by have:=so5.lt;omega);clear sp5 sc5 so5 k5 Z0 Rb hD hc hS hP hF hok hV hq hfree hb6 k6 kw6 sp6 Z5 Rf Ki qz hbl hq1
  go_wp2_with fail
  refine Kj.mono ?_;clear Kj;rintro e w7 ⟨rfl,Mh⟩;obtain⟨sp6,Z5,so,kw6,hB6,Rf,Ki,qz,hbl⟩:=H6.out;obtain⟨hD,hc,hS,hP,hF,hok,hV,hq,hfree⟩:=HW.out;have k7:Keeps (fun _=>False) w6 w7:=Keeps.of_below Mh;have BD:=kw6.trans k7 fun _ h=>h.elim
  have Z6:=sp6.keep k7 id;have Z7:=Z5.keep k7 id;have p0:=Z6.cell 0 rfl;have p1:=Z6.cell 1 rfl;have e0:=Z7.cell 0 rfl;have e1:=Z7.cell 1 rfl;have B7:=hB6.keep k7 fun _ _=>id
  have iy:∀j,T j->j<w7.heap.size:=by
   obtain⟨m,v,p1,p2,p3,p4,p5,p6,p7⟩:=B7;exact p7
  have hDl:∀j,D j->j<w.heap.size:=fun j h=>hD.lt h
  have hblk:∀a,AV=some a∨AL=some a->a.block<w.heap.size:=fun a ha=>by
   rcases ha with rfl|rfl
   .exact bJ hc.v _ rfl
   .exact bJ hc.l _ rfl
  have hms:=IL (w0:=w) (st:=(st:Nat)) (kd:=kd) (s:=s) (wO.mk0 (hD.keep BD fun _ _=>id) B7 (ae c) fun j hj hd=>by have:=(Vm.out.1 j hj).1;have:=hDl j hd;omega) (BD.mono fun _ _ h=>h.elim) (fun j hj=>⟨(Vm.out.1 j hj).1,iy j hj⟩) hDl hR hs hs2 hn hF hok hfl (hc.keep BD fun _ _=>id) (fun a ha=>⟨hblk a ha,hS a ha⟩) hP.kind hV hfree hb (by omega) (by omega);have H7:=Y1 (bj Z6 (bj Z7 (bj (so.keep k7 id) (bj BD (bj (Rf.keep k7 id) (bj (Ki.keep k7 fun _ _=>id) (bj qz (bj hbl (bj iy (show w6.heap.size<=w7.heap.size∧bo<w6.heap.size∧∀a,A1=some a∨A2=some a->a.block<w6.heap.size from⟨k7.size,Rf.lt,fun a ha=>by
   rcases ha with rfl|rfl
   .exact bJ Ki.v _ rfl
   .exact bJ Ki.l _ rfl⟩))))))))))
  clear sp6 Z5 so kw6 hB6 Rf Ki qz hbl hD hc hS hP hF hok hV hq hfree k7 BD Z6 Z7 B7 iy hDl hblk Mh
  go_wp2_with fail
  refine hms.mono ?_;clear hms;rintro e w8 ⟨v8,l,rfl,Z8,hup,oD,D8,T8,A8,LZ,hA8,lG,hv8⟩;have hcl:=Q6 LZ HW.out.2.2.2.2.2.2.2.2 (by omega);obtain⟨Al,cpl,rfl⟩:=aW Z8;have H8:=Y5 Z8 hup oD lG hv8;clear Z8 hup oD LZ hA8 lG hv8
  go_wp2_with fail
  refine hcl.mono ?_;clear hcl;rintro e w9 ⟨rfl,c9,hD9,Vv⟩;obtain⟨hD,hc,hS,hP,hF,hok,hV,hq,hfree⟩:=HW.out;obtain⟨Z6,Z7,so7,BD,Rf,Ki,qz,hbl,iy,hz6,agn,Z9⟩:=H7.out;obtain⟨Z8,hup,oD,lG,hv8⟩:=H8.out;have S9:=lG.trans Vv;have hn0:0<n:=by
   rcases Nat.eq_zero_or_pos n with h|h
   .exact absurd (fun v hv=>by omega) hq
   .exact h
  obtain⟨g1,g2,rfl,rfl⟩:=Ki.ends hn0;obtain⟨gv,gl,rfl,rfl⟩:=hc.ends hn0;have Xw:=H4.out.2.2.1.lt;have Rb:∀j,T j->w4.heap.size<=j∧j<w5.heap.size:=fun j hj=>⟨(Vm.out.1 j hj).2,by
   obtain⟨m,v,p1,p2,p3,p4,p5,p6,p7⟩:=H5.out.2.2.2.2.1;exact p7 j hj⟩
  have hz5:=Vm.out.2;have hDl:∀j,D j->j<w.heap.size:=fun j h=>hD.lt h
  have g1l:w5.heap.size<=g1∧g1<w6.heap.size:=⟨hbl _ (.inl rfl),Z9 _ (.inl rfl)⟩
  have g2l:w5.heap.size<=g2∧g2<w6.heap.size:=⟨hbl _ (.inr rfl),Z9 _ (.inr rfl)⟩
  have gvl:gv<w.heap.size∧¬D gv:=⟨bJ hc.v _ rfl,hS _ (.inl rfl)⟩
  have gll:gl<w.heap.size∧¬D gl:=⟨bJ hc.l _ rfl,hS _ (.inr rfl)⟩
  have IQ:∀j,(j<w4.heap.size∧(w.heap.size<=j∨¬D j))∨w5.heap.size<=j->¬jC D T j:=fun j hj h=>by
   rcases h with h|h
   .have:=hDl j h;rcases hj with⟨a,b|b⟩|hj
    .omega
    .exact b h
    .omega
   .have:=Rb j h;omega
  have n0:=IQ w.heap.size (.inl ⟨by omega,.inl (by omega)⟩);have n1:=IQ (w.heap.size+1) (.inl ⟨by omega,.inl (by omega)⟩);have n2:=IQ (w.heap.size+1+1) (.inl ⟨by omega,.inl (by omega)⟩);have nb:=IQ bo (.inr qz);have ng1:=IQ g1 (.inr g1l.1);have Nv:=IQ g2 (.inr g2l.1);have nv:=IQ gv (.inl ⟨by omega,.inr gvl.2⟩);have nl:=IQ gl (.inl ⟨by omega,.inr gll.2⟩);have nD8:∀j,j<w7.heap.size->¬jC D T j->¬D8 j:=fun j hj h h8=>(S9.2 j h8).elim h fun h=>by omega
  have sp9:=Z6.keep S9.1 n0;have sc9:=Z7.keep S9.1 n1;have so9:=so7.keep S9.1 n2;have sb9:=Rf.keep S9.1 nb;have cf9:=Ki.keep S9.1 fun a ha=>by rcases ha with h|h<;>cases h;exact ng1;exact Nv
  have hc9:=(hc.keep BD fun _ _=>id).keep S9.1 fun a ha=>by rcases ha with h|h<;>cases h;exact nv;exact nl
  have ol9:=Vv.1.own Z8 fun j e h=>by have:=hv8 j e;exact h.elim this.1 this.2
  have hlk:=gB Z8;have hne:=Ki.ne;have Z_:∀j,j<w5.heap.size∨w6.heap.size<=j->¬(j=g1∨j=g2):=fun j hj h=>by omega
  have nnb:¬(bo=g1∨bo=g2):=fun h=>h.elim (fun e=>Rf.own_ne Ki.v (by decide) _ rfl e.symm) fun e=>Rf.own_ne Ki.l (by decide) _ rfl e.symm
  have e0:=sc9.cell 0 rfl;have hkeys:=keys_in oD hup fun e he=>by
   simp only[cI,List.mem_flatten]at he;obtain⟨x,⟨r,hr,hx⟩,rfl⟩:=he;exact(hok r hr x hx).2.1
  have lV:=hc.len;have H9:=Y1 (show pq w9 w9 g1 g2 n c1 c2 V l 0 from⟨V,L,cf9,Dm.start lV.1 lV.2,Keeps.refl _ _⟩);have HR:=Y1 (show Mj l 0 l∧Fz Al Al l l cpl 0 from⟨Mj.start fun r hr=>(hkeys r hr).1,Fz.start ol9⟩);have HS:=Y1 (show ∀wr,Keeps (fun j=>j=g1∨j=g2) w9 wr->St wr w.heap.size 24 [.int .i64 kd,.int .u32 (st:Nat)]∧St wr (w.heap.size+1) 253 [.slice (some ⟨gv,0,none⟩) n cv,.slice (some ⟨gl,0,none⟩) n cl]∧St wr (w.heap.size+1+1) 253 [.slice none 0 0,.slice none 0 0]∧St wr bo 253 [.slice (some ⟨g1,0,none⟩) n c1,.slice (some ⟨g2,0,none⟩) n c2]∧lZ wr (some ⟨gv,0,none⟩) (some ⟨gl,0,none⟩) n cv cl V L∧wr.ownsRow w7.heap.size 283 2 (.slice Al l.length cpl) l.length (recs l)∧aV wr D8 b room F c9 from fun wr hk=>
   ⟨sp9.keep hk (Z_ _ (.inl (by omega))),sc9.keep hk (Z_ _ (.inl (by omega))),so9.keep hk (Z_ _ (.inl (by omega))),sb9.keep hk nnb,hc9.keep hk fun a ha=>(by rcases ha with h|h<;>cases h;exact Z_ gv (.inl (by omega));exact Z_ gl (.inl (by omega))),
    hk.own ol9 fun j e h=>Z_ _ (.inr (aq hz6 (hlk j e))) h,hD9.keep hk fun j h8 h=>by
     rcases h with rfl|rfl
     .exact nD8 _ (by omega) ng1 h8
     .exact nD8 _ (by omega) Nv h8⟩)
  have HE:=Y9 S9 BD oD hup lV hP Vv IQ (show g1<w7.heap.size∧g2<w7.heap.size∧w.heap.size<=g1∧w.heap.size<=g2∧¬D8 g1∧¬D8 g2∧¬D8 (w.heap.size+1+1)∧∀j,T j->w.heap.size<=j from⟨by omega,by omega,by omega,by omega,nD8 _ (by omega) ng1,nD8 _ (by omega) Nv,nD8 _ (by omega) n2,fun j hj=>(Vm.out.1 j hj).1⟩);clear hD hc hS hF hok hV hq hfree Z6 Z7 so7 BD Rf Ki qz hbl iy hz6 agn Z9 Z8 hup oD lG hv8 S9 Xw Rb hz5 hDl g1l g2l gvl gll IQ n0 n1 n2 nb ng1 Nv nv nl nD8 sp9 sc9 so9 sb9 cf9 hc9 ol9 hlk hne Z_ nnb hD9 Vv hkeys lV p0 p1 HC1 R9 HQ H1 H2 H3 H4 H5 H6 H7 H8 Vm HW hR hs hs2 hfl hb hroom hc0
  go_wp2_with fail
  go_loopg [18,92] n (fun kq v18 v92 wr=>∃(k:Nat) (lk:List Rc) (A:Option cE) (cp j:Nat),kq+k=n∧v92=.int .i64 (k:Nat)∧v18=.slice A lk.length cp∧aG (Mj l k lk∧Fz Al A l lk cp j∧pq w9 wr g1 g2 n c1 c2 V l k))
  case atStart=>exact⟨0,l,Al,cpl,0,by omega,rfl,rfl,⟨HR.out.1,HR.out.2,H9.out⟩⟩
  case round=>
   obtain⟨k,lk,A,cp,j,hk,rfl,rfl,hA⟩:=hrel;obtain⟨XD,hLk,hAd⟩:=hA.out;obtain⟨V',L',hcf,hout,hkp⟩:=hAd;obtain⟨sp,sc,so,sb,hcv,ol,pU⟩:=HS.out wr hkp;have HX:=Y1 (show pq w9 wr g1 g2 n c1 c2 V l k from⟨V',L',hcf,hout,hkp⟩);by_cases hlt:k<n
   .obtain⟨cv1,-,-,-⟩:=hcv.spot hlt;obtain⟨xk,hxk⟩:=ex (V.getD k 0)
    rw[<-hxk]at cv1;have HV:=Y1 hxk;clear hxk;obtain⟨k1,hk1⟩:∃k1,k1+(k+1)=n:=⟨n-(k+1),by omega⟩
    have HY:=Y1 (show ∀W,pq w9 W g1 g2 n c1 c2 V l k->St W bo 253 [.slice (some ⟨g1,0,none⟩) n c1,.slice (some ⟨g2,0,none⟩) n c2]∧St W w.heap.size 24 [.int .i64 kd,.int .u32 (st:Nat)]∧W.frozen? ⟨g1,k,none⟩=false∧(∃u,W.cell? ⟨g1,k,none⟩=some u)∧∀x,(W.setCell ⟨g1,k,none⟩ (.int .u64 x)).frozen? ⟨g2,k,none⟩=false∧∃u,(W.setCell ⟨g1,k,none⟩ (.int .u64 x)).cell? ⟨g2,k,none⟩=some u from fun W hW=>by
     obtain⟨V1,L1,h1,-,h3⟩:=hW;obtain⟨sp,-,-,sb,-⟩:=HS.out W h3;refine⟨sb,sp,(h1.spot hlt).2.2.1,⟨_,(h1.spot hlt).1⟩,fun x=>?_⟩;obtain⟨g,e,cc,f⟩:=dZ (b_ (p:=⟨g1,k,none⟩) h1.l (fun e=>by injection e with e;exact h1.ne e) (.int .u64 x));injection e with e;subst e;exact⟨f k,_,cc k _ (uO (by have:=h1.len.2;omega))⟩)
    cases lk with
    |nil=>
     obtain⟨wE,FB⟩:=XD.miss HE.out.2.2.2.1 fun r hr=>by cases hr
     have HZ:=Y2 FB hLk;clear FB hLk XD hA sp sc so sb hcv ol pU hcf hout hkp;simp only[List.length_nil]at*
     go_wp2_with fail
     go_quiet (fail)
     go_wp2_with fail
     obtain⟨x',b',hnx⟩:∃x' b',(x',b')=AX xk (none):=⟨_,_,rfl⟩
     have hne:dI.f 40 kd (st:Nat) xk 0 false=some (x',b'):=(Dl HE.out.2.2.2.2.2.1 xk (none)).trans (congrArg some hnx.symm);obtain⟨wz,hwz⟩:=ex (wr.drewN nq)
     have XE:pq w9 wz g1 g2 n c1 c2 V l k:=by rw[hwz];exact HX.out.keep ((Keeps.refl _ wr).drewN nq)
     rw[<-hwz];have HN:=Y2 hne (show(x',b')=AX (V.getD k 0) (look l (k:Int)) by rw[wE,<-HV.out];exact hnx);clear hwz hne hnx wE;refine gy (fun W=>pq w9 W g1 g2 n c1 c2 V l k) 8 [0,2,3,5,7,8,9] [1,4,6] [([10],[11,12,13,14]),([15],[16])] [17] (by kernel_rfl) (fun _ _ x _ _ h=>by cases x<;>exact h) (XE.keep (Keeps.refl _ wz).drew) (by kernel_rfl) ?_;clear XE;simp only[gu,aJ,ai,an,af,ag]
     repeat (refine aI (fun K hK=>?_);go_simp;refine hK _ ?_;clear hK K)
     refine au ?_;refine ak (fun K hK=>?_);go_simp;refine⟨.slice (some ⟨g1,0,none⟩) n c1,fun w' hw'=>(by rw[(HY.out w' hw').1.cell 0 rfl];rfl),hK _ ?_⟩;clear hK K;refine ak (fun K hK=>?_);go_simp;refine⟨.slice (some ⟨g2,0,none⟩) n c2,fun w' hw'=>(by rw[(HY.out w' hw').1.cell 1 rfl];rfl),hK _ ?_⟩;clear hK K;refine ak (fun K hK=>?_);go_simp;refine⟨.agg #[.int .i64 kd,.int .u32 (st:Nat)],fun w' hw'=>(by simp[(HY.out w' hw').2.1.cell 0 rfl,(HY.out w' hw').2.1.cell 1 rfl,bk]),hK _ ?_⟩;clear hK K;refine bD ?_;intro W0 hb0;have HB0:=Y1 hb0;clear hb0;refine aH (fun K hK=>?_);go_simp;refine(dI.calls 40 _ _ _ _ _ x' b' W0 HN.out.1).mono ?_;rintro e W1 ⟨rfl,hb1⟩;have hX1:=HB0.out.keep (Keeps.of_below (S:=fun _=>False) hb1);refine hK _ _ hX1 ?_;clear hK K;obtain⟨-,-,f1,⟨u1,x1⟩,f2⟩:=HY.out W1 hX1;obtain⟨f2,u2,x2⟩:=f2 x';have HB1:=Y1 hX1;clear hb1 hX1;refine aQ ?_
     repeat (refine aI (fun K hK=>?_);go_simp;refine hK _ ?_;clear hK K)
     refine au ?_;refine aH (fun K hK=>?_);go_simp;refine hK _ _ (HB1.out.put hlt x') ?_;clear hK K;refine aQ ?_
     repeat (refine aI (fun K hK=>?_);go_simp;refine hK _ ?_;clear hK K)
     refine au ?_;have H6:=Y1 (HB1.out.step (Keeps.refl _ W1) hlt HN.out.2)
     go_wp2_with fail
     go_roundg k1
     case measure=>omega
     case rel=>exact⟨k+1,[],A,cp,j,hk1,rfl,rfl,⟨HZ.out.1,HZ.out.2,H6.out⟩⟩
    |cons r t=>
     have hjl:=hLk.1;obtain⟨ga,rfl,rfl,hcp⟩:=hLk.2 (by simp);obtain⟨r1,r2⟩:=ZY ol (XD.at_ hjl);obtain⟨n1,hn1⟩:∃n1,n1=(r::t).length:=⟨_,rfl⟩
     have hpos:(0:Int)<(n1:Int):=by rw[hn1];simp
     have aho:0<n1:=by omega
     rw[<-hn1]at hcp;rw[<-hn1];by_cases hr:r.1=(k:Int)
     .obtain⟨wE,FB⟩:=XD.hit HE.out.2.2.2.1 hr;obtain⟨A',hsl,hLk'⟩:=hLk.step;have hn1':n1=t.length+1:=hn1;have hcut:=adw ⟨ga,j*2,none⟩ n1 cp (by omega);rw[hn1',hsl,<-hn1']at hcut;have HZ:=Y2 FB hLk';obtain⟨n2,hn2⟩:=ex t.length
      rw[<-hn2]at hcut;clear FB hLk hLk' XD hA sp sc so sb hcv ol pU hcf hout hkp hsl hn1' hn1;have HN2:=Y1 hn2;clear hn2
      go_wp2_with fail
      go_quiet (fail)
      obtain⟨nq1,rfl⟩:=ex nq
      go_wp2_with fail
      go_quiet (fail)
      go_wp2_with fail
      obtain⟨x',b',hnx⟩:∃x' b',(x',b')=AX xk (some r.2):=⟨_,_,rfl⟩
      have hne:dI.f 40 kd (st:Nat) xk r.2 true=some (x',b'):=(Dl HE.out.2.2.2.2.2.1 xk (some r.2)).trans (congrArg some hnx.symm);obtain⟨wz,hwz⟩:∃wz,wz=(wr.drewN nq1).drewN nq:=⟨_,rfl⟩
      have XE:pq w9 wz g1 g2 n c1 c2 V l k:=by rw[hwz];exact HX.out.keep (((Keeps.refl _ wr).drewN nq1).drewN nq)
      rw[<-hwz];have HN:=Y2 hne (show(x',b')=AX (V.getD k 0) (look l (k:Int)) by rw[wE,<-HV.out];exact hnx);clear hwz hne hnx wE;refine gy (fun W=>pq w9 W g1 g2 n c1 c2 V l k) 8 [0,2,3,5,7,8,9] [1,4,6] [([10],[11,12,13,14]),([15],[16])] [17] (by kernel_rfl) (fun _ _ x _ _ h=>by cases x<;>exact h) (XE.keep (Keeps.refl _ wz).drew) (by kernel_rfl) ?_;clear XE;simp only[gu,aJ,ai,an,af,ag]
      repeat (refine aI (fun K hK=>?_);go_simp;refine hK _ ?_;clear hK K)
      refine au ?_;refine ak (fun K hK=>?_);go_simp;refine⟨.slice (some ⟨g1,0,none⟩) n c1,fun w' hw'=>(by rw[(HY.out w' hw').1.cell 0 rfl];rfl),hK _ ?_⟩;clear hK K;refine ak (fun K hK=>?_);go_simp;refine⟨.slice (some ⟨g2,0,none⟩) n c2,fun w' hw'=>(by rw[(HY.out w' hw').1.cell 1 rfl];rfl),hK _ ?_⟩;clear hK K;refine ak (fun K hK=>?_);go_simp;refine⟨.agg #[.int .i64 kd,.int .u32 (st:Nat)],fun w' hw'=>(by simp[(HY.out w' hw').2.1.cell 0 rfl,(HY.out w' hw').2.1.cell 1 rfl,bk]),hK _ ?_⟩;clear hK K;refine bD ?_;intro W0 hb0;have HB0:=Y1 hb0;clear hb0;refine aH (fun K hK=>?_);go_simp;refine(dI.calls 40 _ _ _ _ _ x' b' W0 HN.out.1).mono ?_;rintro e W1 ⟨rfl,hb1⟩;have hX1:=HB0.out.keep (Keeps.of_below (S:=fun _=>False) hb1);refine hK _ _ hX1 ?_;clear hK K;obtain⟨-,-,f1,⟨u1,x1⟩,f2⟩:=HY.out W1 hX1;obtain⟨f2,u2,x2⟩:=f2 x';have HB1:=Y1 hX1;clear hb1 hX1;refine aQ ?_
      repeat (refine aI (fun K hK=>?_);go_simp;refine hK _ ?_;clear hK K)
      refine au ?_;refine aH (fun K hK=>?_);go_simp;refine hK _ _ (HB1.out.put hlt x') ?_;clear hK K;refine aQ ?_
      repeat (refine aI (fun K hK=>?_);go_simp;refine hK _ ?_;clear hK K)
      refine au ?_;have H6:=Y1 (HB1.out.step (Keeps.refl _ W1) hlt HN.out.2)
      go_wp2_with fail
      go_roundg k1
      case measure=>omega
      case rel=>exact⟨k+1,t,A',cp-1,j+1,hk1,rfl,(by rw[<-HN2.out]),⟨HZ.out.1,HZ.out.2,H6.out⟩⟩
     .obtain⟨wE,FB⟩:=XD.miss HE.out.2.2.2.1 fun x hx=>by
       injection hx with hx;subst hx;exact hr
      have HZ:=Y2 FB hLk;have HN1:=Y1 hn1;clear FB hLk XD hA sp sc so sb hcv ol pU hcf hout hkp hn1
      go_wp2_with fail
      go_quiet (fail)
      go_wp2_with fail
      obtain⟨x',b',hnx⟩:∃x' b',(x',b')=AX xk (none):=⟨_,_,rfl⟩
      have hne:dI.f 40 kd (st:Nat) xk 0 false=some (x',b'):=(Dl HE.out.2.2.2.2.2.1 xk (none)).trans (congrArg some hnx.symm);obtain⟨wz,hwz⟩:=ex (wr.drewN nq)
      have XE:pq w9 wz g1 g2 n c1 c2 V l k:=by rw[hwz];exact HX.out.keep ((Keeps.refl _ wr).drewN nq)
      rw[<-hwz];have HN:=Y2 hne (show(x',b')=AX (V.getD k 0) (look l (k:Int)) by rw[wE,<-HV.out];exact hnx);clear hwz hne hnx wE;refine gy (fun W=>pq w9 W g1 g2 n c1 c2 V l k) 8 [0,2,3,5,7,8,9] [1,4,6] [([10],[11,12,13,14]),([15],[16])] [17] (by kernel_rfl) (fun _ _ x _ _ h=>by cases x<;>exact h) (XE.keep (Keeps.refl _ wz).drew) (by kernel_rfl) ?_;clear XE;simp only[gu,aJ,ai,an,af,ag]
      repeat (refine aI (fun K hK=>?_);go_simp;refine hK _ ?_;clear hK K)
      refine au ?_;refine ak (fun K hK=>?_);go_simp;refine⟨.slice (some ⟨g1,0,none⟩) n c1,fun w' hw'=>(by rw[(HY.out w' hw').1.cell 0 rfl];rfl),hK _ ?_⟩;clear hK K;refine ak (fun K hK=>?_);go_simp;refine⟨.slice (some ⟨g2,0,none⟩) n c2,fun w' hw'=>(by rw[(HY.out w' hw').1.cell 1 rfl];rfl),hK _ ?_⟩;clear hK K;refine ak (fun K hK=>?_);go_simp;refine⟨.agg #[.int .i64 kd,.int .u32 (st:Nat)],fun w' hw'=>(by simp[(HY.out w' hw').2.1.cell 0 rfl,(HY.out w' hw').2.1.cell 1 rfl,bk]),hK _ ?_⟩;clear hK K;refine bD ?_;intro W0 hb0;have HB0:=Y1 hb0;clear hb0;refine aH (fun K hK=>?_);go_simp;refine(dI.calls 40 _ _ _ _ _ x' b' W0 HN.out.1).mono ?_;rintro e W1 ⟨rfl,hb1⟩;have hX1:=HB0.out.keep (Keeps.of_below (S:=fun _=>False) hb1);refine hK _ _ hX1 ?_;clear hK K;obtain⟨-,-,f1,⟨u1,x1⟩,f2⟩:=HY.out W1 hX1;obtain⟨f2,u2,x2⟩:=f2 x';have HB1:=Y1 hX1;clear hb1 hX1;refine aQ ?_
      repeat (refine aI (fun K hK=>?_);go_simp;refine hK _ ?_;clear hK K)
      refine au ?_;refine aH (fun K hK=>?_);go_simp;refine hK _ _ (HB1.out.put hlt x') ?_;clear hK K;refine aQ ?_
      repeat (refine aI (fun K hK=>?_);go_simp;refine hK _ ?_;clear hK K)
      refine au ?_;have H6:=Y1 (HB1.out.step (Keeps.refl _ W1) hlt HN.out.2)
      go_wp2_with fail
      go_roundg k1
      case measure=>omega
      case rel=>exact⟨k+1,r::t,some ⟨ga,j*2,none⟩,cp,j,hk1,rfl,(by rw[<-HN1.out]),⟨HZ.out.1,HZ.out.2,H6.out⟩⟩
   .obtain rfl:k=n:=by omega
    have c0:=sb.cell 0 rfl;have c1':=sb.cell 1 rfl;have t0:=so.cell 0 rfl;have t1:=so.cell 1 rfl;have u0:=so.frozen 0;have u1:=so.frozen 1;have s2:=(so.set 0 (.slice (some ⟨g1,0,none⟩) k c1)).set 1 (.slice (some ⟨g2,0,none⟩) k c2);have HF:=Y3 so pU s2;clear sp sc so sb hcv ol pU hcf hout hkp hA XD hLk s2
    go_wp2_with fail
    obtain⟨so,pU,s2⟩:=HF.out;obtain⟨S9,BD,oD,hup,lV,-,-,IQ,hg⟩:=HE.out;obtain⟨V',L',hcf,hout,hkp⟩:=HX.out;refine bodyPost_ret (dX rfl _ _ (w.heap.size+1+1) 253 #[.slice (some ⟨g1,0,none⟩) k c1,.slice (some ⟨g2,0,none⟩) k c2] (0,0) _ rfl s2 ca rfl (by kernel_rfl)) rfl ?_;obtain⟨-,-,hg1,hg2,hd1,hd2,hd3,hTw⟩:=hg;have KK:Keeps (fun j=>j=w.heap.size+1+1) wr ((wr.setCell ⟨w.heap.size+1+1,0,none⟩ (.slice (some ⟨g1,0,none⟩) k c1)).setCell ⟨w.heap.size+1+1,1,none⟩ (.slice (some ⟨g2,0,none⟩) k c2)):=((Keeps.refl (fun j=>j=w.heap.size+1+1) wr).setCell (a:=⟨w.heap.size+1+1,0,none⟩) (.inl rfl) _).setCell (a:=⟨w.heap.size+1+1,1,none⟩) (.inl rfl) _;have kS:=BD.size;refine⟨some ⟨g1,0,none⟩,c1,some ⟨g2,0,none⟩,c2,V',L',D8,c9,rfl,hcf.keep KK fun a ha e=>?_,fun a ha=>?_,hout.sup oD,pU.keep KK fun j h e=>hd3 (e▸h),?_,fun j hj=>?_⟩
    .rcases ha with h|h<;>cases h
     .exact so.own_ne hcf.v (by decide) _ rfl e
     .exact so.own_ne hcf.l (by decide) _ rfl e
    .rcases ha with h|h<;>cases h
     .exact⟨hg1,hd1⟩
     .exact⟨hg2,hd2⟩
    .refine(((BD.mono fun _ _ h=>h.elim).trans S9.1 fun j h=>?_).trans hkp fun j h=>?_).trans KK fun j h=>?_
     .exact h.imp id (hTw j)
     .rcases h with rfl|rfl
      .exact .inr hg1
      .exact .inr hg2
     .right;omega
    .rcases S9.2 j hj with h|h
     .exact h.imp id (hTw j)
     .right;omega
theorem vE(z:cz)(n:Nat):madeCells #[z] n=(aa n z).toArray:=by
 apply Array.ext
 .simp[size_madeCells]
 .intro i h1 h2;simp only[madeCells,Array.getElem_map,List.getElem_toArray,List.getElem_replicate];simp[Nat.mod_one]
theorem agp(n:Nat)(hn:n<=1000)(W:aE):(Instr.makeSlice 41 (.int .i64 (n:Int)) (.int .i64 (n:Int))).run ab W=.ok (.slice (some ⟨W.heap.size,0,none⟩) n n) (W.alloc (.cells (bools (aa n false)).toArray 4 (0,0))):=by
 rw[nO 41 4 (.bool false) 1 bt (by kernel_rfl) rfl (by omega) n (by omega) W,vE];simp[bools]
theorem adx(n:Nat)(hn:n<=1000)(W:aE):(Instr.makeSlice 251 (.int .i64 (n:Int)) (.int .i64 (n:Int))).run ab W=.ok (.slice (some ⟨W.heap.size,0,none⟩) n n) (W.alloc (.cells (nums .u64 (aa n 0)).toArray 36 (0,0))):=by
 rw[nO 251 36 (.int .u64 0) 8 underlying251 (by kernel_rfl) rfl (by omega) n (by omega) W,vE];simp[nums]
theorem rA{e:Nat}{xs:List cz}(h:St w g e xs)(hl:xs.length=n)(hn:n<=maxLen)(hb:base<=g):w.ownsRow base e 1 (.slice (some ⟨g,0,none⟩) n n) n xs:=by
 refine⟨by omega,.inr ⟨g,n,xs.toArray,rfl,hb,?_⟩⟩;exact⟨h,ae _,hn,by simpa using hl,by simp[<-hl]⟩
theorem mul_one:∀n<13,bits_Mul.f 1 ((n:Nat):Int)=some (0,((n:Nat):Int)):=by decide+kernel
theorem Mq(L:List Bool):∀v∈bools L,v.oneCell'=true:=fun v hv=>by
 obtain⟨x,-,rfl⟩:=cI.1 hv;rfl
theorem St.shape{t:Nat}{vs:List cz}(h:St w b t vs):w.heap[b]? =some (.cells vs.toArray t (0,0)):=h
theorem Rh(x y:Bool)(m k n:Nat)(h:m+k<=n):(aa m x++aa (n-m) y).take m++aa k x++(aa m x++aa (n-m) y).drop (m+k)=aa (m+k) x++aa (n-(m+k)) y:=by
 rw[List.take_left' (by simp),List.drop_append,List.length_replicate,List.drop_eq_nil_of_le (by simp),List.nil_append,List.drop_replicate,bz,<-bz,List.replicate_append_replicate]
 congr 2
 omega
variable {x:Bool}
theorem ady{G dl dc sl sc:Nat}{y:Bool}{a:cE}(hs:St W G 4 (bools (aa m x++aa (n-m) y)))(hk:k=de sl dl)(hm:m+k<=n)(hsrc:∀j,j<k->W.cell? (a.add j)=some (.bool x)):
 ∃W',(Builtin.copy_ #[41,41] 3 #[.slice (some ⟨G,m,none⟩) dl dc,.slice (some a) sl sc]).run ab W=.ok (.int .i64 (k:Nat)) W'∧St W' G 4 (bools (aa (m+k) x++aa (n-(m+k)) y))∧Keeps (fun j=>j=G) W W':=by
 have hl:(bools (aa k x)).length=k:=by simp[bools]
 have h:=run_copy_row ab W 41 41 3 4 G m dl dc a sl sc _ 4 (bools (aa k x)) bt (by kernel_rfl) hs.shape (by rw[hl];exact hk) (fun j v hv=>by
  have hj:j<k:=by
   have:=(aw.1 hv).1;rwa [hl]at this
  rw[uO (by simpa using hj)]at hv;injection hv with hv;rw[hsrc j hj,<-hv];simp[cd,hj]) (by rw[hl];simp[bools];omega) (Mq _)
 rw[hl]at h;refine⟨_,h,?_,?_⟩
 .have e:(bools (aa m x++aa (n-m) y)).toArray.toList.take m++bools (aa k x)++(bools (aa m x++aa (n-m) y)).toArray.toList.drop (m+k)=bools (aa (m+k) x++aa (n-(m+k)) y):=by
   rw[<-Rh x y m k n hm];simp[bools,List.map_drop]
  rw[e];exact setRow_heap W G _ _ _ _ hs.shape
 .exact⟨rfl,rfl,rfl,cJ (by simp[World.setRow]),fun j _ hj=>setRow_other _ _ _ _ hj⟩
theorem adz(W:aE)(G n m:Nat)(h:m<=n):(Instr.slice 41 (.slice (some ⟨G,0,none⟩) n n) (some (.int .i64 (m:Nat))) none none).run ab W=.ok (sliced (some ⟨G,0,none⟩) m n n 1) W:=by
 rw[run_slice_l W 41 (some ⟨G,0,none⟩) n n bt .i64 (m:Nat) (by omega) (by omega),show(sizeOf (ab.elem 41)).run ab W=.ok 1 W by kernel_rfl];simp[bk]
theorem adA(W:aE)(G n m:Nat)(h:m<=n):(Instr.slice 41 (.slice (some ⟨G,0,none⟩) n n) none (some (.int .i64 (m:Nat))) none).run ab W=.ok (sliced (some ⟨G,0,none⟩) 0 m n 1) W:=by
 rw[run_slice_h W 41 (some ⟨G,0,none⟩) n n bt .i64 (m:Nat) (by omega) (by omega),show(sizeOf (ab.elem 41)).run ab W=.ok 1 W by kernel_rfl];simp[bk]
theorem Ri(hA:w.cell? ⟨g,0,none⟩=some (.bool x))(hn:n<=12):
 ba ab 222 #[.slice (some ⟨g,0,none⟩) 1 c,.int .i64 (n:Nat)] w fun e w'=>∃A' c',e=.returned (.slice A' n c')∧w'.ownsRow w.heap.size 4 1 (.slice A' n c') n (bools (aa n x))∧al w.heap.size w w':=by
 have hmul:=bits_Mul.calls 1 (n:Nat) 0 (n:Nat) w (mul_one n (by omega));have z0:¬(n:Int)<0:=by omega
 have z1:((n:Nat):Int)%18446744073709551616=n:=by omega
 have z2:¬(9223372036854775807:Int)<(n:Int):=by omega
 have hmk:=agp n (by omega);go_enter func222,ntmps222
 go_wp2_with fail
 refine hmul.mono ?_;clear hmul;rintro e w1 ⟨rfl,⟨nd,rfl⟩⟩;have hS:St ((w.drewN nd).alloc (.cells (bools (aa n false)).toArray 4 (0,0))) w.heap.size 4 (bools (aa 0 x++aa (n-0) false)):=by
  have:=St.new (w.drewN nd) 4 (bools (aa n false)).toArray;simpa using this
 have k1:Keeps (fun _=>False) w ((w.drewN nd).alloc (.cells (bools (aa n false)).toArray 4 (0,0))):=((Keeps.refl _ w).drewN nd).alloc _;obtain⟨m1,hm1⟩:=ex (de 1 n)
 have hm2:m1<=1∧m1<=n∧(m1=0->n=0):=by rw[hm1];simp only[da];split<;>omega
 obtain⟨W2,hcp,hS2,hk2⟩:=ady (dl:=n) (dc:=n) (sl:=1) (sc:=c) (k:=m1) (x:=x) (y:=false) (a:=⟨g,0,none⟩) hS hm1 (by omega) (fun j hj=>by
  obtain rfl:j=0:=by omega
  exact k1.cell hA id)
 have H2:=Y1 (show(m1=0->n=0)∧St W2 w.heap.size 4 (bools (aa m1 x++aa (n-m1) false))∧Keeps (fun _=>False) w W2 from⟨hm2.2.2,by simpa using hS2,k1.trans hk2 fun j e=>.inr (by omega)⟩);have hm3:=hm2.2.1;clear hS k1 hm1 hm2 hS2 hk2
 go_wp2_with fail
 generalize hG:w.heap.size=G at*
 go_loopg [8] (n-m1) (fun kq v8 wr=>∃m:Nat,kq+m=n∧v8=.int .i64 (m:Nat)∧aG ((m=0->n=0)∧St wr G 4 (bools (aa m x++aa (n-m) false))∧Keeps (fun _=>False) w wr))
 case atStart=>exact⟨m1,by omega,rfl,H2⟩
 case round=>
  obtain⟨m,hm,rfl,hA⟩:=hrel;by_cases hlt:m<n
  .obtain⟨h0,hS,hk⟩:=hA.out;obtain⟨k2,hk2⟩:=ex (de m (n-m))
   have hk3:k2+m<=n∧0<k2∧k2<=m:=by rw[hk2];simp only[da];split<;>omega
   have s1:=fun W=>adz W G n m (by omega)
   have s2:=fun W=>adA W G n m (by omega)
   have e1:sliced (some ⟨G,0,none⟩) m n n 1=.slice (some ⟨G,m,none⟩) (n-m) (n-m):=by
    unfold sliced;rw[if_neg (by omega)];simp[Addr.add];omega
   have e2:sliced (some ⟨G,0,none⟩) 0 m n 1=.slice (some ⟨G,0,none⟩) m n:=by
    unfold sliced;simp[Addr.add]
   obtain⟨d1,hd1⟩:=ex (n-m)
   rw[e1,<-hd1]at s1;rw[e2]at s2;have HX:=Y6 h0 hS hk hk2 hk3 hd1;clear h0 hS hk hA e1 e2 hk2 hd1;obtain⟨m2,hm2⟩:=ex (m+k2)
   have hmi:(m:Int)+(k2:Int)=(m2:Nat):=by omega
   have ahZ:m2<=12:=by omega
   have HM:=Y1 hm2;clear hm2
   go_wp2_with fail
   refine gy (fun W=>∃nn,W=wr.drewN nn) 4 [0,1,2,3,4,5,6] [] [] [7,8,9] (by kernel_rfl) (fun _ _ x _ _ h=>by cases x<;>exact h) ⟨1,rfl⟩ (by kernel_rfl) ?_;simp only[gu,aJ,ai,an,af,ag]
   repeat (refine aI (fun K hK=>?_);go_simp;refine hK _ ?_;clear hK K)
   refine au ?_;refine bD ?_;rintro _ ⟨nn,rfl⟩;obtain⟨h0,hS,hk,hk2,agq,hd1⟩:=HX.out;obtain⟨W3,ah0,Sd,hk4⟩:=ady (W:=wr.drewN nn) (G:=G) (n:=n) (m:=m) (k:=k2) (dl:=d1) (dc:=d1) (sl:=m) (sc:=n) (x:=x) (y:=false) (a:=⟨G,0,none⟩) hS (by rw[hd1];exact hk2) (by omega) (fun j hj=>by
    rw[show(⟨G,0,none⟩:cE).add j=⟨G,j,none⟩ by unfold Addr.add;split<;>simp_all];refine St.cell (show St (wr.drewN nn) G 4 _ from hS) _ ?_;rw[uO (by simp;omega)];rw[cd,List.getElem?_append_left (by simp;omega),List.getElem?_replicate,if_pos (by omega)];rfl)
   have H3:=Y1 (show(m2=0->n=0)∧St W3 G 4 (bools (aa m2 x++aa (n-m2) false))∧Keeps (fun _=>False) w W3 from⟨fun h=>by have:=HM.out;omega,by rw[HM.out];exact Sd,(hk.drewN nn).trans hk4 fun j e=>.inr (by omega)⟩);clear h0 hS hk hk2 agq hd1 Sd hk4
   go_wp2_with fail
   go_roundg (n-m2)
   case measure=>have:=HM.out;omega
   case rel=>exact⟨m2,by have:=HM.out;omega,rfl,H3⟩
  .obtain rfl:m=n:=by omega
   obtain⟨h0,hS,hk⟩:=hA.out;rw[cX,List.replicate_zero,List.append_nil]at hS;have HX:=Y2 hS hk;clear h0 hS hk hA
   go_wp2_with fail
   go_ret;obtain⟨hS,hk⟩:=HX.out;exact⟨_,_,rfl,rA hS (by simp[bools]) (by unfold maxLen;omega) (cJ hG),hk.eG fun _ _ h=>h⟩
variable {es:List Ed}
theorem aac{st:Nat}(hP:Mi kd st n)(hn:n<=12)(hE:jq w.heap.size w A es)(hok:∀e∈es,e.ok n)(hm:es.length=m)(hm2:m<=1000):
 ba ab 221 #[.agg #[.int .i64 kd,.int .u32 (st:Nat)],.agg #[.int .i64 (n:Nat),.slice A m cp]] w fun e w'=>e=.returned (.bool true)∧al w.heap.size w w':=by
 obtain⟨w1,hw1⟩:∃w1,w1=(w.alloc (.cells #[.int .i64 kd,.int .u32 (st:Nat)] 24 (0,0))).alloc (.cells #[.int .i64 (n:Nat),.slice A m cp] 27 (0,0)):=⟨_,rfl⟩
 have b1:al w.heap.size w w1:=by rw[hw1];exact((az _ w).alloc (ae _) _).alloc (by simp) _
 have sp:St w1 w.heap.size 24 [.int .i64 kd,.int .u32 (st:Nat)]:=by rw[hw1];exact(St.new _ _ _).alloc _
 have sc:St w1 (w.heap.size+1) 27 [.int .i64 (n:Nat),.slice A m cp]:=by
  have:=St.new (w.alloc (.cells #[.int .i64 kd,.int .u32 (st:Nat)] 24 (0,0))) 27 #[.int .i64 (n:Nat),.slice A m cp];rw[hw1];simpa using this
 have XC:∀W,_:=fun W=>fM.calls _ _ _ _ W (oq hP hn) ⟨rfl⟩
 have hE1:jq w1.heap.size w1 A es:=fun k e hk=>by
  obtain⟨g,o,h1,h2,h3⟩:=(hE.below b1) k e hk;exact⟨g,o,h1,cG h2 b1.size,h3⟩
 have her:=Fu w1 hE1 hok hm hm2 (by omega) (cp:=cp);have c0:=sc.cell 0 rfl;have c1:=sc.cell 1 rfl;have H1:=Y3 b1 sp sc;have HR:=Y1 XC;clear XC hE1 hE hok hm b1 sp sc hP;go_enter func221,ntmps221
 go_wp2_with fail
 rw[<-hw1];refine her.mono ?_;clear her;rintro e w2 ⟨rfl,hb2⟩;obtain⟨b1,sp,sc⟩:=H1.out;have k2:Keeps (fun _=>False) w1 w2:=Keeps.of_below hb2;have Vu:=sc.keep k2 id;have sp2:=sp.keep k2 id;have d0:=Vu.cell 0 rfl;have p0:=sp2.cell 0 rfl;have p1:=sp2.cell 1 rfl;have hr:=HR.out w2;have H2:=Y1 (b1.trans (hb2.mono b1.size));clear b1 sp sc k2 Vu sp2 hb2 hw1
 go_wp2_with fail
 refine hr.mono ?_;clear hr;rintro e w3 ⟨rfl,hb3⟩;have H3:=Y1 (H2.out.trans (hb3.mono H2.out.size));clear hb3
 go_wp2_with fail
 go_ret;exact⟨rfl,H3.out⟩
def iV(kd:Int)(st n:Nat):List Int:=if kd=1 then(aa n never).set st 0 else(cU n).map Int.ofNat
def jE(kd:Int)(st n:Nat):List Bool:=if kd=1 then(aa n false).set st true else aa n true
def StJ(n base:Nat)(W:aE)(v15 v16 v19 v20 v6:cz)(d:Nat->Prop):Prop:=
 (d 2->∃b,v15=.slice (some ⟨b,0,none⟩) n n∧base<=b∧St W b 36 (nums .u64 (aa n 0)))∧(d 3->∃b,v16=.slice (some ⟨b,0,none⟩) 1 1∧base<=b∧St W b 4 [.bool true])∧
  (d 6->∃A c,v19=.slice A n c∧W.ownsRow base 4 1 (.slice A n c) n (bools (aa n true)))∧(d 8->∃b,v6=.pointer (some ⟨b,0,none⟩)∧base<=b∧St W b 253 [.slice none 0 0,.slice none 0 0])∧
  (d 7->∃b A c,v20=.agg #[.slice (some ⟨b,0,none⟩) n n,.slice A n c]∧base<=b∧St W b 36 (nums .u64 (aa n 0))∧W.ownsRow base 4 1 (.slice A n c) n (bools (aa n true)))
theorem StJ.keep{n base:Nat}{W W':aE}{v15 v16 v19 v20 v6:cz}{d:Nat->Prop}(h:StJ n base W v15 v16 v19 v20 v6 d)(hk:Keeps (fun _=>False) W W'):StJ n base W' v15 v16 v19 v20 v6 d:=by
 obtain⟨h1,h2,h3,h4,h5⟩:=h;refine⟨fun hd=>?_,fun hd=>?_,fun hd=>?_,fun hd=>?_,fun hd=>?_⟩
 .obtain⟨b,e,hb,hs⟩:=h1 hd;exact⟨b,e,hb,hs.keep hk id⟩
 .obtain⟨b,e,hb,hs⟩:=h2 hd;exact⟨b,e,hb,hs.keep hk id⟩
 .obtain⟨A,c,e,hs⟩:=h3 hd;exact⟨A,c,e,hk.own hs fun _ _=>id⟩
 .obtain⟨b,e,hb,hs⟩:=h4 hd;exact⟨b,e,hb,hs.keep hk id⟩
 .obtain⟨b,A,c,e,hb,hs,ho⟩:=h5 hd;exact⟨b,A,c,e,hb,hs.keep hk id,hk.own ho fun _ _=>id⟩
def sV(kd:Int)(n k:Nat):List Int:=(if kd=1 then aa k never else(cU k).map Int.ofNat)++aa (n-k) 0
def sL(kd:Int)(n k:Nat):List Bool:=if kd=1 then aa k false++aa (n-k) true else aa n true
theorem FC{α:Type}(l:List α)(x y:α)(n k:Nat)(hl:l.length=k)(hk:k<n):(l++aa (n-k) y).set k x=(l++[x])++aa (n-(k+1)) y:=by
 subst hl;rw[show n-l.length=(n-(l.length+1))+1 by omega,List.replicate_succ,List.set_append_right _ _ (ae _),cX,cF,bz];rfl
theorem Kk(hk:k<n):(sV kd n k).set k (if kd=1 then never else(k:Int))=sV kd n (k+1):=by
 unfold sV;rw[FC _ _ _ _ _ (by split<;>simp) hk]
 split
 .rw[cD]
 .rw[cN,List.map_append];rfl
theorem Vw(hk:k<n):(sL 1 n k).set k false=sL 1 n (k+1):=by
 unfold sL;rw[if_pos rfl,if_pos rfl,FC _ _ _ _ _ (by simp) hk,cD]
theorem Rj(kd:Int)(st n:Nat):(if kd=1 then(sV kd n n).set st 0 else sV kd n n)=iV kd st n:=by
 unfold sV iV
 split<;>simp
theorem Rk(kd:Int)(st n:Nat):(if kd=1 then(sL kd n n).set st true else sL kd n n)=jE kd st n:=by
 unfold sL jE
 split<;>simp
theorem lZ.Mr{gv:Nat}(h:lZ w (some ⟨gv,0,none⟩) AL n cv cl V L)(hk:k<n)(x:Int):lZ (w.setCell ⟨gv,k,none⟩ (.int .u64 x)) (some ⟨gv,0,none⟩) AL n cv cl (V.set k x) L:=by
 obtain⟨l1,l2⟩:=h.len;obtain⟨g1,gl,e1,e2⟩:=h.ends (by omega);subst e2;have hne:=h.ne;refine⟨?_,b_ (p:=⟨gv,k,none⟩) h.l (fun e=>?_) _⟩
 .rw[<-yZ];exact nJ h.v k _ (by simp[nums];omega)
 .injection e with e;exact hne e
def Dq(Wz wr:aE)(bv n c6:Nat)(A6:Option cE)(V:List Int)(L:List Bool):Prop:=
 lZ wr (some ⟨bv,0,none⟩) A6 n n c6 V L∧Keeps (fun j=>j=bv∨(ax A6 n c6).ownBlock=some j) Wz wr
theorem Dq.Mr{Wz wr:aE}{bv n c6 k:Nat}{A6:Option cE}{V:List Int}{L:List Bool}(h:Dq Wz wr bv n c6 A6 V L)(hk:k<n)(x:Int):Dq Wz (wr.setCell ⟨bv,k,none⟩ (.int .u64 x)) bv n c6 A6 (V.set k x) L:=
 ⟨h.1.Mr hk x,h.2.setCell (a:=⟨bv,k,none⟩) (.inl (.inl rfl)) _⟩
theorem Dq.set{Wz wr:aE}{bv n c6 k gl:Nat}{V:List Int}{L:List Bool}(h:Dq Wz wr bv n c6 (some ⟨gl,0,none⟩) V L)(hk:k<n)(x:Int)(y:Bool):Dq Wz ((wr.setCell ⟨bv,k,none⟩ (.int .u64 x)).setCell ⟨gl,k,none⟩ (.bool y)) bv n c6 (some ⟨gl,0,none⟩) (V.set k x) (L.set k y):=
 ⟨h.1.set hk x y,(h.2.setCell (a:=⟨bv,k,none⟩) (.inl (.inl rfl)) _).setCell (a:=⟨gl,k,none⟩) (.inl (.inr rfl)) _⟩
theorem Dq.drewN{Wz wr:aE}{bv n c6:Nat}{A6:Option cE}{V:List Int}{L:List Bool}(h:Dq Wz wr bv n c6 A6 V L)(m:Nat):Dq Wz (wr.drewN m) bv n c6 A6 V L:=⟨h.1.keep (S:=fun _=>False) ((Keeps.refl _ wr).drewN m) fun _ _=>id,h.2.drewN m⟩
theorem Dq.spot{Wz wr:aE}{bv n c6 k gl:Nat}{V:List Int}{L:List Bool}(h:Dq Wz wr bv n c6 (some ⟨gl,0,none⟩) V L)(hk:k<n):
 wr.frozen? ⟨bv,k,none⟩=false∧(∃u,wr.cell? ⟨bv,k,none⟩=some u)∧∀x,(wr.setCell ⟨bv,k,none⟩ (.int .u64 x)).frozen? ⟨gl,k,none⟩=false∧∃u,(wr.setCell ⟨bv,k,none⟩ (.int .u64 x)).cell? ⟨gl,k,none⟩=some u:=by
 obtain⟨a1,a2,a3,a4⟩:=h.1.spot hk;refine⟨a3,⟨_,a1⟩,fun x=>?_⟩;obtain⟨b1,b2,b3,b4⟩:=(h.1.Mr hk x).spot hk;exact⟨b4,_,b2⟩
theorem Vx{st:Nat}(hP:Mi kd st n)(hn:n<=12)(hE:jq w.heap.size w A es)(hok:∀e∈es,e.ok n)(hm:es.length=m)(hm2:m<=1000):
 ba ab 190 #[.agg #[.int .i64 kd,.int .u32 (st:Nat)],.agg #[.int .i64 (n:Nat),.slice A m cp]] w fun e w'=>∃A1 c1 A2 c2,e=.returned (.tuple #[.agg #[.slice A1 n c1,.slice A2 n c2],.int .i64 0])∧lZ w' A1 A2 n c1 c2 (iV kd st n) (jE kd st n)∧
  (∀a,A1=some a∨A2=some a->w.heap.size<=a.block)∧al w.heap.size w w':=by
 obtain⟨w1,hw1⟩:∃w1,w1=((w.alloc (.cells #[.int .i64 kd,.int .u32 (st:Nat)] 24 (0,0))).alloc (.cells #[.int .i64 (n:Nat),.slice A m cp] 27 (0,0))).alloc (.cells #[.slice none 0 0,.slice none 0 0] 253 (0,0)):=⟨_,rfl⟩
 have b1:al w.heap.size w w1:=by rw[hw1];exact(((az _ w).alloc (ae _) _).alloc (by simp) _).alloc (by simp;omega) _
 have sp:St w1 w.heap.size 24 [.int .i64 kd,.int .u32 (st:Nat)]:=by rw[hw1];exact((St.new _ _ _).alloc _).alloc _
 have sc:St w1 (w.heap.size+1) 27 [.int .i64 (n:Nat),.slice A m cp]:=by
  have:=(St.new (w.alloc (.cells #[.int .i64 kd,.int .u32 (st:Nat)] 24 (0,0))) 27 #[.int .i64 (n:Nat),.slice A m cp]).alloc (.cells #[.slice none 0 0,.slice none 0 0] 253 (0,0));rw[hw1];simpa using this
 have so:St w1 (w.heap.size+1+1) 253 [.slice none 0 0,.slice none 0 0]:=by
  have:=St.new ((w.alloc (.cells #[.int .i64 kd,.int .u32 (st:Nat)] 24 (0,0))).alloc (.cells #[.int .i64 (n:Nat),.slice A m cp] 27 (0,0))) 253 #[.slice none 0 0,.slice none 0 0];rw[hw1];simpa using this
 have hE1:jq w1.heap.size w1 A es:=fun k e hk=>by
  obtain⟨g,o,h1,h2,h3⟩:=(hE.below b1) k e hk;exact⟨g,o,h1,cG h2 b1.size,h3⟩
 have hma:=aac (cp:=cp) hP hn hE1 hok hm hm2;have p0:=sp.cell 0 rfl;have p1:=sp.cell 1 rfl;have c0:=sc.cell 0 rfl;have c1:=sc.cell 1 rfl;have H1:=Y5 b1 sp sc so hP;clear hE1 hE hok hm b1 sp sc so hP;go_enter func190,ntmps190
 go_wp2_with fail
 rw[<-hw1];refine hma.mono ?_;clear hma;rintro e w2 ⟨rfl,hb2⟩;obtain⟨b1,sp,sc,so,hP⟩:=H1.out;have k2:Keeps (fun _=>False) w1 w2:=Keeps.of_below hb2;have H2:=Y5 (sp.keep k2 id) (sc.keep k2 id) (so.keep k2 id) (b1.trans (hb2.mono b1.size)) hP;clear b1 sp sc so k2 hb2 hw1 p0 p1 c0 c1 hP;have hQ:=H2.out.2.1;have HQ:=Y1 (fun W (hW:al w2.heap.size w2 W)=>(hQ.keep (Keeps.of_below (S:=fun _=>False) hW) id).cell 0 rfl);have m1:=adx n (by omega);clear hQ
 go_wp2_with fail
 refine GK (al w2.heap.size w2) 4 [0,4] [1,5] [2,3,6,7,8] (fun d a W=>∃v15 v16 v19 v20 v6,a={tmps:=List.toArray (.agg #[.int .i64 kd,.int .u32 (st:Nat)]:: .agg #[.int .i64 (n:Nat),.slice A m cp]:: .pointer (some ⟨w.heap.size,0,none⟩):: .pointer (some ⟨w.heap.size+1,0,none⟩):: .pointer (some ⟨w.heap.size+1+1,0,none⟩):: .int .i64 0::v6::undef:: .agg #[.int .i64 kd,.int .u32 (st:Nat)]:: .agg #[.int .i64 (n:Nat),.slice A m cp]:: .bool true:: .bool false::undef:: .pointer (some ⟨w.heap.size+1,0,none⟩):: .int .i64 (n:Nat)::v15::v16:: .pointer (some ⟨w.heap.size+1,0,none⟩):: .int .i64 (n:Nat)::v19::v20::undef::undef::undef::undef::undef::undef::undef::undef::undef::undef::undef::undef::undef::undef::undef::undef::undef::undef::undef::undef::undef::undef::undef::undef::undef::undef::undef::undef::undef::undef::undef::undef::undef::undef::undef::undef::undef::undef::undef::undef::undef::undef::undef::undef::undef::undef::undef::undef::undef::undef::undef::undef::undef::[]),defers:=[]}∧StJ n w2.heap.size W v15 v16 v19 v20 v6 d) [] [9] (by kernel_rfl) (fun _ _ x _ _ h=>by cases x<;>exact h) ((az _ w2).drew) (by kernel_rfl) ?_ ?_ ?_
 .rintro d a W i o hi ho hC hd ⟨v15,v16,v19,v20,v6,rfl,hJ⟩;have HC:=Y2 hC hJ;simp only[cW,cA,or_false]at hi;rcases hi with rfl|rfl|rfl|rfl|rfl
  .clear hd hC hJ;cases ho;refine aH (fun K hK=>?_);go_simp;obtain⟨hC,hJ⟩:=HC.out;refine hK _ _ (hC.alloc hC.size _) ?_;clear hK K;obtain⟨h2,h3,h6,h8,h7⟩:=hJ.keep ((Keeps.refl _ W).alloc (.cells (nums .u64 (aa n 0)).toArray 36 (0,0)));exact aQ ⟨_,v16,v19,v20,v6,rfl,fun _=>⟨_,rfl,hC.size,St.new _ _ _⟩,fun h=>h3 (h.resolve_left (by decide)),fun h=>h6 (h.resolve_left (by decide)),fun h=>h8 (h.resolve_left (by decide)),fun h=>h7 (h.resolve_left (by decide))⟩
  .clear hd hC hJ;cases ho;refine aH (fun K hK=>?_);go_simp;obtain⟨hC,hJ⟩:=HC.out;refine hK _ _ (hC.alloc hC.size _) ?_;clear hK K;obtain⟨h2,h3,h6,h8,h7⟩:=hJ.keep ((Keeps.refl _ W).alloc (.cells #[.bool true] 4 (0,0)));exact aQ ⟨v15,_,v19,v20,v6,rfl,fun h=>h2 (h.resolve_left (by decide)),fun _=>⟨_,rfl,hC.size,St.new _ _ _⟩,fun h=>h6 (h.resolve_left (by decide)),fun h=>h8 (h.resolve_left (by decide)),fun h=>h7 (h.resolve_left (by decide))⟩
  .have h3:=hd 3 (by kernel_rfl) (by kernel_rfl);obtain⟨b3,rfl,hb3,hs3⟩:=hJ.2.1 h3;have hrp:=Ri (c:=1) (hs3.cell 0 rfl) hn;clear hd hC hJ h3 hs3;cases ho;refine aH (fun K hK=>?_);go_simp;refine hrp.mono ?_;rintro e W1 ⟨A',c',rfl,ho',hb'⟩;obtain⟨hC,hJ⟩:=HC.out;refine hK _ _ (hC.trans (hb'.mono hC.size)) ?_;clear hK K hrp;obtain⟨h2,h3,h6,h8,h7⟩:=hJ.keep (Keeps.of_below (S:=fun _=>False) hb');exact aQ ⟨v15,_,_,v20,v6,rfl,fun h=>h2 (h.resolve_left (by decide)),fun h=>h3 (h.resolve_left (by decide)),fun _=>⟨A',c',rfl,own_base' ho' hC.size⟩,fun h=>h8 (h.resolve_left (by decide)),fun h=>h7 (h.resolve_left (by decide))⟩
  .obtain⟨b2,rfl,hb2,hs2⟩:=hJ.1 (hd 2 (by kernel_rfl) (by kernel_rfl));obtain⟨A6,c6,rfl,vO⟩:=hJ.2.2.1 (hd 6 (by kernel_rfl) (by kernel_rfl));have HX:=Y3 hb2 hs2 vO;clear hd hC hJ hs2 vO hb2;cases ho;refine aH (fun K hK=>?_);go_simp;obtain⟨hC,hJ⟩:=HC.out;obtain⟨hb2,hs2,vO⟩:=HX.out;refine hK _ _ hC ?_;clear hK K;obtain⟨h2,h3,h6,h8,h7⟩:=hJ;exact aQ ⟨_,v16,_,_,v6,rfl,fun h=>h2 (h.resolve_left (by decide)),fun h=>h3 (h.resolve_left (by decide)),fun h=>h6 (h.resolve_left (by decide)),fun h=>h8 (h.resolve_left (by decide)),fun _=>⟨_,_,_,rfl,hb2,hs2,vO⟩⟩
  .clear hd hC hJ;cases ho;refine aH (fun K hK=>?_);go_simp;obtain⟨hC,hJ⟩:=HC.out;refine hK _ _ (hC.alloc hC.size _) ?_;clear hK K;obtain⟨h2,h3,h6,h8,h7⟩:=hJ.keep ((Keeps.refl _ W).alloc (.cells #[.slice none 0 0,.slice none 0 0] 253 (0,0)));exact aQ ⟨v15,v16,v19,v20,_,rfl,fun h=>h2 (h.resolve_left (by decide)),fun h=>h3 (h.resolve_left (by decide)),fun h=>h6 (h.resolve_left (by decide)),fun _=>⟨_,rfl,hC.size,St.new _ _ _⟩,fun h=>h7 (h.resolve_left (by decide))⟩
 .rintro d a W hd hC ⟨v15,v16,v19,v20,v6,rfl,hJ⟩;obtain⟨bv,A6,c6,rfl,hbv,hsv,vO⟩:=hJ.2.2.2.2 (hd 7 (by simp));obtain⟨bo,rfl,qz,hso⟩:=hJ.2.2.2.1 (hd 8 (by simp));have t0:=hso.cell 0 rfl;have t1:=hso.cell 1 rfl;have u0:=hso.frozen 0;have u1:=hso.frozen 1;obtain⟨Wz,hWz⟩:∃Wz,Wz=(W.setCell ⟨bo,0,none⟩ (.slice (some ⟨bv,0,none⟩) n n)).setCell ⟨bo,1,none⟩ (.slice A6 n c6):=⟨_,rfl⟩
  have kz:Keeps (fun j=>j=bo) W Wz:=by rw[hWz];exact((Keeps.refl (fun j=>j=bo) W).setCell (a:=⟨bo,0,none⟩) (.inl rfl) _).setCell (a:=⟨bo,1,none⟩) (.inl rfl) _
  have sbz:St Wz bo 253 [.slice (some ⟨bv,0,none⟩) n n,.slice A6 n c6]:=by rw[hWz];exact(hso.set 0 _).set 1 _
  obtain⟨sp,sc,so,b2,hP⟩:=H2.out;have k2:Keeps (fun _=>False) w2 W:=Keeps.of_below hC;have aad:∀j,j<w2.heap.size->¬j=bo:=fun j hj e=>by omega
  have spz:=(sp.keep k2 id).keep kz (aad _ sp.lt);have soz:=(so.keep k2 id).keep kz (aad _ so.lt);have kwz:=(((Keeps.of_below (S:=fun _=>False) b2).trans k2 fun _ h=>h.elim).trans kz fun j e=>.inr (by have:=b2.size;omega))
  have cfz:lZ Wz (some ⟨bv,0,none⟩) A6 n n c6 (sV kd n 0) (sL kd n 0):=by
   have e1:sV kd n 0=aa n 0:=by unfold sV;split<;>simp
   have e2:sL kd n 0=aa n true:=by unfold sL;split<;>simp
   rw[e1,e2];refine⟨rA (hsv.keep kz fun e=>hsv.ne hso (by decide) e) (by simp[nums]) (by unfold maxLen;omega) (cx _),own_base' (kz.own vO fun j e e2=>hso.own_ne vO (by decide) j e e2) (cx _)⟩
  have H0:=Y1 (show Dq Wz Wz bv n c6 A6 (sV kd n 0) (sL kd n 0)from⟨cfz,Keeps.refl _ _⟩);have h6:=gB vO;have HG:=Y1 h6;have HS:=Y1 (fun (wr:aE) (hk:Keeps (fun j=>j=bv∨(ax A6 n c6).ownBlock=some j) Wz wr)=>(⟨spz.keep hk (fun h=>h.elim (fun e=>by have:=sp.lt;omega) fun e=>by have:=h6 _ e;have:=sp.lt;omega),soz.keep hk (fun h=>h.elim (fun e=>by have:=so.lt;omega) fun e=>by have:=h6 _ e;have:=so.lt;omega),
   sbz.keep hk (fun h=>h.elim (fun e=>hso.ne hsv (by decide) e) fun e=>hso.own_ne vO (by decide) _ e rfl),kwz.trans hk fun j h=>.inr (h.elim (fun e=>by have:=b2.size;omega) fun e=>by have:=h6 _ e;have:=b2.size;omega)⟩:
    St wr w.heap.size 24 [.int .i64 kd,.int .u32 (st:Nat)]∧St wr (w.heap.size+1+1) 253 [.slice none 0 0,.slice none 0 0]∧St wr bo 253 [.slice (some ⟨bv,0,none⟩) n n,.slice A6 n c6]∧Keeps (fun _=>False) w wr))
  have hb6:=b2.size;clear hd hJ hC hsv vO hso kz sp sc so b2 k2 aad spz soz kwz cfz H1 HQ h6 sbz;simp only[gu,aJ,ai,an,af,ag]
  go_wp2_with fail
  rw[<-hWz];clear hWz t0 t1 u0 u1
  go_loopg [24] n (fun kq v24 wr=>∃k:Nat,kq+k=n∧v24=.int .i64 (k:Nat)∧aG (Dq Wz wr bv n c6 A6 (sV kd n k) (sL kd n k)))
  case atStart=>exact⟨0,by omega,rfl,H0⟩
  case round=>
   obtain⟨k,hk,rfl,hA⟩:=hrel;obtain⟨sp,so,sb,hkw⟩:=HS.out wr hA.out.2;have p0:=sp.cell 0 rfl;have p1:=sp.cell 1 rfl;have q0:=sb.cell 0 rfl;have q1:=sb.cell 1 rfl;by_cases hlt:k<n
   .obtain⟨-,gl,-,rfl⟩:=hA.out.1.ends (by omega);obtain⟨f1,⟨u1,x1⟩,-⟩:=hA.out.spot hlt;obtain⟨k1,hk1⟩:∃k1,k1+(k+1)=n:=⟨n-(k+1),by omega⟩
    rcases hP with⟨rfl,hst⟩|⟨rfl,rfl⟩
    .clear sp so sb hkw
     go_wp2_with fail
     have hC0:∃V',Dq Wz wr bv n c6 (some ⟨gl,0,none⟩) V' (sL 1 n k)∧V'.set k never=sV 1 n (k+1):=⟨_,hA.out,by have:=Kk (kd:=1) hlt;rwa [if_pos rfl]at this⟩
     refine gy (fun W=>∃V',Dq Wz W bv n c6 (some ⟨gl,0,none⟩) V' (sL 1 n k)∧V'.set k never=sV 1 n (k+1)) 4 [0,2,3,5] [1,4] [([],[6]),([7],[8])] [9] (by kernel_rfl) (fun _ _ x _ _ h=>by cases x<;>exact h) (by obtain⟨V',h1,h2⟩:=hC0;exact⟨V',h1.drewN 1,h2⟩) (by kernel_rfl) ?_;clear hC0;simp only[gu,aJ,ai,an,af,ag]
     repeat (refine aI (fun K hK=>?_);go_simp;refine hK _ ?_;clear hK K)
     refine au ?_;refine ak (fun K hK=>?_);go_simp;refine⟨.slice (some ⟨bv,0,none⟩) n n,fun w' _ hw' _=>(by rw[(HS.out w' hw'.2).2.2.1.cell 0 rfl];rfl),hK _ ?_⟩;clear hK K;refine ak (fun K hK=>?_);go_simp;refine⟨.slice (some ⟨gl,0,none⟩) n c6,fun w' _ hw' _=>(by rw[(HS.out w' hw'.2).2.2.1.cell 1 rfl];rfl),hK _ ?_⟩;clear hK K;refine bD ?_;rintro W0 ⟨V',hV,he⟩;obtain⟨f1,⟨u1,x1⟩,f2⟩:=hV.spot hlt;obtain⟨f2,u2,x2⟩:=f2 never;have HB:=Y2 hV he;have hS2:=hV.set hlt never false;rw[he,Vw hlt]at hS2;have H5:=Y1 hS2;clear hV he hS2;refine aQ ?_
     repeat (refine aI (fun K hK=>?_);go_simp;refine hK _ ?_;clear hK K)
     refine au ?_;refine aH (fun K hK=>?_);go_simp;refine hK _ _ ⟨_,HB.out.1.Mr hlt never,by rw[cY];exact HB.out.2⟩ ?_;clear hK K;refine aQ ?_
     repeat (refine aI (fun K hK=>?_);go_simp;refine hK _ ?_;clear hK K)
     refine au ?_;have e9:(18446744073709551615:Int)=never:=rfl
     go_wp2_with fail
     go_roundg k1
     case measure=>omega
     case rel=>exact⟨k+1,hk1,rfl,H5⟩
    .have H5:=Y1 (hA.out.Mr hlt (k:Int));have e5:=Kk (kd:=2) hlt;rw[if_neg (by decide)]at e5;rw[e5]at H5;clear sp so sb hkw e5
     go_wp2_with fail
     go_roundg k1
     case measure=>omega
     case rel=>exact⟨k+1,hk1,rfl,H5⟩
   .obtain⟨e0,rfl⟩:gk=0∧n=k:=by omega
    clear e0;rcases hP with⟨rfl,hst⟩|⟨rfl,rfl⟩
    .obtain⟨-,gl,-,rfl⟩:=hA.out.1.ends (by omega);clear sp so sb hkw
     go_wp2_with fail
     have hC0:∃V',Dq Wz wr bv n c6 (some ⟨gl,0,none⟩) V' (sL 1 n n)∧V'.set st 0=iV 1 st n:=⟨_,hA.out,by have:=Rj 1 st n;rwa [if_pos rfl]at this⟩
     refine gy (fun W=>∃V',Dq Wz W bv n c6 (some ⟨gl,0,none⟩) V' (sL 1 n n)∧V'.set st 0=iV 1 st n) 4 [0,2,4,6] [1,3,5,7] [([],[8]),([9],[10])] [11] (by kernel_rfl) (fun _ _ x _ _ h=>by cases x<;>exact h) (by obtain⟨V',h1,h2⟩:=hC0;exact⟨V',h1.drewN 1,h2⟩) (by kernel_rfl) ?_;clear hC0;simp only[gu,aJ,ai,an,af,ag]
     repeat (refine aI (fun K hK=>?_);go_simp;refine hK _ ?_;clear hK K)
     refine au ?_;refine ak (fun K hK=>?_);go_simp;refine⟨.slice (some ⟨bv,0,none⟩) n n,fun w' _ hw' _=>(by rw[(HS.out w' hw'.2).2.2.1.cell 0 rfl];rfl),hK _ ?_⟩;clear hK K;refine ak (fun K hK=>?_);go_simp;refine⟨.int .u32 (st:Nat),fun w' _ hw' _=>(by rw[(HS.out w' hw'.2).1.cell 1 rfl];rfl),hK _ ?_⟩;clear hK K;refine ak (fun K hK=>?_);go_simp;refine⟨.slice (some ⟨gl,0,none⟩) n c6,fun w' _ hw' _=>(by rw[(HS.out w' hw'.2).2.2.1.cell 1 rfl];rfl),hK _ ?_⟩;clear hK K;refine ak (fun K hK=>?_);go_simp;refine⟨.int .u32 (st:Nat),fun w' _ hw' _=>(by rw[(HS.out w' hw'.2).1.cell 1 rfl];rfl),hK _ ?_⟩;clear hK K;refine bD ?_;rintro W0 ⟨V',hV,he⟩;obtain⟨f1,⟨u1,x1⟩,f2⟩:=hV.spot hst;obtain⟨f2,u2,x2⟩:=f2 0;have HB:=Y2 hV he;have hS2:=hV.set hst 0 true;have eL:=Rk 1 st n;rw[if_pos rfl]at eL;rw[he,eL]at hS2;have H5:=Y1 hS2;clear hV he hS2;refine aQ ?_
     repeat (refine aI (fun K hK=>?_);go_simp;refine hK _ ?_;clear hK K)
     refine au ?_;refine aH (fun K hK=>?_);go_simp;refine hK _ _ ⟨_,HB.out.1.Mr hst 0,by rw[cY];exact HB.out.2⟩ ?_;clear hK K;refine aQ ?_
     repeat (refine aI (fun K hK=>?_);go_simp;refine hK _ ?_;clear hK K)
     refine au ?_;have q3:=(HS.out _ H5.out.2).2.2.1;have q4:=(HS.out _ H5.out.2).2.1;have y0:=q3.cell 0 rfl;have y1:=q3.cell 1 rfl;have z0:=q4.cell 0 rfl;have z1:=q4.cell 1 rfl;have z2:=q4.frozen 0;have z3:=q4.frozen 1;clear q3 q4
     go_wp2_with fail
     have hH:=H5.out;obtain⟨W5,ZJ⟩:∃W5,Dq Wz W5 bv n c6 (some ⟨gl,0,none⟩) (iV 1 st n) (jE 1 st n)∧((W0.setCell ⟨bv,st,none⟩ (.int .u64 0)).setCell ⟨gl,st,none⟩ (.bool true))=W5:=⟨_,hH,rfl⟩
     rw[ZJ.2];obtain⟨⟨cf5,Rl⟩,-⟩:=ZJ;obtain⟨-,s4,-,kw⟩:=HS.out _ Rl;have s5:=(s4.set 0 (.slice (some ⟨bv,0,none⟩) n n)).set 1 (.slice (some ⟨gl,0,none⟩) n c6);have KK:∀(S:Nat->Prop),S (w.heap.size+1+1)->Keeps S W5 ((W5.setCell ⟨w.heap.size+1+1,0,none⟩ (.slice (some ⟨bv,0,none⟩) n n)).setCell ⟨w.heap.size+1+1,1,none⟩ (.slice (some ⟨gl,0,none⟩) n c6)):=fun S hS=>((Keeps.refl S W5).setCell (a:=⟨w.heap.size+1+1,0,none⟩) (.inl hS) _).setCell (a:=⟨w.heap.size+1+1,1,none⟩) (.inl hS) _
     refine bodyPost_ret (dX rfl _ _ (w.heap.size+1+1) 253 #[.slice (some ⟨bv,0,none⟩) n n,.slice (some ⟨gl,0,none⟩) n c6] (0,0) _ rfl s5 ca rfl (by kernel_rfl)) rfl ?_;refine⟨some ⟨bv,0,none⟩,n,(some ⟨gl,0,none⟩),c6,rfl,cf5.keep (KK (fun j=>j=w.heap.size+1+1) rfl) (fun a ha e=>?_),fun a ha=>?_,(kw.trans (KK (fun j=>j=w.heap.size+1+1) rfl) fun j e=>.inr (by omega)).eG fun _ _ h=>h⟩
     .rcases ha with h|h
      .cases h;exact s4.own_ne cf5.v (by decide) _ rfl e
      .first|cases h|subst h
       exact s4.own_ne cf5.l (by decide) _ rfl e
     .rcases ha with h|h
      .cases h;show w.heap.size<=bv;omega
      .first|cases h|subst h
       have:=HG.out _ rfl;exact aq hb6 this
    .have H5:=hA;have eV:=Rj 2 0 n;have eL:=Rk 2 0 n;rw[if_neg (by decide)]at eV eL;rw[eV,eL]at H5;clear sp so sb hkw hA;have q3:=(HS.out _ H5.out.2).2.2.1;have q4:=(HS.out _ H5.out.2).2.1;have y0:=q3.cell 0 rfl;have y1:=q3.cell 1 rfl;have z0:=q4.cell 0 rfl;have z1:=q4.cell 1 rfl;have z2:=q4.frozen 0;have z3:=q4.frozen 1;clear q3 q4
     go_wp2_with fail
     have hH:=H5.out;obtain⟨W5,ZJ⟩:∃W5,Dq Wz W5 bv n c6 A6 (iV 2 0 n) (jE 2 0 n)∧wr=W5:=⟨wr,hH,rfl⟩
     rw[ZJ.2];obtain⟨⟨cf5,Rl⟩,-⟩:=ZJ;obtain⟨-,s4,-,kw⟩:=HS.out _ Rl;have s5:=(s4.set 0 (.slice (some ⟨bv,0,none⟩) n n)).set 1 (.slice A6 n c6);have KK:∀(S:Nat->Prop),S (w.heap.size+1+1)->Keeps S W5 ((W5.setCell ⟨w.heap.size+1+1,0,none⟩ (.slice (some ⟨bv,0,none⟩) n n)).setCell ⟨w.heap.size+1+1,1,none⟩ (.slice A6 n c6)):=fun S hS=>((Keeps.refl S W5).setCell (a:=⟨w.heap.size+1+1,0,none⟩) (.inl hS) _).setCell (a:=⟨w.heap.size+1+1,1,none⟩) (.inl hS) _
     refine bodyPost_ret (dX rfl _ _ (w.heap.size+1+1) 253 #[.slice (some ⟨bv,0,none⟩) n n,.slice A6 n c6] (0,0) _ rfl s5 ca rfl (by kernel_rfl)) rfl ?_;refine⟨some ⟨bv,0,none⟩,n,A6,c6,rfl,cf5.keep (KK (fun j=>j=w.heap.size+1+1) rfl) (fun a ha e=>?_),fun a ha=>?_,(kw.trans (KK (fun j=>j=w.heap.size+1+1) rfl) fun j e=>.inr (by omega)).eG fun _ _ h=>h⟩
     .rcases ha with h|h
      .cases h;exact s4.own_ne cf5.v (by decide) _ rfl e
      .first|cases h|subst h
       exact s4.own_ne cf5.l (by decide) _ rfl e
     .rcases ha with h|h
      .cases h;show w.heap.size<=bv;omega
      .first|cases h|subst h
       have:=HG.out _ rfl;exact aq hb6 this
 .simp only[gu,aJ,ai,an,af,ag]
  repeat (refine aI (fun K hK=>?_);go_simp;refine hK _ ?_;clear hK K)
  refine au ?_;refine ak (fun K hK=>?_);go_simp;refine⟨.int .i64 (n:Nat),fun w' hw'=>(by rw[HQ.out w' hw'];rfl),hK _ ?_⟩;clear hK K;refine ak (fun K hK=>?_);go_simp;refine⟨.int .i64 (n:Nat),fun w' hw'=>(by rw[HQ.out w' hw'];rfl),hK _ ?_⟩;clear hK K;refine bD ?_;intro W hW;exact⟨_,_,_,_,_,rfl,fun h=>h.elim,fun h=>h.elim,fun h=>h.elim,fun h=>h.elim,fun h=>h.elim⟩
variable {ad:cE}
theorem Rm{L:List (List Int)}(h:Kd.C (Kd.slice 5 (Kd.int .u8)) w (some ad) n L){j:Nat}{t:List Int}(hj:L[j]? =some t):∃A c,w.cell? (ad.add j)=some (.slice A t.length c)∧t.length<=c∧Kd.C (Kd.int .u8) w A t.length t:=by
 have hjl:=(aw.1 hj).1;obtain⟨ad',e,hcc⟩:=h.2.2 (by have:=h.1;omega);cases e;obtain⟨c,hcl,hk,hcell⟩:=hcc j _ hj;obtain⟨A,c',rfl,h1,h2⟩:=hk;have:=hcell 0 _ rfl;exact⟨A,c',by simpa[Kd.slice]using this,h1,h2⟩
theorem BG{v:cz}{l t:List Int}(ho:w.ownsRow base 5 1 v l.length (nums .u8 l))(hb:base<=w.heap.size)(hC:Kd.C (Kd.int .u8) w A t.length t)(ht:0<t.length)(hl:l.length+t.length<1000000):
 ∃v' w',(Builtin.append_ #[40,40] 40 #[v,.slice A t.length c]).run ab w=.ok v' w'∧w'.ownsRow base 5 1 v' (l++t).length (nums .u8 (l++t))∧w.grownBy w' v.ownBlock:=by
 obtain⟨ad,rfl,hcc⟩:=hC.2.2 ht;obtain⟨i0,hi,hz0,hz1,hz2⟩:=info_parts info5;obtain⟨v',w',h1,h2,h3,h4⟩:=iB (P:=ab) w base 40 40 5 i0 (.int .u8 0) 1 1 underlying40 hi hz0 hz1 hz2 rfl (by decide) v l.length (nums .u8 l) ho ad t.length c (nums .u8 t) (by simp[nums]) (fun j u hj=>by
  have hjt:j<t.length:=by simpa[nums]using(aw.1 hj).1
  obtain⟨cs,h1,h2,h3⟩:=hcc j _ (bb hjt);have h2':cs=[.int .u8 t[j]]:=h2;have:=h3 0 (.int .u8 t[j]) (by rw[h2'];rfl);rw[show j*(Kd.int .u8).sz+0=j from Nat.mul_one j]at this;rw[this,<-hj];simp[nums,hjt]) (fun u hu=>by
  obtain⟨x,-,rfl⟩:=cI.1 hu;rfl) (by unfold maxLen;omega) (by omega) hb
 exact⟨v',w',h1,by simpa[nums]using h2,h3⟩
theorem Vy(t:List Int):0<(enc t).length:=by rw[eH];omega
variable {ts:List (List Int)}
theorem aae(hA:Kd.C (Kd.slice 5 (Kd.int .u8)) w A ts.length ts)(hn:ts.length=n)(hb:∀t∈ts,Bytes t∧t.length<=1000)(hl:n<=100):
 ba ab 230 #[.slice A n c] w fun e w'=>∃A' c',e=.returned (.tuple #[.slice A' (encs ts).length c',.int .i64 0])∧vU w w' A' (encs ts).length c' (encs ts)∧al w.heap.size w w':=by
 have HC:=Y3 hA hn hb;have H0:=Y1 (show w.ownsRow w.heap.size 5 1 (.slice none 0 0) (encs (ts.take 0)).length (nums .u8 (encs (ts.take 0)))∧al w.heap.size w w from⟨cM w _ 5 1,az _ _⟩);clear hA hn hb;go_enter func230,ntmps230
 go_wp2_with fail
 go_loopg [4,11] n (fun kq v4 v11 wr=>∃k:Nat,kq+k=n∧v11=.int .i64 (k:Nat)∧aG (wr.ownsRow w.heap.size 5 1 v4 (encs (ts.take k)).length (nums .u8 (encs (ts.take k)))∧al w.heap.size w wr))
 case atStart=>exact⟨0,by omega,rfl,H0⟩
 case round=>
  obtain⟨k,hk,rfl,hW⟩:=hrel;by_cases hlt:k<n
  .obtain⟨hA,hn,hb⟩:=HC.out;obtain⟨t,ht⟩:∃t,ts[k]? =some t:=⟨_,bb (by omega)⟩
   obtain⟨ad,rfl,-⟩:=hA.2.2 (by omega);obtain⟨At,ct,hc,hct,hCt⟩:=Rm (Kd.bM hA hW.out.2) ht;obtain⟨hbt,hlt2⟩:=hb t (List.mem_of_getElem? ht);have hE:=PD hCt hct hbt hlt2;have hsum:(encs (ts.take k)).length<=1006*k:=by
    refine aq (yA fun t h=>(hb t (List.mem_of_mem_take h)).2) (Nat.mul_le_mul_left _ ?_);simp;omega
   have hnext:encs (ts.take (k+1))=encs (ts.take k)++enc t:=by
    rw[List.take_add_one,ht,Oct.Eu];simp[Oct.encs]
   have HN:=Y3 hsum hnext hlt2;obtain⟨k1,hk1⟩:∃k1,k1+(k+1)=n:=⟨n-(k+1),by omega⟩
   clear hA hn hb hCt hbt hsum hnext ht
   go_wp2_with fail
   refine hE.mono ?_;clear hE;rintro e w2 ⟨A2,c2,rfl,hR2,hb2⟩;obtain⟨ho,hbw⟩:=hW.out;obtain⟨hsum,hnext,hl2⟩:=HN.out;obtain⟨v3,w3,hrun,ho3,hg3⟩:=BG (c:=c2) (fq ho fun j hj=>hb2.block j (bJ ho j hj)) (aq hbw.size hb2.size) hR2.C (Vy t) (by rw[eH];omega);have H3:=Y1 (show w3.ownsRow w.heap.size 5 1 v3 (encs (ts.take (k+1))).length (nums .u8 (encs (ts.take (k+1))))∧al w.heap.size w w3 from⟨by rw[hnext];exact ho3,(((Keeps.of_below (S:=fun _=>False) hbw).trans (Keeps.of_below (S:=fun _=>False) hb2) fun _ h=>h.elim).grown hg3 fun i hi=>.inr (gB ho i hi)).eG fun _ _ h=>h⟩);clear ho hbw hsum hnext hR2 hb2 ho3 hg3
   go_wp2_with (at_builtin;refine dh rfl _ _ 40 40 rfl (by simp[a_]) (by simp[a_]) hrun ?_;clear hrun)
   go_roundg k1
   case measure=>omega
   case rel=>exact⟨k+1,hk1,rfl,H3⟩
  .obtain rfl:k=n:=by omega
   obtain⟨ho,hb⟩:=hW.out;rw[cC (by have:=HC.out.2.1;omega)]at ho;obtain⟨A4,c4,rfl⟩:=aW ho;have H4:=Y2 ho hb;clear ho hb hW
   go_wp2_with fail
   go_ret2
   exact⟨_,_,rfl,⟨rfl,H4.out.1⟩,H4.out.2⟩
theorem sz8:sz 8=8:=rfl
def Vz(V:List Int)(L:List Bool)(i:Nat):List Int:=le 8 (V.getD i 0)++[if L.getD i false=true then 1 else 0]
def stx(V:List Int)(L:List Bool)(k:Nat):List Int:=(cU k).flatMap (Vz V L)
theorem y7(V:List Int)(L:List Bool)(k:Nat):stx V L (k+1)=stx V L k++Vz V L k:=by simp[stx,cN]
theorem y8(V:List Int)(L:List Bool)(i:Nat):(Vz V L i).length=9:=by simp[Vz,bB]
theorem fZ(V:List Int)(L:List Bool)(k:Nat):(stx V L k).length=9*k:=by
 induction k with
 |zero=>rfl
 |succ k ih=>rw[y7,cm,ih,y8];omega
theorem Ms(V:List Int)(L:List Bool)(i:Nat):Bytes (Vz V L i):=(iO 8 _).append fun y hy=>by
 rw[cH.1 hy];split<;>omega
theorem vF(V:List Int)(L:List Bool)(k:Nat):Bytes (stx V L k):=by
 induction k with
 |zero=>intro x hx;cases hx
 |succ k ih=>rw[y7];exact ih.append (Ms V L k)
def iQ(st n:Nat):List Int:=le 8 (st:Int)++le 8 (n:Int)
theorem kD(st n:Nat):(iQ st n).length=16:=by simp[iQ,bB]
theorem qB(st n:Nat):Bytes (iQ st n):=(iO 8 _).append (iO 8 _)
def kE(st n:Nat)(V:List Int)(L:List Bool):List (List Int):=iQ st n::if n=0 then[]else[stx V L n]
def mP(st n:Nat)(V:List Int)(L:List Bool):List Int:=Oct.encs (kE st n V L)
theorem aaf(w:aE)(a b:Nat)(ha:a<9223372036854775808)(hb:b<9223372036854775808):ba ab 229 #[.int .i64 (a:Nat),.int .i64 (b:Nat)] w fun e w'=>∃A c,e=.returned (.slice A (iQ a b).length c)∧vU w w' A (iQ a b).length c (iQ a b)∧al w.heap.size w w':=by
 have hp:kK.f 20 (a:Nat) (b:Nat)=some (iQ a b):=by
  unfold kK.f iQ;rw[GU 20 [] 8 _ (by simp) (by omega)];simp only[Option.bind_some];rw[GU 20 _ 8 _ (by simp[bB,sz8]) (by omega),u64_in (by omega) (by omega),u64_in (by omega) (by omega)];simp[sz8]
 refine(kK.calls 20 _ _ _ w hp).mono ?_;rintro e w3 ⟨v3,rfl,ho3,hb3⟩;obtain⟨A3,c3,rfl⟩:=qm ho3;exact⟨A3,c3,rfl,.Pz ho3,hb3⟩
theorem Rn(h:∀j t,ts[j]? =some t->∃A c,w.cell? (ad.add j)=some (.slice A t.length c)∧t.length<=c∧Kd.C (Kd.int .u8) w A t.length t)(hn:ts.length<=1000):Kd.C (Kd.slice 5 (Kd.int .u8)) w (some ad) ts.length ts:=by
 refine⟨rfl,by omega,fun _=>⟨_,rfl,fun j p hj=>?_⟩⟩;obtain⟨A,c,h1,h2,h3⟩:=h j p hj;refine⟨[.slice A p.length c],rfl,⟨A,c,rfl,h2,h3⟩,fun i u hu=>?_⟩;have hi:i=0:=by have:=(aw.1 hu).1;simpa using this
 subst hi;obtain rfl:ax A p.length c=u:=by simpa using hu
 simpa[Kd.slice]using h1
theorem Cm:(ab.info? 40).map (fun i=>(i.zero,i.size,i.bytes))=some (some (.slice none 0 0),1,24):=by kernel_rfl
theorem y9{A0:Option cE}{c0:Nat}{t0 t1:List Int}(hg:w.cell? ⟨g,0,none⟩=some (.slice A0 t0.length c0))(h0:Kd.C (Kd.int .u8) w A0 t0.length t0)(hc0:t0.length<=c0)(h1:Kd.C (Kd.int .u8) w A1 t1.length t1)(hc1:t1.length<=c1):
 ∃ad c w',(Builtin.append_ #[221,221] 221 #[.slice (some ⟨g,0,none⟩) 1 1,.slice (some ⟨w.heap.size,0,none⟩) 1 1]).run ab (w.alloc (.cells #[.slice A1 t1.length c1] 40 (0,0)))=.ok (.slice (some ad) 2 c) w'∧
  Kd.C (Kd.slice 5 (Kd.int .u8)) w' (some ad) 2 [t0,t1]∧al w.heap.size w w':=by
 obtain⟨i0,hi,hz0,hz1,hz2⟩:=info_parts Cm;have hb1:al w.heap.size w (w.alloc (.cells #[.slice A1 t1.length c1] 40 (0,0))):=(az _ w).alloc (ae _) _;have hlt:g<w.heap.size:=ao w _ hg;have h:=run_append_grow (P:=ab) (w.alloc (.cells #[.slice A1 t1.length c1] 40 (0,0))) 221 221 40 i0 (.slice none 0 0) underlying221 hi hz0 ⟨g,0,none⟩ 1 1 [.slice A0 t0.length c0] (by simp[hz1]) (fun j v hv=>by
  match j,hv with
  |0,hv=>cases hv;exact(hb1.cell (p:=⟨g,0,none⟩) hlt).trans hg) ⟨w.heap.size,0,none⟩ 1 1 [.slice A1 t1.length c1] (by simp[hz1]) (fun j v hv=>by
  match j,hv with
  |0,hv=>cases hv;exact(St.new w 40 #[.slice A1 t1.length c1]).cell 0 rfl) (by omega) (by omega) (by
   rw[hz2];exact growslice_fits (by omega) (by omega))
 obtain⟨w1,hw1⟩:=ex (w.alloc (.cells #[.slice A1 t1.length c1] 40 (0,0)))
 rw[<-hw1]at h hb1⊢;obtain⟨zs,hzs⟩:∃zs:Array cz,zs=Builtin.zeroCells (ax none 0 0).cells (grownCap w1 (1+1) 1 40-(1+1)):=⟨_,rfl⟩
 rw[<-hzs]at h;have hs:=St.new w1.drew 40 (([ax A0 t0.length c0]:List cz).toArray++([ax A1 t1.length c1]:List cz).toArray++zs);have hb2:al w.heap.size w (w1.drew.alloc (.cells (([ax A0 t0.length c0]:List cz).toArray++([ax A1 t1.length c1]:List cz).toArray++zs) 40 (0,0))):=(below_drewN hb1 1).alloc hb1.size _;refine⟨_,_,_,h,?_,hb2⟩;refine Rn (ts:=[t0,t1]) (fun j t hj=>?_) (by simp)
 match j,hj with
 |0,hj=>
  cases hj;exact⟨A0,c0,hs.cell 0 (by simp),hc0,Kd.bM h0 hb2⟩
 |1,hj=>
  cases hj;exact⟨A1,c1,hs.cell 1 (by simp),hc1,Kd.bM h1 hb2⟩
def Mt(w wr:aE)(n st:Nat)(V:List Int)(L:List Bool)(k:Nat)(v7 v8:cz):Prop:=
 al w.heap.size w wr∧
  ((k<n∨n=0)->∃g A c,v7=.slice (some ⟨g,0,none⟩) 1 1∧wr.cell? ⟨g,0,none⟩=some (.slice A (iQ st n).length c)∧(iQ st n).length<=c∧Kd.C (Kd.int .u8) wr A (iQ st n).length (iQ st n)∧∃A8 c8,v8=.slice A8 (9*k) c8∧Kd.C (Kd.int .u8) wr A8 (9*k) (stx V L k)∧9*k<=c8)∧
  ((k=n∧0<n)->∃ad c,v7=.slice (some ad) 2 c∧Kd.C (Kd.slice 5 (Kd.int .u8)) wr (some ad) 2 [iQ st n,stx V L n])
theorem adB(w:aE)(b:Int):Kd.C (Kd.int .u8) (w.alloc (.cells #[.int .u8 b] 5 (0,0))) (some ⟨w.heap.size,0,none⟩) 1 [b]:=by
 have:=rA (n:=1) (St.new w 5 #[.int .u8 b]) rfl (by unfold maxLen;omega) (cx _);exact Kd.dP (d:=(0:Int)) (gD (show World.ownsRow _ 0 5 1 (.slice (some ⟨w.heap.size,0,none⟩) 1 1) 1 (nums .u8 [b])from this))
theorem xA{wr w4:aE}{c4:Nat}{A4:Option cE}{x b:Int}(hR:vU wr w4 A4 (stx V L k++le (sz 8) x).length c4 (stx V L k++le (sz 8) x))(hb:al wr.heap.size wr w4)(hx:x=V.getD k 0)(hbit:b=if L.getD k false=true then 1 else 0)(hk:k<=1000):
 ∃A5 c5 w6,(Builtin.append_ #[40,40] 40 #[.slice A4 (stx V L k++le (sz 8) x).length c4,.slice (some ⟨w4.heap.size,0,none⟩) 1 1]).run ab (w4.alloc (.cells #[.int .u8 b] 5 (0,0)))=.ok (.slice A5 (9*(k+1)) c5) w6∧
  Kd.C (Kd.int .u8) w6 A5 (9*(k+1)) (stx V L (k+1))∧9*(k+1)<=c5∧al wr.heap.size wr w6:=by
 have hb5:al wr.heap.size wr (w4.alloc (.cells #[.int .u8 b] 5 (0,0))):=hb.alloc hb.size _;have ho:(w4.alloc (.cells #[.int .u8 b] 5 (0,0))).ownsRow wr.heap.size 5 1 (.slice A4 (stx V L k++le (sz 8) x).length c4) (stx V L k++le (sz 8) x).length (nums .u8 (stx V L k++le (sz 8) x)):=hR.2.alloc _;obtain⟨v6,w6,h1,h2,h3⟩:=BG (c:=1) (t:=[b]) ho hb5.size (adB w4 b) (by simp) (by rw[cm,fZ,bB];simp[sz8];omega);have e:(stx V L k++le (sz 8) x)++[b]=stx V L (k+1):=by
  rw[y7,hx,hbit,bz];rfl
 rw[e]at h2;obtain⟨A5,c5,rfl⟩:=aW h2;have hl:=fZ V L (k+1);rw[hl]at h1 h2;have hRs:vU wr w6 A5 (9*(k+1)) c5 (stx V L (k+1)):=⟨hl,h2⟩
 exact⟨A5,c5,w6,h1,hRs.C,hRs.cap,((Keeps.of_below (S:=fun _=>False) hb5).grown h3 fun i hi=>.inr (gB ho i hi)).eG fun _ _ h=>h⟩
theorem BH{st:Nat}(hc:lZ w AV AL n cv cl V L)(hn:n<=50)(hst:st<=100000):
 ba ab 201 #[.int .i64 (st:Nat),.agg #[.slice AV n cv,.slice AL n cl]] w fun e w'=>∃A c,e=.returned (.tuple #[.slice A (mP st n V L).length c,.int .i64 0])∧vU w w' A (mP st n V L).length c (mP st n V L)∧al w.heap.size w w':=by
 obtain⟨w1,hw1⟩:=ex (w.alloc (.cells #[.slice AV n cv,.slice AL n cl] 253 (0,0)))
 have b1:al w.heap.size w w1:=by rw[hw1];exact(az _ w).alloc (ae _) _
 have s1:St w1 w.heap.size 253 [.slice AV n cv,.slice AL n cl]:=by rw[hw1];exact St.new _ _ _
 have c0:=s1.cell 0 rfl;have c1:=s1.cell 1 rfl;have hp:=aaf w1 st n (by omega) (by omega);have z1:¬(st:Int)<0:=by omega
 have z2:¬(1048576:Int)<n:=by omega
 have H1:=Y3 b1 s1 hc;clear b1 s1 hc;go_enter func201,ntmps201
 go_wp2_with fail
 rw[<-hw1];refine hp.mono ?_;clear hp;rintro e w2 ⟨Ah,ch,rfl,hR2,hb2⟩;obtain⟨b1,s1,hc⟩:=H1.out;obtain⟨w3,hw3⟩:=ex (w2.alloc (.cells #[.slice Ah (iQ st n).length ch] 40 (0,0)))
 have b2:=b1.trans (hb2.mono b1.size);have b23:al w2.heap.size w2 w3:=by rw[hw3];exact(az _ w2).alloc (ae _) _
 have b3:=b2.trans (b23.mono b2.size);have sg:St w3 w2.heap.size 40 [.slice Ah (iQ st n).length ch]:=by rw[hw3];exact St.new _ _ _
 have s3:=(s1.keep (Keeps.of_below (S:=fun _=>False) hb2) id).keep (Keeps.of_below (S:=fun _=>False) b23) id;have d0:=s3.cell 0 rfl;have d1:=s3.cell 1 rfl;have H3:=Y1 (show Mt w3 w3 n st V L 0 (.slice (some ⟨w2.heap.size,0,none⟩) 1 1) (.slice none 0 0)from⟨az _ _,fun _=>⟨_,Ah,ch,rfl,sg.cell 0 rfl,hR2.cap,Kd.bM hR2.C b23,none,0,rfl,Kd.xJ _ _,by omega⟩,fun h=>by omega⟩);have HS:=Y3 s3 (hc.keep (Keeps.of_below (S:=fun _=>False) b3) fun _ _=>id) b3;rw[hw3]at d0 d1;clear b1 s1 hc hR2 hb2 b2 b23 b3 sg s3 c0 c1 hw1
 go_wp2_with fail
 rw[<-hw3];clear d0 d1 hw3
 go_loopg [7,8,35] n (fun kq v7 v8 v35 wr=>∃k:Nat,kq+k=n∧v35=.int .i64 (k:Nat)∧aG (Mt w3 wr n st V L k v7 v8))
 case atStart=>exact⟨0,by omega,rfl,H3⟩
 case round=>
  obtain⟨k,hk,rfl,hA⟩:=hrel;by_cases hlt:k<n
  .obtain⟨hbw,hE,-⟩:=hA.out;obtain⟨g,Ah,ch,rfl,hg,hch,Ga,A8,c8,rfl,Jy,hc8⟩:=hE (.inl hlt);obtain⟨s3,hc,b3⟩:=HS.out;have hcr:=hc.keep (Keeps.of_below (S:=fun _=>False) hbw) fun _ _=>id
   obtain⟨gv,gl,rfl,rfl⟩:=hc.ends (by omega);obtain⟨cV,cL,-,-⟩:=hcr.spot hlt;obtain⟨x,hx⟩:=ex (V.getD k 0)
   obtain⟨y,hy⟩:=ex (L.getD k false)
   rw[<-hx]at cV;rw[<-hy]at cL;have hP:=Ew (A:=A8) (c:=c8) (l:=stx V L k) (w:=wr) (by rw[fZ];exact Jy) (by rw[fZ];exact hc8) 8 x (by rw[fZ];omega);rw[fZ]at hP;have sr:=(s3.keep (Keeps.of_below (S:=fun _=>False) hbw) id)
   have q0:=sr.cell 0 rfl;have q1:=sr.cell 1 rfl;obtain⟨k1,hk1⟩:∃k1,k1+(k+1)=n:=⟨n-(k+1),by omega⟩
   have HX:=Y6 hbw hg hch Ga hx hy;clear hbw hE hg hch Ga Jy hcr s3 hc b3 hx hy sr;obtain⟨m1,hm1⟩:∃m1,m1=9*(k+1):=⟨_,rfl⟩
   have hm9:¬(m1:Int)=900:=by omega
   have ah1:=beq_eq_false_iff_ne.2 hm9;have HM:=Y1 hm1;clear hm1;by_cases hl:k+1=n
   .have hkn:(n:Int)-1=(k:Int):=by omega
    cases y with
    |false=>
     go_wp2_with fail
     refine hP.mono ?_;clear hP;rintro e w4 ⟨A4,c4,rfl,uE,hb4⟩;obtain⟨hbw,hg,hch,Ga,hx,hy⟩:=HX.out;have hm1:=HM.out;obtain⟨A5,c5,w6,hrun,Dy,hc6,hb6⟩:=xA (b:=0) uE hb4 hx (by rw[<-hy];rfl) (by omega);rw[<-hm1]at hrun Dy hc6;obtain⟨l4,hl4⟩:∃l4,l4=(stx V L k++le (sz 8) x).length:=⟨_,rfl⟩
     rw[<-hl4]at hrun⊢;have Zo:=(hb6.cell (p:=⟨g,0,none⟩) (ao wr _ hg)).trans hg;have el:(stx V L (k+1)).length=m1:=by rw[fZ,hm1]
     obtain⟨ad,ct,w8,za,Jy,Mv⟩:=y9 (A1:=A5) (c1:=c5) (t1:=stx V L (k+1)) Zo (Kd.bM Ga hb6) hch (by rw[el];exact Dy) (by rw[el];exact hc6);rw[el]at za;have H8:=Y1 (show Mt w3 w8 n st V L (k+1) (.slice (some ad) 2 ct) (.slice none 0 0)from⟨(hbw.trans (hb6.mono hbw.size)).trans (Mv.mono (hbw.trans (hb6.mono hbw.size)).size),fun h=>by omega,fun _=>⟨ad,ct,rfl,by have h:=Jy;rw[hl]at h;exact h⟩⟩);clear hl4 hm1 uE hb4 hbw hg hch Ga hx hy Dy hc6 hb6 Zo el Jy Mv
     go_wp2_with (at_builtin;first|(refine dh rfl _ _ 40 40 rfl (by simp[a_]) (by simp[a_]) hrun ?_;clear hrun)|(refine dh rfl _ _ 221 221 rfl (by simp[a_]) (by simp[a_]) za ?_;clear za))
     go_roundg k1
     case measure=>omega
     case rel=>exact⟨k+1,hk1,rfl,H8⟩
    |true=>
     go_wp2_with fail
     refine hP.mono ?_;clear hP;rintro e w4 ⟨A4,c4,rfl,uE,hb4⟩;obtain⟨hbw,hg,hch,Ga,hx,hy⟩:=HX.out;have hm1:=HM.out;obtain⟨A5,c5,w6,hrun,Dy,hc6,hb6⟩:=xA (b:=1) uE hb4 hx (by rw[<-hy];rfl) (by omega);rw[<-hm1]at hrun Dy hc6;obtain⟨l4,hl4⟩:∃l4,l4=(stx V L k++le (sz 8) x).length:=⟨_,rfl⟩
     rw[<-hl4]at hrun⊢;have Zo:=(hb6.cell (p:=⟨g,0,none⟩) (ao wr _ hg)).trans hg;have el:(stx V L (k+1)).length=m1:=by rw[fZ,hm1]
     obtain⟨ad,ct,w8,za,Jy,Mv⟩:=y9 (A1:=A5) (c1:=c5) (t1:=stx V L (k+1)) Zo (Kd.bM Ga hb6) hch (by rw[el];exact Dy) (by rw[el];exact hc6);rw[el]at za;have H8:=Y1 (show Mt w3 w8 n st V L (k+1) (.slice (some ad) 2 ct) (.slice none 0 0)from⟨(hbw.trans (hb6.mono hbw.size)).trans (Mv.mono (hbw.trans (hb6.mono hbw.size)).size),fun h=>by omega,fun _=>⟨ad,ct,rfl,by have h:=Jy;rw[hl]at h;exact h⟩⟩);clear hl4 hm1 uE hb4 hbw hg hch Ga hx hy Dy hc6 hb6 Zo el Jy Mv
     go_wp2_with (at_builtin;first|(refine dh rfl _ _ 40 40 rfl (by simp[a_]) (by simp[a_]) hrun ?_;clear hrun)|(refine dh rfl _ _ 221 221 rfl (by simp[a_]) (by simp[a_]) za ?_;clear za))
     go_roundg k1
     case measure=>omega
     case rel=>exact⟨k+1,hk1,rfl,H8⟩
   .have hkn:((k:Int)==(n:Int)-1)=false:=beq_eq_false_iff_ne.2 (by omega);cases y with
    |false=>
     go_wp2_with fail
     refine hP.mono ?_;clear hP;rintro e w4 ⟨A4,c4,rfl,uE,hb4⟩;obtain⟨hbw,hg,hch,Ga,hx,hy⟩:=HX.out;have hm1:=HM.out;obtain⟨A5,c5,w6,hrun,Dy,hc6,hb6⟩:=xA (b:=0) uE hb4 hx (by rw[<-hy];rfl) (by omega);rw[<-hm1]at hrun Dy hc6;obtain⟨l4,hl4⟩:∃l4,l4=(stx V L k++le (sz 8) x).length:=⟨_,rfl⟩
     rw[<-hl4]at hrun⊢;have H8:=Y1 (show Mt w3 w6 n st V L (k+1) (.slice (some ⟨g,0,none⟩) 1 1) (.slice A5 m1 c5)from⟨hbw.trans (hb6.mono hbw.size),fun _=>⟨g,Ah,ch,rfl,(hb6.cell (p:=⟨g,0,none⟩) (ao wr _ hg)).trans hg,hch,Kd.bM Ga hb6,A5,c5,by rw[hm1],by rw[<-hm1];exact Dy,by rw[<-hm1];exact hc6⟩,fun h=>by omega⟩);clear hl4 hm1 uE hb4 hbw hg hch Ga hx hy Dy hc6 hb6
     go_wp2_with (at_builtin;refine dh rfl _ _ 40 40 rfl (by simp[a_]) (by simp[a_]) hrun ?_;clear hrun)
     go_roundg k1
     case measure=>omega
     case rel=>exact⟨k+1,hk1,rfl,H8⟩
    |true=>
     go_wp2_with fail
     refine hP.mono ?_;clear hP;rintro e w4 ⟨A4,c4,rfl,uE,hb4⟩;obtain⟨hbw,hg,hch,Ga,hx,hy⟩:=HX.out;have hm1:=HM.out;obtain⟨A5,c5,w6,hrun,Dy,hc6,hb6⟩:=xA (b:=1) uE hb4 hx (by rw[<-hy];rfl) (by omega);rw[<-hm1]at hrun Dy hc6;obtain⟨l4,hl4⟩:∃l4,l4=(stx V L k++le (sz 8) x).length:=⟨_,rfl⟩
     rw[<-hl4]at hrun⊢;have H8:=Y1 (show Mt w3 w6 n st V L (k+1) (.slice (some ⟨g,0,none⟩) 1 1) (.slice A5 m1 c5)from⟨hbw.trans (hb6.mono hbw.size),fun _=>⟨g,Ah,ch,rfl,(hb6.cell (p:=⟨g,0,none⟩) (ao wr _ hg)).trans hg,hch,Kd.bM Ga hb6,A5,c5,by rw[hm1],by rw[<-hm1];exact Dy,by rw[<-hm1];exact hc6⟩,fun h=>by omega⟩);clear hl4 hm1 uE hb4 hbw hg hch Ga hx hy Dy hc6 hb6
     go_wp2_with (at_builtin;refine dh rfl _ _ 40 40 rfl (by simp[a_]) (by simp[a_]) hrun ?_;clear hrun)
     go_roundg k1
     case measure=>omega
     case rel=>exact⟨k+1,hk1,rfl,H8⟩
  .obtain⟨e0,rfl⟩:gk=0∧k=n:=by omega
   clear e0;obtain⟨hbw,hE,hF⟩:=hA.out;obtain⟨ad,c,m,hv,hC7,hm⟩:∃ad c m,u7=.slice (some ad) m c∧Kd.C (Kd.slice 5 (Kd.int .u8)) wr (some ad) (kE st k V L).length (kE st k V L)∧(kE st k V L).length=m:=by
    by_cases hk0:k=0
    .obtain⟨g,Ah,ch,hv,hg,hch,Ga,-⟩:=hE (.inr hk0);have e:kE st k V L=[iQ st k]:=by unfold kE;rw[if_pos hk0]
     rw[e];refine⟨⟨g,0,none⟩,1,1,hv,Rn (ts:=[iQ st k]) (fun j t hj=>?_) (by simp),rfl⟩
     match j,hj with
     |0,hj=>
      cases hj;exact⟨Ah,ch,hg,hch,Ga⟩
    .obtain⟨ad,c,hv,hC⟩:=hF ⟨rfl,by omega⟩;have e:kE st k V L=[iQ st k,stx V L k]:=by unfold kE;rw[if_neg hk0]
     rw[e];exact⟨ad,c,2,hv,hC,rfl⟩
   subst hv;have hJ:=aae (c:=c) hC7 hm (fun t ht=>by
    unfold kE at ht;rcases cW.1 ht with rfl|ht
    .exact⟨qB _ _,by rw[kD];omega⟩
    .split at ht
     .cases ht
     .rw[cH.1 ht];exact⟨vF _ _ _,by rw[fZ];omega⟩) (by rw[<-hm];unfold kE;split<;>simp)
   have HB:=Y1 hbw;clear hbw hE hF hC7 hm hA
   go_wp2_with fail
   refine hJ.mono ?_;clear hJ;rintro e w9 ⟨A9,c9,rfl,hR9,hb9⟩;obtain⟨-,-,b3⟩:=HS.out;have b39:=b3.trans (HB.out.mono b3.size);have HF:=Y1 (show vU w w9 A9 (mP st k V L).length c9 (mP st k V L)∧al w.heap.size w w9 from⟨⟨rfl,own_base' hR9.2 b39.size⟩,b39.trans (hb9.mono b39.size)⟩);clear hR9 hb9 b3 b39
   go_wp2_with fail
   go_ret2
   exact⟨_,_,rfl,HF.out⟩
section
variable {w:aE} {x y z u b:Nat} {nw bs sx:ByteArray} {R:aE->Prop}
theorem aag(hx:St w x 63 [.pointer (some ⟨b,0,none⟩)])(hy:St w y 9 [.string nw])(h:ba ab 209 #[.pointer (some ⟨b,0,none⟩),.string nw] w fun e w'=>e=.returned (.int .i64 0)∧R w'):
 ba ab 213 #[.pointer (some ⟨x,0,none⟩),.pointer (some ⟨y,0,none⟩)] w fun e w'=>e=.returned (.int .i64 0)∧R w':=by
 have c0:=hx.cell 0 rfl;have c1:=hy.cell 0 rfl;clear hx hy;go_enter func213,ntmps213
 go_wp2_with fail
 refine h.mono ?_;clear h;rintro e w2 ⟨rfl,h2⟩;have H2:=Y1 h2;clear h2
 go_wp2_with fail
 go_ret;exact⟨rfl,H2.out⟩
theorem aah{A:Option cE}{k c:Nat}(hx:St w x 63 [.pointer (some ⟨b,0,none⟩)])(hy:St w y 9 [.string nw])(hz:St w z 40 [.slice A k c])(h:ba ab 215 #[.pointer (some ⟨b,0,none⟩),.string nw,.slice A k c] w fun e w'=>e=.returned (.int .i64 0)∧R w'):
 ba ab 214 #[.pointer (some ⟨x,0,none⟩),.pointer (some ⟨y,0,none⟩),.pointer (some ⟨z,0,none⟩)] w fun e w'=>e=.returned (.int .i64 0)∧R w':=by
 have c0:=hx.cell 0 rfl;have c1:=hy.cell 0 rfl;have c2:=hz.cell 0 rfl;clear hx hy hz;go_enter func214,ntmps214
 go_wp2_with fail
 refine h.mono ?_;clear h;rintro e w2 ⟨rfl,h2⟩;have H2:=Y1 h2;clear h2
 go_wp2_with fail
 go_ret;exact⟨rfl,H2.out⟩
theorem aai(hx:St w x 63 [.pointer (some ⟨b,0,none⟩)])(hy:St w y 9 [.string nw])(h:ba ab 217 #[.pointer (some ⟨b,0,none⟩),.string nw] w fun e w'=>e=.returned (.int .i64 0)∧R w'):
 ba ab 216 #[.pointer (some ⟨x,0,none⟩),.pointer (some ⟨y,0,none⟩)] w fun e w'=>e=.returned (.int .i64 0)∧R w':=by
 have c0:=hx.cell 0 rfl;have c1:=hy.cell 0 rfl;clear hx hy;go_enter func216,ntmps216
 go_wp2_with fail
 refine h.mono ?_;clear h;rintro e w2 ⟨rfl,h2⟩;have H2:=Y1 h2;clear h2
 go_wp2_with fail
 go_ret;exact⟨rfl,H2.out⟩
theorem aaj(hx:St w x 63 [.pointer (some ⟨b,0,none⟩)])(hy:St w y 9 [.string nw])(hz:St w z 9 [.string bs])(hu:St w u 9 [.string sx])(hl:bs.size+sx.size<=1000)(h:ba ab 219 #[.pointer (some ⟨b,0,none⟩),.string nw,.string (bs++sx)] w fun e w'=>e=.returned (.int .i64 0)∧R w'):
 ba ab 218 #[.pointer (some ⟨x,0,none⟩),.pointer (some ⟨y,0,none⟩),.pointer (some ⟨z,0,none⟩),.pointer (some ⟨u,0,none⟩)] w fun e w'=>e=.returned (.int .i64 0)∧R w':=by
 have c0:=hx.cell 0 rfl;have c1:=hy.cell 0 rfl;have c2:=hz.cell 0 rfl;have c3:=hu.cell 0 rfl;have IV:=fun W=>lu bs sx (by omega) W
 clear hx hy hz hu;go_enter func218,ntmps218
 go_wp2_with fail
 refine h.mono ?_;clear h;rintro e w2 ⟨rfl,h2⟩;have H2:=Y1 h2;clear h2
 go_wp2_with fail
 go_ret;exact⟨rfl,H2.out⟩
end
def xB:ByteArray:={data:= #[110,101,119]}
noncomputable def IW(F:Files)(n t:Nm)(l:List Int):Nat->Files
 |0=>F
 |1=>upd F n (some [])
 |4=>upd (upd (upd (upd F n (some [])) n (some ([]++l))) n none) t (some ([]++l))
 |_=>upd (upd F n (some [])) n (some ([]++l))
variable {F:Files}
theorem Ro{n t:Nm}{l:List Int}(h:F n=none)(hnt:n≠t):IW F n t l 4=upd F t (some l):=by
 funext x
 show upd (upd (upd (upd F n (some [])) n (some ([]++l))) n none) t (some ([]++l)) x=_;by_cases hx:x=t
 .subst hx;rw[upd_same,upd_same];simp
 .rw[aM _ _ hx,aM _ _ hx];by_cases hn:x=n
  .subst hn;rw[upd_same,h]
  .rw[aM _ _ hn,aM _ _ hn,aM _ _ hn]
variable {D:Nat->Prop}{b c n q room:Nat}{w:aE}
theorem Rp{k cap:Nat}{bs sx:ByteArray}{ad:cE}{l:List Int}(hD:aV w D b room F c)(hb:Kd.C (Kd.int .u8) w (some ad) k l)(hcap:k<=cap)(hk:0<k)(hk2:k<=100000)(Gb:¬D ad.block)(hroom:c+1+sec k<=room)(hbs:0<bs.size∧bs.size+3<=24)(hsx:bs.size+sx.size<=24)(hx:F (nm (bs++xB))=none)(hne:nm (bs++xB)≠nm (bs++sx))(hc:c<900000):
 ba ab 188 #[.pointer (some ⟨b,0,none⟩),.string bs,.string sx,.slice (some ad) k cap] w fun e w'=>e=.returned (.int .i64 0)∧∃D' c',aV w' D' b room (upd F (nm (bs++sx)) (some l)) c'∧c'<=c+1+sec k∧Stp D D' w w':=by
 obtain⟨w1,hw1⟩:∃w1,w1=(((w.alloc (.cells #[.pointer (some ⟨b,0,none⟩)] 63 (0,0))).alloc (.cells #[.string bs] 9 (0,0))).alloc (.cells #[.string sx] 9 (0,0))).alloc (.cells #[.slice (some ad) k cap] 40 (0,0)):=⟨_,rfl⟩
 have s0:St w1 w.heap.size 63 [.pointer (some ⟨b,0,none⟩)]:=by rw[hw1];exact(((St.new _ _ _).alloc _).alloc _).alloc _
 have s1:St w1 (w.heap.size+1) 9 [.string bs]:=by
  have:=((St.new (w.alloc (.cells #[.pointer (some ⟨b,0,none⟩)] 63 (0,0))) 9 #[.string bs]).alloc (.cells #[.string sx] 9 (0,0))).alloc (.cells #[.slice (some ad) k cap] 40 (0,0));rw[hw1];simpa using this
 have s2:St w1 (w.heap.size+1+1) 9 [.string sx]:=by
  have:=(St.new ((w.alloc (.cells #[.pointer (some ⟨b,0,none⟩)] 63 (0,0))).alloc (.cells #[.string bs] 9 (0,0))) 9 #[.string sx]).alloc (.cells #[.slice (some ad) k cap] 40 (0,0));rw[hw1];simpa using this
 have s3:St w1 (w.heap.size+1+1+1) 40 [.slice (some ad) k cap]:=by
  have:=St.new (((w.alloc (.cells #[.pointer (some ⟨b,0,none⟩)] 63 (0,0))).alloc (.cells #[.string bs] 9 (0,0))).alloc (.cells #[.string sx] 9 (0,0))) 40 #[.slice (some ad) k cap];rw[hw1];simpa using this
 have k1:Keeps (fun _=>False) w w1:=by rw[hw1];exact((((Keeps.refl _ w).alloc _).alloc _).alloc _).alloc _
 have z1:w1.heap.size=w.heap.size+1+1+1+1:=by rw[hw1];simp
 have c1:=s1.cell 0 rfl;rw[hw1]at c1;have IV:=fun W=>lu bs xB (by have:xB.size=3:=rfl;omega) W
 have zA:(bs++xB).size=bs.size+3:=by rw[ar];rfl
 have hW:=Y2 hw1 z1;have H1:=Wo s0 s1 s2 s3 k1 hD hb hx hne Gb;have hnw:=Y1 (show({data:= #[110,101,119]}:ByteArray)=xB from rfl);clear s0 s1 s2 s3 k1 hD hb hx hne Gb hw1 z1;go_enter func188,ntmps188
 go_wp2_with fail
 obtain⟨hw1,z1⟩:=hW.out;obtain⟨s0,s1,s2,s3,k1,hD,hb,hx,hne,Gb⟩:=H1.out;rw[<-hw1,hnw.out];obtain⟨nw,adC⟩:=ex (bs++xB)
 rw[<-adC]at hx hne zA⊢;obtain⟨w5,rQ⟩:=ex (w1.alloc (.cells #[.string nw] 9 (0,0)))
 have s4:St w5 (w.heap.size+1+1+1+1) 9 [.string nw]:=by rw[rQ,<-z1];exact St.new _ _ _
 have k5:Keeps (fun _=>False) w w5:=by rw[rQ];exact k1.alloc _
 have t0:St w5 w.heap.size 63 [.pointer (some ⟨b,0,none⟩)]:=by rw[rQ];exact s0.alloc _
 have t1:St w5 (w.heap.size+1) 9 [.string bs]:=by rw[rQ];exact s1.alloc _
 have t2:St w5 (w.heap.size+1+1) 9 [.string sx]:=by rw[rQ];exact s2.alloc _
 have t3:St w5 (w.heap.size+1+1+1) 40 [.slice (some ad) k cap]:=by rw[rQ];exact s3.alloc _
 rw[<-rQ];have z5:w5.heap.size=w.heap.size+1+1+1+1+1:=by rw[rQ,<-z1];simp
 have hDl:∀j,D j->j<w.heap.size:=fun j h=>hD.lt h
 have hD5:=hD.keep k5 fun _ _=>id
 have hrm:=Gp hD5 nw (by unfold maxLen;omega) hx;have D9:ad.block<w.heap.size:=by
  obtain⟨_,hbc⟩:=wV hb;have:=hbc 0 _ (bb (by simp[nums];have:=hb.1;omega));have:=ao w _ this;rwa [oI]at this
 have H5:=Y13 t0 t1 t2 t3 s4 k5 hDl (hb) hx hne Gb z5 D9;clear c1 IV hw1 z1 s0 s1 s2 s3 k1 hD hb hx hne Gb rQ s4 k5 t0 t1 t2 t3 z5 hDl hD5 D9 hW H1 hnw adC;refine hrm.mono ?_;clear hrm;rintro e w6 ⟨rfl,hD6,wN⟩;have H6:=Y2 hD6 wN;clear hD6 wN;obtain⟨w7,hw7⟩:=ex (w6.alloc (.cells #[.func (.func 213) #[] #[.pointer (some ⟨w.heap.size,0,none⟩),.pointer (some ⟨w.heap.size+1+1+1+1,0,none⟩)],.func (.func 214) #[] #[.pointer (some ⟨w.heap.size,0,none⟩),.pointer (some ⟨w.heap.size+1+1+1+1,0,none⟩),.pointer (some ⟨w.heap.size+1+1+1,0,none⟩)],.func (.func 216) #[] #[.pointer (some ⟨w.heap.size,0,none⟩),.pointer (some ⟨w.heap.size+1+1+1+1,0,none⟩)],.func (.func 218) #[] #[.pointer (some ⟨w.heap.size,0,none⟩),.pointer (some ⟨w.heap.size+1+1+1+1,0,none⟩),.pointer (some ⟨w.heap.size+1,0,none⟩),.pointer (some ⟨w.heap.size+1+1,0,none⟩)]] 138 (0,0)))
 obtain⟨t0,t1,t2,t3,s4,k5,hDl,hb,hx,hne,Gb,z5,D9⟩:=H5.out;obtain⟨hD6,wN⟩:=H6.out;have sf:St w7 w6.heap.size 138 [.func (.func 213) #[] #[.pointer (some ⟨w.heap.size,0,none⟩),.pointer (some ⟨w.heap.size+1+1+1+1,0,none⟩)],.func (.func 214) #[] #[.pointer (some ⟨w.heap.size,0,none⟩),.pointer (some ⟨w.heap.size+1+1+1+1,0,none⟩),.pointer (some ⟨w.heap.size+1+1+1,0,none⟩)],.func (.func 216) #[] #[.pointer (some ⟨w.heap.size,0,none⟩),.pointer (some ⟨w.heap.size+1+1+1+1,0,none⟩)],.func (.func 218) #[] #[.pointer (some ⟨w.heap.size,0,none⟩),.pointer (some ⟨w.heap.size+1+1+1+1,0,none⟩),.pointer (some ⟨w.heap.size+1,0,none⟩),.pointer (some ⟨w.heap.size+1+1,0,none⟩)]]:=by rw[hw7];exact St.new _ _ _
 have k7:Keeps D w5 w7:=by rw[hw7];exact wN.1.alloc _
 have nD:∀j,w.heap.size<=j->¬D j:=fun j hj h=>by have:=hDl j h;omega
 have t0:=t0.keep k7 (nD _ (by omega));have t1:=t1.keep k7 (nD _ (by omega));have t2:=t2.keep k7 (nD _ (by omega));have t3:=t3.keep k7 (nD _ (by omega));have s4:=s4.keep k7 (nD _ (by omega));have BD:=(k5.mono fun _ _ h=>h.elim).trans k7 fun _ h=>.inl h
 have hz:=BD.size;have hD7:aV w7 D b room F c:=by rw[hw7];exact hD6.keep ((Keeps.refl (fun _=>False) w6).alloc _) fun _ _=>id
 have HS:=Y1 (show ∀D' wr,Stp D D' w7 wr->St wr w.heap.size 63 [.pointer (some ⟨b,0,none⟩)]∧St wr (w.heap.size+1) 9 [.string bs]∧St wr (w.heap.size+1+1) 9 [.string sx]∧St wr (w.heap.size+1+1+1) 40 [.slice (some ad) k cap]∧St wr (w.heap.size+1+1+1+1) 9 [.string nw]∧St wr w6.heap.size 138 [.func (.func 213) #[] #[.pointer (some ⟨w.heap.size,0,none⟩),.pointer (some ⟨w.heap.size+1+1+1+1,0,none⟩)],.func (.func 214) #[] #[.pointer (some ⟨w.heap.size,0,none⟩),.pointer (some ⟨w.heap.size+1+1+1+1,0,none⟩),.pointer (some ⟨w.heap.size+1+1+1,0,none⟩)],.func (.func 216) #[] #[.pointer (some ⟨w.heap.size,0,none⟩),.pointer (some ⟨w.heap.size+1+1+1+1,0,none⟩)],.func (.func 218) #[] #[.pointer (some ⟨w.heap.size,0,none⟩),.pointer (some ⟨w.heap.size+1+1+1+1,0,none⟩),.pointer (some ⟨w.heap.size+1,0,none⟩),.pointer (some ⟨w.heap.size+1+1,0,none⟩)]]∧
  Kd.C (Kd.int .u8) wr (some ad) k l∧¬D' ad.block from fun D' wr hs=>
  ⟨t0.keep hs.1 (nD _ (by omega)),t1.keep hs.1 (nD _ (by omega)),t2.keep hs.1 (nD _ (by omega)),t3.keep hs.1 (nD _ (by omega)),s4.keep hs.1 (nD _ (by omega)),sf.keep hs.1 (nD _ (by have:=wN.1.size;omega)),jf hb (fun a e=>by cases e;exact(BD.trans hs.1 fun _ h=>.inl h).at_ D9 Gb),fun h=>(hs.2 _ h).elim Gb fun h=>by omega⟩)
 have H0:=Y1 (show ∃D' ci,aV w7 D' b room (IW F (nm nw) (nm (bs++sx)) l 0) ci∧ci<=c∧Stp D D' w7 w7 from⟨D,c,hD7,ae _,Stp.refl _ _⟩);have HX:=Y4 hx hne BD nD;clear t0 t1 t2 t3 s4 k5 hDl hb hx hne Gb z5 D9 hD6 wN sf k7 nD BD hz hD7 H5 H6
 go_wp2_with fail
 rw[<-hw7];clear hw7
 go_loopg [32] 4 (fun kq v32 wr=>∃i:Nat,kq+i=4∧v32=.int .i64 (i:Nat)∧aG (∃D' ci,aV wr D' b room (IW F (nm nw) (nm (bs++sx)) l i) ci∧ci<=(if i=0 then c else if i=1 then c+1 else c+1+sec k)∧Stp D D' w7 wr))
 case atStart=>exact⟨0,by omega,rfl,H0⟩
 case round=>
  obtain⟨i,hi,rfl,hA⟩:=hrel;obtain⟨D',ci,pU,hci,hst⟩:=hA.out;obtain⟨t0,t1,t2,t3,s4,sf,hbC,Gb⟩:=HS.out D' wr hst;by_cases hlt:i<4
  .have hcase:i=0∨i=1∨i=2∨i=3:=by omega
   clear hlt;rcases hcase with rfl|rfl|rfl|rfl
   .have cf:=sf.cell 0 rfl;have hci:ci<=c:=by simpa using hci
    have hcall:=aag (nw:=nw) t0 s4 (rW pU nw (by omega) (by omega) HX.out.1 (by omega));have HD:=Y2 hci hst;clear pU hst t0 t1 t2 t3 s4 sf hbC Gb hA hci
    go_wp2_with fail
    refine hcall.mono ?_;clear hcall;rintro e w8 ⟨rfl,D8,Dz,lG⟩;have H8:=Y1 (show ∃D' ci,aV w8 D' b room (IW F (nm nw) (nm (bs++sx)) l (0+1)) ci∧ci<=(if 0+1=0 then c else if 0+1=1 then c+1 else c+1+sec k)∧Stp D D' w7 w8 from⟨D8,_,Dz,by have:=HD.out.1;simp;omega,HD.out.2.trans lG⟩);clear Dz lG
    go_wp2_with fail
    go_roundg 3
    case measure=>omega
    case rel=>exact⟨0+1,by omega,rfl,H8⟩
   .have cf:=sf.cell 1 rfl;have hci:ci<=c+1:=by simpa using hci
    have hcall:=aah (nw:=nw) t0 s4 t3 (Ad pU nw (by unfold maxLen;omega) (l:=[]) (by show upd _ _ _ _=_;rw[upd_same]) hbC hcap hk hk2 Gb (by simp;omega));have HD:=Y2 hci hst;clear pU hst t0 t1 t2 t3 s4 sf hbC Gb hA hci
    go_wp2_with fail
    refine hcall.mono ?_;clear hcall;rintro e w8 ⟨rfl,D8,Dz,lG⟩;have H8:=Y1 (show ∃D' ci,aV w8 D' b room (IW F (nm nw) (nm (bs++sx)) l (1+1)) ci∧ci<=(if 1+1=0 then c else if 1+1=1 then c+1 else c+1+sec k)∧Stp D D' w7 w8 from⟨D8,_,Dz,by have:=HD.out.1;simp;omega,HD.out.2.trans lG⟩);clear Dz lG
    go_wp2_with fail
    go_roundg 2
    case measure=>omega
    case rel=>exact⟨1+1,by omega,rfl,H8⟩
   .have cf:=sf.cell 2 rfl;have hci:ci<=c+1+sec k:=by simpa using hci
    have hcall:=aai (nw:=nw) t0 s4 (Jl pU nw (by unfold maxLen;omega) (l:=[]++l) (by show upd _ _ _ _=_;rw[upd_same]));have HD:=Y2 hci hst;clear pU hst t0 t1 t2 t3 s4 sf hbC Gb hA hci
    go_wp2_with fail
    refine hcall.mono ?_;clear hcall;rintro e w8 ⟨rfl,Dz,lG⟩;have H8:=Y1 (show ∃D' ci,aV w8 D' b room (IW F (nm nw) (nm (bs++sx)) l (2+1)) ci∧ci<=(if 2+1=0 then c else if 2+1=1 then c+1 else c+1+sec k)∧Stp D D' w7 w8 from⟨D',_,Dz,by have:=HD.out.1;simp;omega,HD.out.2.trans lG⟩);clear Dz lG
    go_wp2_with fail
    go_roundg 1
    case measure=>omega
    case rel=>exact⟨2+1,by omega,rfl,H8⟩
   .have cf:=sf.cell 3 rfl;have hci:ci<=c+1+sec k:=by simpa using hci
    have hcall:=aaj (nw:=nw) t0 s4 t1 t2 (by omega) (Ak pU nw (bs++sx) (by unfold maxLen;omega) (by rw[ar];omega) (by rw[ar];omega) HX.out.2.1 (l:=[]++l) (by show upd _ _ _ _=_;rw[upd_same]) (by unfold sec at hci;omega));have HD:=Y2 hci hst;clear pU hst t0 t1 t2 t3 s4 sf hbC Gb hA hci
    go_wp2_with fail
    refine hcall.mono ?_;clear hcall;rintro e w8 ⟨rfl,c8,Dz,hc8,lG⟩;have H8:=Y1 (show ∃D' ci,aV w8 D' b room (IW F (nm nw) (nm (bs++sx)) l (3+1)) ci∧ci<=(if 3+1=0 then c else if 3+1=1 then c+1 else c+1+sec k)∧Stp D D' w7 w8 from⟨D',c8,Dz,by have:=HD.out.1;simp;omega,HD.out.2.trans lG⟩);clear Dz lG
    go_wp2_with fail
    go_roundg 0
    case measure=>omega
    case rel=>exact⟨3+1,by omega,rfl,H8⟩
  .obtain rfl:i=4:=by omega
   have HF:=Y3 pU hci hst;clear pU hst t0 t1 t2 t3 s4 sf hbC Gb hA hci
   go_wp2_with fail
   go_ret;obtain⟨pU,hci,hst⟩:=HF.out;obtain⟨hx,hne,BD,nD⟩:=HX.out;rw[Ro hx hne]at pU;simp at hci;exact⟨rfl,D',ci,pU,hci,BD.trans hst.1 fun _ h=>.inl h,fun j h=>(hst.2 j h).imp id fun h=>by have:=BD.size;omega⟩
theorem Rq(h:aV w D b room F c)(s:ByteArray)(hs:s.size<=maxLen){l:List Int}(hx:F (nm s)=some l)(h0:0<l.length):
 ba ab 60 #[.pointer (some ⟨b,0,none⟩),.string s] w fun e w'=>∃A c',e=.returned (.tuple #[.slice A l.length c',.int .i64 0])∧w'.ownsRow w.heap.size 5 1 (.slice A l.length c') l.length (nums .u8 l)∧aV w' D b room F c∧Stp D D w w':=by
 have hsz:=Je h s hs hx;have HD:=Y2 hx h0;clear h hx h0;go_enter dd,c_
 go_wp2_with fail
 refine hsz.mono ?_;clear hsz;rintro e w2 ⟨rfl,hD2,hs2⟩;have hrd:=Jk hD2 s hs HD.out.1 (at_:=0) (k:=l.length) HD.out.2 (by omega);have H2:=Y1 hs2;clear hD2 hs2;obtain⟨n,hn⟩:=ex l.length
 rw[<-hn]at hrd⊢;have HN:=Y1 hn;clear hn
 go_wp2_with fail
 refine hrd.mono ?_;clear hrd;rintro e w3 ⟨A,c',rfl,ho,hD3,hs3⟩;have H3:=Y3 ho hD3 hs3;clear ho hD3 hs3
 go_wp2_with fail
 go_ret2
 obtain⟨ho,hD3,hs3⟩:=H3.out;rw[List.drop_zero,cC (cJ HN.out.symm)]at ho;obtain rfl:=HN.out;exact⟨A,c',rfl,own_base' ho H2.out.1.size,hD3,H2.out.trans hs3⟩
theorem Mw(h:aV w D b room F c)(s:ByteArray)(hs:s.size<=maxLen)(hx:F (nm s)=none):
 ba ab 60 #[.pointer (some ⟨b,0,none⟩),.string s] w fun e w'=>e=.returned (.tuple #[.slice none 0 0,.int .i64 4])∧aV w' D b room F c∧Stp D D w w':=by
 have hsz:=DW h s hs hx;clear h hx;go_enter dd,c_
 go_wp2_with fail
 refine hsz.mono ?_;clear hsz;rintro e w2 ⟨rfl,hD2,hs2⟩;have H2:=Y2 hD2 hs2;clear hD2 hs2
 go_wp2_with fail
 go_ret2
 exact⟨rfl,H2.out⟩
def IX:ByteArray:={data:= #[115,116,97,116,101,46]}
def zy(i:Nat):Nm:=nm (IX++itoa i)
theorem BI(s:ByteArray):(nm s).length=s.size:=Array.length_toList
theorem xC(i:Nat):0<(itoa i).size∧(itoa i).size<=2:=by
 rw[Bh];unfold lQ
 split<;>simp
theorem Rt(a b c:ByteArray)(h:b.size≠c.size):nm (a++b)≠nm (a++c):=fun e=>by
 have:=congrArg List.length e;rw[BI,BI,ar,ar]at this;omega
theorem qC(st n:Nat)(V:List Int)(L:List Bool):22<=(mP st n V L).length∧(mP st n V L).length<=28+9*n:=by
 unfold mP kE
 split
 .simp[Oct.encs,eH,kD];omega
 .simp[Oct.encs,eH,kD,fZ];omega
theorem aak{st cv cl:Nat}{AV AL:Option cE}{V:List Int}{L:List Bool}(hD:aV w D b room F c)(hc:lZ w AV AL n cv cl V L)(hn:n<=12)(hst:st<100)(hx:F (nm (IX++xB))=none)(hroom:c+11<=room)(hc0:c<800000):
 ba ab 198 #[.pointer (some ⟨b,0,none⟩),.int .i64 (st:Nat),.agg #[.slice AV n cv,.slice AL n cl]] w fun e w'=>e=.returned (.int .i64 0)∧∃D' c',aV w' D' b room (upd F (zy st) (some (mP st n V L))) c'∧c'<=c+11∧Stp D D' w w':=by
 obtain⟨w1,hw1⟩:=ex (w.alloc (.cells #[.slice AV n cv,.slice AL n cl] 253 (0,0)))
 have k1:Keeps (fun _=>False) w w1:=by rw[hw1];exact(Keeps.refl _ w).alloc _
 have s1:St w1 w.heap.size 253 [.slice AV n cv,.slice AL n cl]:=by rw[hw1];exact St.new _ _ _
 have c0:=s1.cell 0 rfl;have c1:=s1.cell 1 rfl;have hen:=BH (st:=st) (hc.keep k1 fun _ _=>id) (by omega) (by omega);have hsl:=qC st n V L;have H1:=Y4 hD hx k1 hsl;clear hD hc hx k1 s1 hsl;go_enter func198,ntmps198
 go_wp2_with fail
 rw[<-hw1];refine hen.mono ?_;clear hen;rintro e w2 ⟨A2,c2,rfl,hR2,hb2⟩;obtain⟨hD,hx,k1,hsl⟩:=H1.out;have k2:=k1.trans (Keeps.of_below (S:=fun _=>False) hb2) fun _ h=>h.elim
 obtain⟨m,hm⟩:∃m,m=(mP st n V L).length:=⟨_,rfl⟩
 rw[<-hm]at hR2 hsl⊢;obtain⟨g,rfl⟩:=gY hR2.2 (by omega);have hg:w.heap.size<=g:=aq k1.size (gB hR2.2 _ rfl);have hit:=qy w2 st hst;have hsz:=xC st;have hs6:IX.size=6:=rfl;have zA:xB.size=3:=rfl;have hpt:=Rp (bs:=IX) (sx:=itoa st) (hD.keep k2 fun _ _=>id) hR2.C hR2.cap (by omega) (by omega) (fun h=>by have:=hD.lt h;exact absurd hg (by show ¬_<=_;have h2:g<w.heap.size:=this;omega)) (room:=room) (by unfold sec;omega) (by omega) (by omega) hx (Rt _ _ _ (by omega)) (by omega);have H2:=Y3 k2 hsl hm;have Ru:=Y1 (show({data:= #[115,116,97,116,101,46]}:ByteArray)=IX from rfl);clear hD hx k1 hR2 k2 hm hg hsl hb2 hsz hs6 zA c0 c1 hw1
 go_wp2_with fail
 refine hit.mono ?_;rintro e w3 ⟨rfl,rfl⟩;clear hit
 go_wp2_with fail
 rw[Ru.out];refine hpt.mono ?_;clear hpt;rintro e w4 ⟨rfl,D',c',hD',hc',hs'⟩;have H4:=Y3 hD' hc' hs';clear hD' hc' hs'
 go_wp2_with fail
 go_ret;obtain⟨hD',hc',hs'⟩:=H4.out;obtain⟨k2,hsl,hm⟩:=H2.out;exact⟨rfl,D',c',hD',by unfold sec at hc';omega,(k2.mono fun _ _ h=>h.elim).trans hs'.1 fun _ h=>.inl h,fun j h=>(hs'.2 j h).imp id fun h=>aq k2.size h⟩
def Nw(q n s:Nat)(k kd:Int)(st:Nat):List cz:=[.int .u64 (q:Nat),.int .i64 (n:Nat),.int .i64 (s:Nat),.int .i64 k,.int .i64 kd,.int .u32 (st:Nat)]
structure Mx (q n s:Nat) (k kd:Int) (st:Nat):Prop where
 q0:0<q
 q1:q<=100
 n1:n<=12
 s0:1<=s
 s1:s<=6
 pr:(k= -1∧kd=0∧st=0)∨(0<=k∧k<=100∧Mi kd st n)
variable {k kd:Int}
theorem MB{s:Nat}{st:Nat}(h:Mx q n s k kd st):cO.f 20 (q:Nat) (n:Nat) (s:Nat) k kd (st:Nat)=some true:=by
 obtain⟨h1,h2,h3,h4,h5,h6⟩:=h;obtain⟨l,hl,-⟩:=Bt n (by omega) s (by omega) (by omega);unfold cO.f;rw[hl];simp only[Option.bind_some,if_true];rw[if_neg (by omega),decide_eq_false (by rcases h6 with h|h<;>omega)];have e:cO.j0 20 false (q:Nat) (n:Nat) (s:Nat) k kd (st:Nat)=(if false=true then some false else if k= -1 then some (kd==0&&(((st:Nat):Int)==0))else if k>=0 then((fM.f kd (st:Nat) (n:Nat)).bind fun t=>some t)else some false):=rfl;rw[e];rcases h6 with⟨rfl,rfl,rfl⟩|⟨h7,h8,h9⟩
 .rfl
 .rw[if_neg (by simp),if_neg (by omega),if_pos h7,oq h9 h3];rfl
theorem aal(x0 x1 x2 x3 x4 x5:Int)(j:Nat)(hj:j<6)(W:aE):(Instr.index 168 (.agg #[.int .u64 x0,.int .u64 x1,.int .u64 x2,.int .u64 x3,.int .u64 x4,.int .u64 x5]) (.int .i64 (j:Nat))).run ab W=.ok (.int .u64 ([x0,x1,x2,x3,x4,x5].getD j 0)) W:=by
 rcases(by omega:j=0∨j=1∨j=2∨j=3∨j=4∨j=5)with rfl|rfl|rfl|rfl|rfl|rfl
 all_goals kernel_rfl
theorem MC{s:Nat}{st:Nat}(h:Mx q n s k kd st):
 ba ab 95 #[.agg (Nw q n s k kd st).toArray] w fun e w'=>∃A c l,e=.returned (.tuple #[.slice A 54 c,.int .i64 0])∧vU w w' A 54 c l∧al w.heap.size w w':=by
 obtain⟨w1,hw1⟩:=ex (w.alloc (.cells #[.int .u64 (q:Nat),.int .i64 (n:Nat),.int .i64 (s:Nat),.int .i64 k,.int .i64 kd,.int .u32 (st:Nat)] 107 (0,0)))
 have b1:al w.heap.size w w1:=by rw[hw1];exact(az _ w).alloc (ae _) _
 have s1:St w1 w.heap.size 107 (Nw q n s k kd st):=by rw[hw1];exact St.new _ _ _
 have c0:=s1.cell 0 rfl;have c1:=s1.cell 1 rfl;have c2:=s1.cell 2 rfl;have c3:=s1.cell 3 rfl;have c4:=s1.cell 4 rfl;have c5:=s1.cell 5 rfl;have hmr:=cO.calls 20 _ _ _ _ _ _ _ w1 (MB h) ⟨rfl⟩;have H1:=Y2 b1 s1;clear b1 s1;unfold Nw;go_enter func95,ntmps95
 go_wp2_with fail
 rw[<-hw1];refine hmr.mono ?_;clear hmr;rintro e w2 ⟨rfl,hb2⟩;obtain⟨b1,s1⟩:=H1.out;have s2:=s1.keep (Keeps.of_below (S:=fun _=>False) hb2) id;have d0:=s2.cell 0 rfl;have d1:=s2.cell 1 rfl;have d2:=s2.cell 2 rfl;have d3:=s2.cell 3 rfl;have d4:=s2.cell 4 rfl;have d5:=s2.cell 5 rfl;have H2:=Y1 (b1.trans (hb2.mono b1.size));clear b1 s1 s2 hb2 c0 c1 c2 c3 c4 c5 hw1
 go_wp2_with fail
 generalize cy.wrap ((n:Nat):Int)=x1;generalize cy.wrap ((s:Nat):Int)=x2;generalize cy.wrap (wrap64 (k+1))=x3;generalize cy.wrap kd=x4;generalize cy.wrap ((st:Nat):Int)=x5;generalize ((q:Nat):Int)=x0 at*;clear d0 d1 d2 d3 d4 d5;have H3:=Y1 (show ∃A c l,ax none 0 0=.slice A (8*0) c∧vU w w2 A (8*0) c l∧Bytes l∧al w.heap.size w w2 from⟨none,0,[],rfl,⟨rfl,cM _ _ 5 1⟩,(fun x hx=>absurd hx cA:Bytes []),H2.out⟩)
 go_loopg [4,31] 6 (fun kq v4 v31 wr=>∃j:Nat,kq+j=6∧v31=.int .i64 (j:Nat)∧aG (∃A c l,v4=.slice A (8*j) c∧vU w wr A (8*j) c l∧Bytes l∧al w.heap.size w wr))
 case atStart=>exact⟨0,by omega,rfl,H3⟩
 case round=>
  obtain⟨j,hj,rfl,hA⟩:=hrel;obtain⟨Ar,cr,lr,rfl,hR,hby,hb⟩:=hA.out;by_cases hlt:j<6
  .have hidx:=aal x0 x1 x2 x3 x4 x5 j hlt;generalize [x0,x1,x2,x3,x4,x5].getD j 0=X at hidx;have hl:=hR.1;have hP:=Ew (x:=X) (a:=8) (l:=lr) (A:=Ar) (c:=cr) (w:=wr) (by rw[hl];exact hR.C) (by rw[hl];exact hR.cap) (by omega);rw[hl]at hP;have HX:=Y3 hR hby hb;obtain⟨k1,hk1⟩:∃k1,k1+(j+1)=6:=⟨6-(j+1),by omega⟩
   clear hR hby hb hl
   go_wp2_with fail
   refine hP.mono ?_;clear hP;rintro e w4 ⟨A4,c4,rfl,uE,hb4⟩;obtain⟨hR,hby,hb⟩:=HX.out;have hl:=hR.1;have e8:(lr++le (sz 8) X).length=8*(j+1):=by rw[cm,bB,hl];simp[sz8];omega
   rw[e8]at uE⊢;obtain⟨m8,hm8⟩:∃m8,m8=8*(j+1):=⟨_,rfl⟩
   have H4:=Y1 (show ∃A c l,(ax A4 m8 c4)=.slice A (8*(j+1)) c∧vU w w4 A (8*(j+1)) c l∧Bytes l∧al w.heap.size w w4 from⟨A4,c4,_,by rw[hm8],⟨e8,own_base' uE.2 hb.size⟩,hby.append (iO _ _),hb.trans (hb4.mono hb.size)⟩);rw[<-hm8];clear uE hb4 hR hby hb hl e8 hm8
   go_wp2_with fail
   go_roundg k1
   case measure=>omega
   case rel=>exact⟨j+1,hk1,rfl,H4⟩
  .obtain rfl:j=6:=by omega
   have hl:=hR.1;have hE:=PD (l:=lr) (A:=Ar) (c:=cr) (w:=wr) (by rw[hl];exact hR.C) (by rw[hl];exact hR.cap) hby (by omega)
   have HX:=Y2 hb hl;have e54:(enc lr).length=54:=by rw[eH,hl]
   rw[hl,e54]at hE;clear hR hby hb hl e54 hlt hA
   go_wp2_with fail
   refine hE.mono ?_;clear hE;rintro e w5 ⟨A5,c5,rfl,ZO,hb5⟩;obtain⟨hb,hl⟩:=HX.out;have HF:=Y1 (show vU w w5 A5 54 c5 (enc lr)∧al w.heap.size w w5 from⟨⟨ZO.1,own_base' ZO.2 hb.size⟩,hb.trans (hb5.mono hb.size)⟩);clear ZO hb5 hb hl
   go_wp2_with fail
   go_ret2
   exact⟨_,_,_,rfl,HF.out⟩
def FD:ByteArray:={data:= #[115,108,111,116,46]}
def Kl(i:Nat):Nm:=nm (FD++itoa i)
theorem aam{s:Nat}{st:Nat}(hD:aV w D b room F c)(h:Mx q n s k kd st)(hx:F (nm (FD++xB))=none)(hroom:c+5<=room)(hc0:c<800000):
 ba ab 178 #[.pointer (some ⟨b,0,none⟩),.agg #[.int .u64 (q:Nat),.int .i64 (n:Nat),.int .i64 (s:Nat),.int .i64 k,.int .i64 kd,.int .u32 (st:Nat)]] w fun e w'=>e=.returned (.int .i64 0)∧∃D' c' l,l.length=54∧aV w' D' b room (upd F (Kl (q%2)) (some l)) c'∧c'<=c+5∧Stp D D' w w':=by
 obtain⟨w1,hw1⟩:=ex (w.alloc (.cells #[.int .u64 (q:Nat),.int .i64 (n:Nat),.int .i64 (s:Nat),.int .i64 k,.int .i64 kd,.int .u32 (st:Nat)] 107 (0,0)))
 have k1:Keeps (fun _=>False) w w1:=by rw[hw1];exact(Keeps.refl _ w).alloc _
 have s1:St w1 w.heap.size 107 (Nw q n s k kd st):=by rw[hw1];exact St.new _ _ _
 have c0:=s1.cell 0 rfl;have c1:=s1.cell 1 rfl;have c2:=s1.cell 2 rfl;have c3:=s1.cell 3 rfl;have c4:=s1.cell 4 rfl;have c5:=s1.cell 5 rfl;have hen:=MC (w:=w1) h;unfold Nw at hen;have H1:=Y4 hD hx k1 s1;clear hD hx k1 s1 h;go_enter func178,ntmps178
 go_wp2_with fail
 rw[<-hw1];refine hen.mono ?_;clear hen;rintro e w2 ⟨A2,cc,l,rfl,hR2,hb2⟩;obtain⟨hD,hx,k1,s1⟩:=H1.out;have s2:=s1.keep (Keeps.of_below (S:=fun _=>False) hb2) id;have d0:=s2.cell 0 rfl;have k2:=k1.trans (Keeps.of_below (S:=fun _=>False) hb2) fun _ h=>h.elim
 obtain⟨g,rfl⟩:=gY hR2.2 (by omega);have hg:w.heap.size<=g:=aq k1.size (gB hR2.2 _ rfl);obtain⟨r,hr⟩:=ex (q%2)
 have hit:=C_ w2 r (by omega);have hsz:=xC r;have hs6:FD.size=5:=rfl;have zA:xB.size=3:=rfl;have h54:sec 54=4:=rfl;have hpt:=Rp (bs:=FD) (sx:=itoa r) (hD.keep k2 fun _ _=>id) hR2.C hR2.cap (by omega) (by omega) (fun h=>by have:=hD.lt h;exact absurd hg (by show ¬_<=_;have h2:g<w.heap.size:=this;omega)) (room:=room) (by omega) (by omega) (by omega) hx (Rt _ _ _ (by omega)) (by omega);have H2:=Y3 k2 hr hR2.1;have Ru:=Y1 (show({data:= #[115,108,111,116,46]}:ByteArray)=FD from rfl);clear hD hx k1 hR2 k2 hg hb2 hsz hs6 zA c0 c1 c2 c3 c4 c5 hw1 s1 s2 hr h54
 go_wp2_with fail
 rw[show((q:Nat):Int)%2=((r:Nat):Int) by rw[H2.out.2.1];omega];refine hit.mono ?_;rintro e w3 ⟨rfl,rfl⟩;clear hit
 go_wp2_with fail
 rw[Ru.out];refine hpt.mono ?_;clear hpt;rintro e w4 ⟨rfl,D',c',hD',hc',hs'⟩;have H4:=Y3 hD' hc' hs';clear hD' hc' hs'
 go_wp2_with fail
 go_ret;obtain⟨hD',hc',hs'⟩:=H4.out;obtain⟨k2,hr,hl⟩:=H2.out;rw[<-hr];exact⟨rfl,D',c',l,hl,hD',by unfold sec at hc';omega,(k2.mono fun _ _ h=>h.elim).trans hs'.1 fun _ h=>.inl h,fun j h=>(hs'.2 j h).imp id fun h=>aq k2.size h⟩
def Rv:List cz:=[.int .u64 0,.int .i64 0,.int .i64 0,.int .i64 0,.int .i64 0,.int .u32 0]
theorem VA(w:aE):ba ab 75 #[.slice none 0 0] w fun e w'=>e=.returned (.tuple #[.agg #[.int .u64 0,.int .i64 0,.int .i64 0,.int .i64 0,.int .i64 0,.int .u32 0],.int .i64 2])∧al w.heap.size w w':=by
 obtain⟨w1,hw1⟩:=ex (w.alloc (.cells #[.int .u64 0,.int .i64 0,.int .i64 0,.int .i64 0,.int .i64 0,.int .u32 0] 107 (0,0)))
 have b1:al w.heap.size w w1:=by rw[hw1];exact(az _ w).alloc (ae _) _
 have s1:St w1 w.heap.size 107 Rv:=by rw[hw1];exact St.new _ _ _
 have hd:=WS (w:=w1) (A:=none) (c:=0) (l:=[]) (Kd.xJ _ _) (ae _) (fun x hx=>absurd hx cA) (by simp);rw[show dec []=([],0,2)from rfl]at hd;have H1:=Y2 b1 s1;clear b1 s1;go_enter func75,ntmps75
 go_wp2_with fail
 rw[<-hw1];refine hd.mono ?_;clear hd;rintro e w2 ⟨A2,c2,rfl,hR2,hb2⟩;obtain⟨b1,s1⟩:=H1.out;have s2:=s1.keep (Keeps.of_below (S:=fun _=>False) hb2) id;have t0:=s2.cell 0 rfl;have t1:=s2.cell 1 rfl;have t2:=s2.cell 2 rfl;have t3:=s2.cell 3 rfl;have t4:=s2.cell 4 rfl;have t5:=s2.cell 5 rfl;have u0:=s2.frozen 0;have u1:=s2.frozen 1;have u2:=s2.frozen 2;have u3:=s2.frozen 3;have u4:=s2.frozen 4;have u5:=s2.frozen 5;have s3:=(((((s2.set 0 (.int .u64 0)).set 1 (.int .i64 0)).set 2 (.int .i64 0)).set 3 (.int .i64 0)).set 4 (.int .i64 0)).set 5 (.int .u32 0);have H2:=Y3 (b1.trans (hb2.mono b1.size)) s2 s3;clear b1 s1 s2 s3 hR2 hb2 hw1
 go_wp2_with fail
 obtain⟨b2,s2,s3⟩:=H2.out;refine bodyPost_ret (dX rfl _ _ w.heap.size 107 #[.int .u64 0,.int .i64 0,.int .i64 0,.int .i64 0,.int .i64 0,.int .u32 0] (0,0) _ rfl s3 cq rfl (by kernel_rfl)) rfl ?_;refine⟨rfl,?_⟩;exact(((((((Keeps.of_below (S:=fun _=>False) b2).setCell (a:=⟨w.heap.size,0,none⟩) (.inr (ae _)) _).setCell (a:=⟨w.heap.size,1,none⟩) (.inr (ae _)) _).setCell (a:=⟨w.heap.size,2,none⟩) (.inr (ae _)) _).setCell (a:=⟨w.heap.size,3,none⟩) (.inr (ae _)) _).setCell (a:=⟨w.heap.size,4,none⟩) (.inr (ae _)) _).setCell (a:=⟨w.heap.size,5,none⟩) (.inr (ae _)) _).eG fun _ _ h=>h
theorem aan(A0 A1:Option cE)(n0 n1 c0 c1:Nat)(j:Nat)(hj:j<2)(W:aE):(Instr.index 129 (.agg #[.slice A0 n0 c0,.slice A1 n1 c1]) (.int .i64 (j:Nat))).run ab W=.ok (if j=0 then .slice A0 n0 c0 else .slice A1 n1 c1) W:=by
 rcases(by omega:j=0∨j=1)with rfl|rfl
 all_goals kernel_rfl
theorem ME(w:aE):ba ab 62 #[.slice none 0 0,.slice none 0 0] w fun e w'=>e=.returned (.tuple #[.agg #[.int .u64 0,.int .i64 0,.int .i64 0,.int .i64 0,.int .i64 0,.int .u32 0],.int .i64 0,.bool false])∧al w.heap.size w w':=by
 obtain⟨w1,hw1⟩:=ex (w.alloc (.cells #[.int .u64 0,.int .i64 0,.int .i64 0,.int .i64 0,.int .i64 0,.int .u32 0] 107 (0,0)))
 have k1:Keeps (fun _=>False) w w1:=by rw[hw1];exact(Keeps.refl _ w).alloc _
 have s1:St w1 w.heap.size 107 Rv:=by rw[hw1];exact St.new _ _ _
 have H1:=Y1 (show St w1 w.heap.size 107 Rv∧Keeps (fun _=>False) w w1 from⟨s1,k1⟩);clear k1 s1;go_enter func62,ntmps62
 go_wp2_with fail
 rw[<-hw1];clear hw1
 go_loopg [5,6,14] 2 (fun kq v5 v6 v14 wr=>∃j:Nat,kq+j=2∧v5=.int .i64 0∧v6=.bool false∧v14=.int .i64 (j:Nat)∧aG (St wr w.heap.size 107 Rv∧Keeps (fun _=>False) w wr))
 case atStart=>exact⟨0,by omega,rfl,rfl,rfl,H1⟩
 case round=>
  obtain⟨j,hj,rfl,rfl,rfl,hA⟩:=hrel;by_cases hlt:j<2
  .have hidx:=aan none none 0 0 0 0 j hlt;rw[ite_self]at hidx;have hd:=VA wr;obtain⟨k1,hk1⟩:∃k1,k1+(j+1)=2:=⟨2-(j+1),by omega⟩
   go_wp2_with fail
   refine hd.mono ?_;clear hd;rintro e w2 ⟨rfl,hb2⟩;obtain⟨s1,kw⟩:=hA.out;obtain⟨w3,hw3⟩:=ex (w2.alloc (.cells #[.int .u64 0,.int .i64 0,.int .i64 0,.int .i64 0,.int .i64 0,.int .u32 0] 107 (0,0)))
   have k2:Keeps (fun _=>False) wr w2:=Keeps.of_below hb2;have s3:St w3 w2.heap.size 107 Rv:=by rw[hw3];exact St.new _ _ _
   have k3:Keeps (fun _=>False) w w3:=by rw[hw3];exact(kw.trans k2 fun _ h=>h.elim).alloc _
   have t1:St w3 w.heap.size 107 Rv:=by rw[hw3];exact(s1.keep k2 id).alloc _
   have u0:=s3.frozen 0;have u1:=s3.frozen 1;have u2:=s3.frozen 2;have u3:=s3.frozen 3;have u4:=s3.frozen 4;have u5:=s3.frozen 5;have q0:=s3.cell 0 rfl;have q1:=s3.cell 1 rfl;have q2:=s3.cell 2 rfl;have q3:=s3.cell 3 rfl;have q4:=s3.cell 4 rfl;have q5:=s3.cell 5 rfl;have H3:=Y2 t1 k3;rw[hw3]at u0 u1 u2 u3 u4 u5 q0 q1 q2 q3 q4 q5;clear k2 s3 k3 t1 s1 kw hb2 hA
   go_wp2_with fail
   rw[<-hw3]
   go_roundg k1
   case measure=>omega
   case rel=>exact⟨j+1,hk1,rfl,rfl,by simp,H3⟩
  .obtain rfl:j=2:=by omega
   obtain⟨s1,kw⟩:=hA.out;have t0:=s1.cell 0 rfl;have t1:=s1.cell 1 rfl;have t2:=s1.cell 2 rfl;have t3:=s1.cell 3 rfl;have t4:=s1.cell 4 rfl;have t5:=s1.cell 5 rfl;have u0:=s1.frozen 0;have u1:=s1.frozen 1;have u2:=s1.frozen 2;have u3:=s1.frozen 3;have u4:=s1.frozen 4;have u5:=s1.frozen 5;clear s1 kw
   go_wp2_with fail
   obtain⟨s1,kw⟩:=hA.out;have s2:=(((((s1.set 0 (.int .u64 0)).set 1 (.int .i64 0)).set 2 (.int .i64 0)).set 3 (.int .i64 0)).set 4 (.int .i64 0)).set 5 (.int .u32 0);refine bodyPost_ret (iE rfl _ _ w.heap.size 107 #[.int .u64 0,.int .i64 0,.int .i64 0,.int .i64 0,.int .i64 0,.int .u32 0] (0,0) _ rfl s2 cq rfl (by kernel_rfl)) rfl ⟨rfl,?_⟩;exact((((((kw.setCell (a:=⟨w.heap.size,0,none⟩) (.inr (ae _)) _).setCell (a:=⟨w.heap.size,1,none⟩) (.inr (ae _)) _).setCell (a:=⟨w.heap.size,2,none⟩) (.inr (ae _)) _).setCell (a:=⟨w.heap.size,3,none⟩) (.inr (ae _)) _).setCell (a:=⟨w.heap.size,4,none⟩) (.inr (ae _)) _).setCell (a:=⟨w.heap.size,5,none⟩) (.inr (ae _)) _).eG fun _ _ h=>h
theorem adD{W:aE}{g:Nat}(h:St W g 107 Rv):St ((((((W.setCell ⟨g,0,none⟩ (.int .u64 0)).setCell ⟨g,1,none⟩ (.int .i64 0)).setCell ⟨g,2,none⟩ (.int .i64 0)).setCell ⟨g,3,none⟩ (.int .i64 0)).setCell ⟨g,4,none⟩ (.int .i64 0)).setCell ⟨g,5,none⟩ (.int .u32 0)) g 107 Rv∧Keeps (fun j=>j=g) W ((((((W.setCell ⟨g,0,none⟩ (.int .u64 0)).setCell ⟨g,1,none⟩ (.int .i64 0)).setCell ⟨g,2,none⟩ (.int .i64 0)).setCell ⟨g,3,none⟩ (.int .i64 0)).setCell ⟨g,4,none⟩ (.int .i64 0)).setCell ⟨g,5,none⟩ (.int .u32 0)):=
 ⟨(((((h.set 0 (.int .u64 0)).set 1 (.int .i64 0)).set 2 (.int .i64 0)).set 3 (.int .i64 0)).set 4 (.int .i64 0)).set 5 (.int .u32 0),
  ((((((Keeps.refl (fun j=>j=g) W).setCell (a:=⟨g,0,none⟩) (.inl rfl) _).setCell (a:=⟨g,1,none⟩) (.inl rfl) _).setCell (a:=⟨g,2,none⟩) (.inl rfl) _).setCell (a:=⟨g,3,none⟩) (.inl rfl) _).setCell (a:=⟨g,4,none⟩) (.inl rfl) _).setCell (a:=⟨g,5,none⟩) (.inl rfl) _⟩
theorem Km(hD:aV w D b room F c)(h0:F (Kl 0)=none)(h1:F (Kl 1)=none):
 ba ab 41 #[.pointer (some ⟨b,0,none⟩)] w fun e w'=>e=.returned (.tuple #[.agg #[.int .u64 0,.int .i64 0,.int .i64 0,.int .i64 0,.int .i64 0,.int .u32 0],.bool false,.int .i64 0])∧aV w' D b room F c∧Stp D D w w':=by
 obtain⟨w1,hw1⟩:∃w1,w1=(w.alloc (.cells #[.int .u64 0,.int .i64 0,.int .i64 0,.int .i64 0,.int .i64 0,.int .u32 0] 107 (0,0))).alloc (.cells #[.slice none 0 0,.slice none 0 0] 129 (0,0)):=⟨_,rfl⟩
 have k1:Keeps (fun _=>False) w w1:=by rw[hw1];exact((Keeps.refl _ w).alloc _).alloc _
 have s1:St w1 w.heap.size 107 Rv:=by rw[hw1];exact(St.new _ _ _).alloc _
 have a1:St w1 (w.heap.size+1) 129 [.slice none 0 0,.slice none 0 0]:=by
  have:=St.new (w.alloc (.cells #[.int .u64 0,.int .i64 0,.int .i64 0,.int .i64 0,.int .i64 0,.int .u32 0] 107 (0,0))) 129 #[.slice none 0 0,.slice none 0 0];rw[hw1];simpa using this
 have hDl:∀j,D j->j<w.heap.size:=fun j h=>hD.lt h
 have H1:=Y1 (show St w1 w.heap.size 107 Rv∧St w1 (w.heap.size+1) 129 [.slice none 0 0,.slice none 0 0]∧aV w1 D b room F c∧Stp D D w w1 from⟨s1,a1,hD.keep k1 fun _ _=>id,k1.mono fun _ _ h=>h.elim,fun _ h=>.inl h⟩);have HX:=Y3 h0 h1 hDl;clear k1 s1 a1 hDl hD h0 h1;go_enter func41,ntmps41;have agr:=Y1 (show({data:= #[115,108,111,116,46]}:ByteArray)=FD from rfl)
 go_wp2_with fail
 rw[<-hw1];clear hw1
 go_loopg [3,4,7] 2 (fun kq v3 v4 v7 wr=>∃j:Nat,kq+j=2∧v3=.bool false∧(∃x,v4=.int .i64 x)∧v7=.int .i64 (j:Nat)∧aG (St wr w.heap.size 107 Rv∧St wr (w.heap.size+1) 129 [.slice none 0 0,.slice none 0 0]∧aV wr D b room F c∧Stp D D w wr))
 case atStart=>exact⟨0,by omega,rfl,⟨0,rfl⟩,rfl,H1⟩
 case round=>
  obtain⟨j,hj,rfl,⟨x,rfl⟩,rfl,hA⟩:=hrel;by_cases hlt:j<2
  .obtain⟨s1,a1,hD,hs⟩:=hA.out;have hit:=qy wr j (by omega);have hsz:=xC j;have hs5:FD.size=5:=rfl;have IV:=fun W=>lu FD (itoa j) (by omega) W
   have hx:F (nm (FD++itoa j))=none:=by
    rcases(by omega:j=0∨j=1)with rfl|rfl
    .exact HX.out.1
    .exact HX.out.2.1
   have hrd:=Mw hD (FD++itoa j) (by rw[ar];unfold maxLen;omega) hx;have nD:∀i,w.heap.size<=i->¬D i:=fun i hi h=>by have:=HX.out.2.2 i h;omega
   have HS:=Y4 s1 a1 hs nD;obtain⟨k1,hk1⟩:∃k1,k1+(j+1)=2:=⟨2-(j+1),by omega⟩
   clear s1 a1 hD hs hsz hs5 hx nD hA
   go_wp2_with fail
   refine hit.mono ?_;rintro e w3 ⟨rfl,rfl⟩;clear hit;rw[<-agr.out]at IV hrd
   go_wp2_with fail
   refine hrd.mono ?_;clear hrd;rintro e w4 ⟨rfl,hD4,hs4⟩;obtain⟨s1,a1,hs,nD⟩:=HS.out;have s4:=s1.keep hs4.1 (nD _ (ae _));have a4:=a1.keep hs4.1 (nD _ (by omega));have q0:=a4.cell 0 rfl;have q1:=a4.cell 1 rfl;have u0:=a4.frozen j;have KK:Keeps (fun i=>i=w.heap.size+1) w4 (w4.setCell ⟨w.heap.size+1,j,none⟩ (.slice none 0 0)):=(Keeps.refl (fun i=>i=w.heap.size+1) w4).setCell (a:=⟨w.heap.size+1,j,none⟩) (.inl rfl) _;have a5:St (w4.setCell ⟨w.heap.size+1,j,none⟩ (.slice none 0 0)) (w.heap.size+1) 129 [.slice none 0 0,.slice none 0 0]:=by
    have:=a4.set j (.slice none 0 0);rcases(by omega:j=0∨j=1)with rfl|rfl<;>exact this
   have H4:=Y4 (s4.keep KK (by omega)) a5 (hD4.keep KK fun i h e=>nD i (by omega) h) ((⟨(hs.trans hs4).1.setCell (a:=⟨w.heap.size+1,j,none⟩) (.inr (by show _<=_;exact Nat.le_succ _)) _,(hs.trans hs4).2⟩:Stp D D w (w4.setCell ⟨w.heap.size+1,j,none⟩ (.slice none 0 0))));have qj:w4.cell? ⟨w.heap.size+1,j,none⟩=some (.slice none 0 0):=by
    rcases(by omega:j=0∨j=1)with rfl|rfl
    .exact q0
    .exact q1
   clear s1 a1 hs nD s4 a4 hD4 hs4 q0 q1;clear KK a5
   go_wp2_with fail
   go_roundg k1
   case measure=>omega
   case rel=>exact⟨j+1,hk1,rfl,⟨_,rfl⟩,by simp,H4⟩
  .obtain rfl:j=2:=by omega
   obtain⟨s1,a1,hD,hs⟩:=hA.out;have q0:=a1.cell 0 rfl;have q1:=a1.cell 1 rfl;have hch:=ME wr;clear s1 a1 hD hs
   go_wp2_with fail
   refine hch.mono ?_;clear hch;rintro e w4 ⟨rfl,hb4⟩;obtain⟨s1,a1,hD,hs⟩:=hA.out;have k4:Keeps (fun _=>False) wr w4:=Keeps.of_below hb4;have s4:=s1.keep k4 id;have t0:=s4.cell 0 rfl;have t1:=s4.cell 1 rfl;have t2:=s4.cell 2 rfl;have t3:=s4.cell 3 rfl;have t4:=s4.cell 4 rfl;have t5:=s4.cell 5 rfl;have u0:=s4.frozen 0;have u1:=s4.frozen 1;have u2:=s4.frozen 2;have u3:=s4.frozen 3;have u4:=s4.frozen 4;have u5:=s4.frozen 5;have H4:=Y3 s4 (hD.keep k4 fun _ _=>id) (hs.1.trans k4 fun _ h=>h.elim);clear s1 a1 hD hs k4 s4 hb4 q0 q1
   go_wp2_with fail
   obtain⟨s4,hD,hs⟩:=H4.out;obtain⟨s5,k5⟩:=adD s4;obtain⟨s6,k6⟩:=adD s5;have nD:=HX.out.2.2;refine bodyPost_ret (iE rfl _ _ w.heap.size 107 #[.int .u64 0,.int .i64 0,.int .i64 0,.int .i64 0,.int .i64 0,.int .u32 0] (0,0) _ rfl s6 cq rfl (by kernel_rfl)) rfl ⟨rfl,?_,?_,fun _ h=>.inl h⟩
   .exact(hD.keep k5 fun i h e=>by have:=nD i h;omega).keep k6 fun i h e=>by have:=nD i h;omega
   .exact(hs.trans k5 fun i e=>.inr (by omega)).trans k6 fun i e=>.inr (by omega)
end Go.Proofs.YtlhhcnknclnlaaaGreatDoor.Top
