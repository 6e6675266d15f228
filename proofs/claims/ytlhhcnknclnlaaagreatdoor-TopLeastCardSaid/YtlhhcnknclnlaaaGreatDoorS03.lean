/- Parts of the proof. -/
import Derived.Deep.LoopGhost
import Derived.Test.YtlhhcnknclnlaaaGreatDoorS01
import Derived.Test.YtlhhcnknclnlaaaGreatDoorS02
set_option linter.all false
set_option maxRecDepth 100000
set_option maxHeartbeats 16000000
open Go.World renaming block_lt_of_cell?->aa,cell?_of_block->cC,cell?->cG,ownsRow_nil->dp
open Nat renaming le_refl->ab,le_trans->bz,lt_of_lt_of_le->cF,lt_irrefl->cH,ne_of_lt->cJ,add_assoc->dT
open Go.Proofs.Tryz renaming prog->ae,underlying283->ba,ntmps253->dd,func253->dj,underlying40->dq,ntmps233->ef,t283->eh,func233->ek
open Go.RowKit.Below renaming heap_setCell->af,refl->az
open List renaming mem_append->ag,getElem?_eq_some_iff->ai,getElem?_eq_getElem->al,getElem?_cons_succ->an,getElem?_cons_zero->ao,mem_cons->ar,filterMap_cons->aw,filterMap_nil->aE,take_of_length_le->a_,append_assoc->bb,flatten_cons->bj,pairwise_append->bt,getElem_of_mem->ca,length_append->cd,length_cons->cx,eq_nil_iff_forall_not_mem->cy,map_cons->cz,take_append_of_le_length->cD,mem_append_left->cE,nil_append->cM,append_nil->cN,mem_append_right->cU,mem_of_getElem?->cX,mem_cons_of_mem->c_,length_pos_iff->da,pairwise_cons->df,mem_cons_self->dg,take_add_one->di,length_drop->dr,mem_flatten->du,perm_middle->dv,range->dC
open Option.some renaming inj->aq
open Go renaming Calls->ax,World->cA,Value->cW,Addr->de
open Go.RowKit renaming Below->bk
open Int renaming le_refl->cm,le_trans->cq,min_eq_right->dt,min_eq_left->dy,tdiv->dE
open Go.Addr renaming add->cI
open Prod renaming fst->cY,snd->eo
open Go.Proofs.Tryz
namespace Go.Proofs.YtlhhcnknclnlaaaGreatDoor.Oct
open Go.RowKit Go.Proofs.YtlhhcnknclnlaaaGreatDoor.iH Go.Proofs.ah.aN Go.Proofs.ah.bA Go.Proofs.ah.dx
def Pv(l:List (List Int)):Prop:=∀t∈l,Bytes t∧t.length<=1000
def encs(l:List (List Int)):List Int:=(l.map enc).flatten
theorem Pw:encs []=[]:=rfl
theorem kL(t:List Int)(l:List (List Int)):encs (t::l)=enc t++encs l:=by simp[encs]
theorem Eu(a b:List (List Int)):encs (a++b)=encs a++encs b:=by simp[encs]
theorem yx{l:List (List Int)}(h:∀t∈l,Bytes t):Bytes (encs l):=by
 induction l with
 |nil=>exact Bytes.nil
 |cons t l ih=>rw[kL];exact(AA (h t (by simp))).append (ih fun x hx=>h x (by simp[hx]))
theorem yA{l:List (List Int)}(h:∀t∈l,t.length<=1000):(encs l).length<=1006*l.length:=by
 induction l with
 |nil=>simp[Pw]
 |cons t l ih=>
  have:=ih fun x hx=>h x (by simp[hx])
  have:=h t (by simp);rw[kL,cd,eH,cx];omega
def Ev:Nat->List Int->List (List Int)->Int->List (List Int)×Int×Int
 |0,_,acc,_=>(acc,0,0)
 |f+1,b,acc,at_=>if(b.length:Int)<=at_ then(acc,0,0)else
  if(dec (b.drop at_.toNat)).2.2=0 then Ev f b (acc++[(dec (b.drop at_.toNat)).1]) (at_+(dec (b.drop at_.toNat)).2.1)else([],at_,(dec (b.drop at_.toNat)).2.2)
def all(b:List Int):List (List Int)×Int×Int:=Ev (b.length+1) b [] 0
variable {b:List Int}
theorem Px(hb:Bytes b)(hl:b.length<=1000000)(f:Nat):∀(k:Nat) (acc:List (List Int)) (at_:Int),0<=at_->(b.length:Int)<at_+f->1<=f->(acc.length:Int)<=at_->10030+f<k->
 gH.l0 k b acc at_=some (Ev f b acc at_):=by
 induction f with
 |zero=>intro k acc at_ h0 h1 hf;omega
 |succ f ih=>
  intro k acc at_ h0 h1 hf ha hk;obtain⟨k,rfl⟩:∃m,k=m+1:=⟨k-1,by omega⟩
  simp only[gH.l0,Ev];by_cases g:(b.length:Int)<=at_
  .rw[if_neg (by omega),if_pos g]
  .rw[if_pos (by omega),if_neg g,if_pos (by omega),if_pos (by omega),AB (hb.drop _) (by simp only[dr];omega) k (by omega)];simp only[Option.bind_some];obtain⟨s0,s1,s2,s3⟩:=Ph (hb.drop at_.toNat);by_cases e:(dec (b.drop at_.toNat)).2.2=0
   .have:=(s3 e).1;rw[if_pos e,if_pos e,if_pos (by omega)];simp only[dr]at s2;rw[dW (by omega) (by omega)];exact ih k _ _ (by omega) (by omega) (by omega) (by simp;omega) (by omega)
   .rw[if_neg e,if_neg e]
theorem Ym(hb:Bytes b)(hl:b.length<=1000000)(k:Nat)(hk:10031+b.length<k):gH.f k b=some (all b):=
 Px hb hl (b.length+1) k [] 0 (by omega) (by omega) (by omega) (by simp) (by omega)
theorem La{r:List Int}(l:List (List Int)):Pv l->∀(acc:List (List Int)) (f:Nat) (pre:List Int),Ev (f+l.length) (pre++(encs l++r)) acc (pre.length:Int)=Ev f (pre++(encs l++r)) (acc++l) ((pre.length:Int)+(encs l).length):=by
 induction l with
 |nil=>intro _ acc f pre;simp[encs]
 |cons t l ih=>
  intro h acc f pre;have ht:=h t (by simp);have hd:(pre++(encs (t::l)++r)).drop ((pre.length:Int)).toNat=enc t++(encs l++r):=by
   rw[Int.toNat_natCast,drop_left' rfl,kL,bb]
  have hdec:=Ju ht.1 ht.2 (encs l++r);rw[cx,<-dT]
  conv=>lhs;rw[Ev]
  have hlen:(pre++(encs (t::l)++r)).length=pre.length+(t.length+6)+(encs l).length+r.length:=by
   simp[kL,eH];omega
  rw[if_neg (by omega),hd,hdec];simp only[if_true];have:=ih (fun x hx=>h x (by simp[hx])) (acc++[t]) f (pre++enc t);rw[show pre++enc t++(encs l++r)=pre++(encs (t::l)++r) by simp[kL]]at this;rw[show((pre++enc t).length:Int)=(pre.length:Int)+((t.length:Int)+6) by simp[eH]]at this;rw[this];simp only[bb,List.singleton_append]
  congr 1
  simp[kL,eH];omega
theorem Py{l:List (List Int)}(h:Pv l):all (encs l)=(l,0,0):=by
 unfold all;have hb:=yx (fun t ht=>(h t ht).1);have hge:l.length<=(encs l).length:=by
  clear hb
  induction l with
  |nil=>simp
  |cons t l ih=>
   have:=ih fun x hx=>h x (by simp[hx])
   simp[kL,eH];omega
 have e:=La (r:=[]) l h [] ((encs l).length+1-l.length) [];simp only[cM,cN,List.length_nil]at e;rw[show(encs l).length+1-l.length+l.length=(encs l).length+1 by omega]at e;rw[show(0:Int)=((0:Nat):Int)from rfl,e];obtain⟨m,hm⟩:∃m,(encs l).length+1-l.length=m+1:=⟨(encs l).length-l.length,by omega⟩
 rw[hm];simp only[Ev];rw[if_pos (by omega)];rfl
end Go.Proofs.YtlhhcnknclnlaaaGreatDoor.Oct
namespace Go.Proofs.YtlhhcnknclnlaaaGreatDoor.Top
open Go Go.WideShapes Go.RowKit Go.Proofs.YtlhhcnknclnlaaaGreatDoor.iH Go.Proofs.YtlhhcnknclnlaaaGreatDoor.Oct Go.Proofs.ah.aN Go.Proofs.ah.bA
def vU(w0 w:cA)(A:Option de)(n c:Nat)(l:List Int):Prop:=l.length=n∧w.ownsRow w0.heap.size 5 1 (.slice A n c) n (nums .u8 l)
variable {A:Option de}{V w w0:cA}{b base br bw c c' g k n o room:Nat}
theorem vU.Pz{l:List Int}(h:Kd.R (Kd.int .u8) 5 w w0.heap.size (fun _=>True) (.slice A l.length c) l):vU w0 w A l.length c l:=⟨rfl,Kd.jQ h⟩
theorem vU.C{w0 w:cA}{A:Option de}{n c:Nat}{l:List Int}(h:vU w0 w A n c l):Kd.C (Kd.int .u8) w A n l:=Kd.dP (d:=(0:Int)) (gD h.2)
theorem vU.cap{l:List Int}(h:vU w0 w A n c l):n<=c:=wR h.2
theorem vU.fresh{l:List Int}(h:vU w0 w A n c l){a:de}(e:A=some a):w0.heap.size<=a.block∧a.block<w.heap.size:=by
 subst e;exact⟨iM h.2 _ rfl,bJ h.2 _ rfl⟩
theorem below_drewN{B:Nat}{a:cA}(h:bk B a w)(n:Nat):bk B a (w.drewN n):=⟨h.os,h.tape,h.output,h.size,h.block⟩
variable {v:cW}
theorem qm{l:List Int}(h:Kd.R (Kd.int .u8) 5 w b (fun _=>True) v l):∃A c,v=.slice A l.length c:=Kd.dV h
theorem Ew{l:List Int}(h:Kd.C (Kd.int .u8) w A l.length l)(hc:l.length<=c)(a x:Int)(hl:l.length<100000000000):
 ax ae 117 #[.slice A l.length c,.int .i64 a,.int .u64 x] w fun e w'=>∃A' c',e=.returned (.slice A' (l++le (sz a) x).length c')∧vU w w' A' (l++le (sz a) x).length c' (l++le (sz a) x)∧bk w.heap.size w w':=by
 refine(dH.calls 20 _ _ l _ _ _ _ h hc (GU 20 l a x (by omega) (by omega))).mono ?_;rintro e w3 ⟨v3,rfl,ho3,hb3⟩;obtain⟨A3,c3,rfl⟩:=qm ho3;exact⟨A3,c3,rfl,.Pz ho3,hb3⟩
variable {a x:Int}
theorem JI{l:List Int}(h:Kd.C (Kd.int .u8) w A l.length l)(hc:l.length<=c)(hb:Bytes l){s:Int}(h1:1<=s)(h8:s<=8)(h0:0<=a)(hl:a+s<=l.length):
 ax ae 94 #[.slice A l.length c,.int .i64 a,.int .i64 s] w fun e w'=>e=.returned (.tuple #[.int .u64 (num ((l.drop a.toNat).take s.toNat)),.bool true])∧bk w.heap.size w w':=
 av.calls _ _ l _ _ _ _ _ h hc (Co hb h1 h8 h0 hl)
theorem WS{l:List Int}(h:Kd.C (Kd.int .u8) w A l.length l)(hc:l.length<=c)(hb:Bytes l)(hl:l.length<=1000000):
 ax ae 93 #[.slice A l.length c] w fun e w'=>∃A' c',e=.returned (.tuple #[.slice A' (dec l).1.length c',.int .i64 (dec l).2.1,.int .i64 (dec l).2.2])∧vU w w' A' (dec l).1.length c' (dec l).1∧bk w.heap.size w w':=by
 refine(bW.calls 20000 _ _ l _ _ _ _ h hc (AB hb (by omega) 20000 (by omega))).mono ?_;rintro e w3 ⟨v3,rfl,ho3,hb3⟩;obtain⟨A3,c3,rfl⟩:=qm ho3;exact⟨A3,c3,rfl,.Pz ho3,hb3⟩
theorem abT{B:Option de}{d:Nat}{l r:List Int}(hg:w.heap[g]? =some (.cells #[.slice A n c,.slice B k d] 40 (0,0)))(h1:Kd.C (Kd.int .u8) w A n l)(hc:n<=c)(h2:Kd.C (Kd.int .u8) w B k r)(hd:k<=d):
 Kd.C (Kd.slice 5 (Kd.int .u8)) w (some ⟨g,0,none⟩) 2 [l,r]:=by
 have e1:=h1.1;have e2:=h2.1;subst e1;subst e2;refine⟨rfl,by omega,fun _=>⟨_,rfl,fun j p hj=>?_⟩⟩
 match j,hj with
 |0,hj=>
  obtain rfl:l=p:=by simpa using hj
  refine⟨[.slice A l.length c],rfl,⟨A,c,rfl,hc,h1⟩,fun i u hu=>?_⟩;have hi:i=0:=by have:=(ai.1 hu).1;simpa using this
  subst hi;obtain rfl:Value.slice A l.length c=u:=by simpa using hu
  simp[cG,hg,cI,Kd.slice]
 |1,hj=>
  obtain rfl:r=p:=by simpa using hj
  refine⟨[.slice B r.length d],rfl,⟨B,d,rfl,hd,h2⟩,fun i u hu=>?_⟩;have hi:i=0:=by have:=(ai.1 hu).1;simpa using this
  subst hi;obtain rfl:Value.slice B r.length d=u:=by simpa using hu
  simp[cG,hg,cI,Kd.slice]
theorem PD{l:List Int}(h:Kd.C (Kd.int .u8) w A l.length l)(hc:l.length<=c)(hb:Bytes l)(hl:l.length<=1000):
 ax ae 118 #[.slice A l.length c] w fun e w'=>∃A' c',e=.returned (.tuple #[.slice A' (enc l).length c',.int .i64 0])∧vU w w' A' (enc l).length c' (enc l)∧bk w.heap.size w w':=by
 have HC:=Y1 h;have HB:=Y1 hb;have hP:=Ew (w:=w) (A:=none) (c:=0) (l:=[]) (Kd.xJ _ _) (ab _) 2 (l.length:Int) (by simp);clear h hb;have hng:¬((l.length:Int)>1000):=by omega
 generalize hN:l.length=n at*;go_enter func118,ntmps118
 go_wp2_with fail
 refine hP.mono ?_;rintro e w1 ⟨A1,c1,rfl,o1,b1⟩;have e1:([]++le (sz 2) (n:Int)).length=2:=by simp[bB];rfl
 rw[e1]at o1⊢;have HX:=Y2 o1 b1;clear hP o1 b1 e1
 go_wp2_with fail
 obtain⟨o1,b1⟩:=HX.out;have b2:=b1.alloc b1.size (.cells #[.slice A1 2 c1,.slice A n c] 40 (0,0));have hC2:=abT (heap_alloc_new w1 (.cells #[.slice A1 2 c1,.slice A n c] 40 (0,0))) (Kd.bM o1.C ((az _ w1).alloc (ab _) _)) o1.cap (Kd.bM HC.out b2) hc;have hfl:[[]++le (sz 2) (n:Int),l].flatten=hd l:=by simp[hd,hN];rfl
 refine(aX.calls _ 2 [[]++le (sz 2) (n:Int),l] (hd l) _ hC2 (ab _) (by unfold aX.f;rw[hfl,if_pos (by rw[oo];omega)])).mono ?_;rintro e w3 ⟨v3,rfl,ho3,hb3⟩;obtain⟨A3,c3,rfl⟩:=qm ho3;have hl3:(hd l).length=n+2:=by rw[oo,hN]
 have O3:=(vU.Pz ho3)
 rw[hl3]at O3⊢;have B3:=b2.trans (hb3.mono (by have:=b1.size;simp;omega));have HX:=Y2 O3 B3;clear o1 b1 b2 hC2 hfl ho3 hb3 O3 B3
 go_wp2_with fail
 have hcap:=HX.out.1.cap;have wX:=HX.out.1.C;rw[<-hl3]at hcap wX⊢;refine(bK.calls 20000 A3 c3 (hd l) _ w3 wX hcap (Pg (tZ HB.out) (by omega) 20000 (by omega))).mono ?_;rintro e w4 ⟨rfl,⟨j,rfl⟩⟩;clear hcap wX;have hcr:=Ou (tZ HB.out);generalize hK:crc (hd l)=K at*
 go_wp2_with fail
 have hP:=Ew (w:=w3.drewN j) (l:=hd l) (A:=A3) (c:=c3) (by rw[hl3];exact HX.out.1.C) (by rw[hl3];exact HX.out.1.cap) 4 (K:Int) (by omega);rw[hl3]at hP;refine hP.mono ?_;rintro e w5 ⟨A5,c5,rfl,o5,b5⟩;have he:hd l++le (sz 4) (K:Int)=enc l:=by rw[enc,hK];rfl
 rw[he]at o5⊢;have hsz:=HX.out.2.size;have HY:=Y2 (show vU w w5 A5 (enc l).length c5 (enc l)from⟨o5.1,NR o5.2 hsz⟩) ((below_drewN HX.out.2 j).trans (b5.mono hsz));clear o5 b5
 go_wp2_with fail
 exact bodyPost_ret (results_tmp2 rfl _ _ _) rfl ⟨_,_,rfl,HY.out⟩
abbrev Rc:Type:=Int×Int
def Lb(r:Rc):List Int:=le 8 r.1++le 8 r.2
def text(l:List Rc):List Int:=(l.map Lb).flatten
theorem Ey(r:Rc):(Lb r).length=16:=by simp[Lb,bB]
theorem jl(l:List Rc):(text l).length=16*l.length:=by
 induction l with
 |nil=>rfl
 |cons r l ih=>simp only[text,cz,bj,cd,Ey,cx]at ih ⊢; omega
theorem Lc(l:List Rc)(r:Rc):text (l++[r])=text l++Lb r:=by simp[text]
theorem jI(l:List Rc):Bytes (text l):=by
 induction l with
 |nil=>intro x hx;cases hx
 |cons r l ih=>exact((iO 8 _).append (iO 8 _)).append ih
theorem PE{l:List Int}(h:Kd.C (Kd.int .u8) w A n l)(hc:n<=c)(x:Int)(hl:n<100000000000):
 ax ae 117 #[.slice A n c,.int .i64 8,.int .u64 x] w fun e w'=>∃A' c',e=.returned (.slice A' (n+8) c')∧vU w w' A' (n+8) c' (l++le 8 x)∧bk w.heap.size w w':=by
 have e1:=h.1;subst e1;refine(Ew h hc 8 x hl).mono ?_;rintro e w' ⟨A',c',rfl,o,b⟩;have:(l++le (sz 8) x).length=l.length+8:=by rw[cd,bB];rfl
 rw[this]at o⊢;exact⟨_,_,rfl,o,b⟩
def Writer(w:cA)(T:Nat->Prop)(bw b:Nat)(s:ByteArray)(l:List Rc):Prop:=
 ∃A c,St w bw 328 [.pointer (some ⟨b,0,none⟩),.string s,.slice A (16*l.length) c,.bool false]∧Kd.C (Kd.int .u8) w A (16*l.length) (text l)∧16*l.length<=c∧T bw∧(∀a,A=some a->T a.block)∧∀k,T k->k<w.heap.size
variable {D T:Nat->Prop}
theorem wY{s:ByteArray}{l:List Rc}(h:Writer w T bw b s l)(hl:l.length<49)(r:Rc):
 ax ae 205 #[.pointer (some ⟨bw,0,none⟩),.agg #[.int .u64 r.1,.int .u64 r.2]] w fun e w'=>e=.returned (.int .i64 0)∧∃T',Writer w' T' bw b s (l++[r])∧Stp T T' w w':=by
 obtain⟨A,c,hst,hC,hc,hT,hA,hlt⟩:=h;obtain⟨W,hW⟩:=ex (w.alloc (.cells #[.int .u64 r.1,.int .u64 r.2] 283 (0,0)))
 have hs1:=hst.alloc (.cells #[.int .u64 r.1,.int .u64 r.2] 283 (0,0));rw[<-hW]at hs1;have c3:=hs1.cell 3 rfl;have HH:=Y4 hst hC hW hs1;have q2:∀w',bk W.heap.size W w'->w'.cell? ⟨bw,2,none⟩=some (.slice A (16*l.length) c):=fun w' hb=>(hb.cell (hs1.lt)).trans (hs1.cell 2 rfl)
 have hN:St W w.heap.size 283 [.int .u64 r.1,.int .u64 r.2]:=by rw[hW];exact St.new _ _ _
 have r0:∀w',bk W.heap.size W w'->w'.cell? ⟨w.heap.size,0,none⟩=some (.int .u64 r.1):=fun w' hb=>(hb.cell (hN.lt)).trans (hN.cell 0 rfl)
 have r1:∀w',bk W.heap.size W w'->w'.cell? ⟨w.heap.size,1,none⟩=some (.int .u64 r.2):=fun w' hb=>(hb.cell (hN.lt)).trans (hN.cell 1 rfl)
 have HQ:=Y3 q2 r0 r1;clear q2 r0 r1 hN hs1 hst hC;rw[hW]at c3;go_enter func205,ntmps205
 go_wp2_with fail
 rw[<-hW];have hBW:bk w.heap.size w W:=by rw[hW];exact(az _ w).alloc (ab _) _
 have hW1:W.heap.size=w.heap.size+1:=by rw[hW];simp
 have HW:=Y2 hBW hW1;clear hW hBW hW1;refine gF (bk W.heap.size W) [0,1,2,3,5,8] [4,6,9] [7,10] [] [11,12,13] (by kernel_rfl) (fun _ _ x _ _ h=>by cases x<;>exact h) ((az _ W).drew) (by kernel_rfl) ?_;simp only[aJ,aw,aE,an,ao]
 repeat (refine aI (fun K hK=>?_);go_simp;refine hK _ ?_;clear hK K)
 refine au ?_;refine ak (fun K hK=>?_);go_simp;refine⟨.slice A (16*l.length) c,fun w' hw'=>(by rw[HQ.out.1 w' hw'];rfl),hK _ ?_⟩;clear hK K;refine ak (fun K hK=>?_);go_simp;refine⟨.int .u64 r.1,fun w' hw'=>(by rw[HQ.out.2.1 w' hw'];rfl),hK _ ?_⟩;clear hK K;refine ak (fun K hK=>?_);go_simp;refine⟨.int .u64 r.2,fun w' hw'=>(by rw[HQ.out.2.2 w' hw'];rfl),hK _ ?_⟩;clear hK K;refine bD ?_;intro W0 hb0;have HB0:=Y1 hb0;clear hb0;refine aH (fun K hK=>?_);go_simp;refine(PE (jf HH.out.2.1 fun a e=>?_) hc r.1 (by omega)).mono ?_
 .have h1:=hlt _ (hA a e);have h2:=HW.out;exact(HB0.out.block _ (by omega)).trans (h2.1.block _ h1)
 rintro e W2 ⟨A2,c2,rfl,o2,b2⟩;have hb2:=HB0.out.trans (b2.mono HB0.out.size);refine hK _ _ hb2 ?_;clear hK K;have H2:=Y2 o2 hb2;clear o2 b2 hb2;refine aH (fun K hK=>?_);go_simp;refine(PE H2.out.1.C H2.out.1.cap r.2 (by omega)).mono ?_;rintro e W3 ⟨A3,c3',rfl,o3,b3⟩;have hb3:=H2.out.2.trans (b3.mono H2.out.2.size);refine hK _ _ hb3 ?_;clear hK K;have H3:=Y2 o3 hb3;clear o3 b3 hb3;refine aQ (au ?_);have s3:St W3 bw 328 _:=(H3.out.2.block _ HH.out.2.2.2.lt).trans HH.out.2.2.2;have e2:=s3.cell 2 rfl;have f2:=s3.frozen 2;have s4:=s3.set 2 (.slice A3 (16*l.length+8+8) c3');have e4:=s4.cell 2 rfl;have HF:=Y2 s3 s4;clear s3 s4 c3;have hll:(16*l.length+8+8:Nat)<800:=by omega
 go_wp2
 obtain⟨s3,s4⟩:=HF.out;obtain⟨o3,b3⟩:=H3.out;have hw3:=HW.out.1.trans (b3.mono (by have:=HW.out.2;omega));have e5:16*(l++[r]).length=16*l.length+8+8:=by simp;omega
 go_ret;refine⟨rfl,fun k=>k=bw∨∃a,A3=some a∧k=a.block,⟨A3,c3',by rw[e5];exact s4,?_,by rw[e5];exact o3.cap,.inl rfl,fun a e=>.inr ⟨a,e,rfl⟩,fun k hk=>?_⟩,(Keeps.of_below hw3).setCell (.inl hT) _,fun k hk=>?_⟩
 .rw[e5,Lc,Lb,<-bb];refine jf o3.C fun a e=>af _ _ _ _ fun e'=>?_
  subst e;exact s3.own_ne o3.2 (by decide) _ rfl e'
 .rcases hk with rfl|⟨a,e,rfl⟩
  .simpa using s3.lt
  .simpa using(o3.fresh e).2
 .rcases hk with rfl|⟨a,e,rfl⟩
  .exact .inl hT
  .have h1:=(o3.fresh e).1;have h2:=H2.out.2.size;have h3:=HW.out.2;right;omega
def jC(S T:Nat->Prop):Nat->Prop:=fun k=>S k∨T k
variable {F:Files}
theorem qo(h:aV w D b room F c)(s:ByteArray)(h0:0<s.size)(R4:s.size<=24)(hx:F (nm s)=none)(hc:c<1000000):
 ax ae 203 #[.pointer (some ⟨b,0,none⟩),.string s] w fun e w'=>∃bw D' T,e=.returned (.tuple #[.pointer (some ⟨bw,0,none⟩),.int .i64 0])∧aV w' D' b room (upd F (nm s) (some [])) (c+1)∧Writer w' T bw b s []∧Stp D D' w w'∧∀k,T k->w.heap.size<=k∧¬D' k:=by
 go_enter func203,ntmps203
 go_wp2_with (first|(go_at_call 209;refine(rW h s h0 R4 hx hc).mono ?_;rintro e w1 ⟨rfl,D',hd,hk⟩;have HH:=Y2 hd hk;clear hd hk))
 obtain⟨hd,hk⟩:=HH.out;have hN:=St.new w1 328 #[.pointer (some ⟨b,0,none⟩),.string s,.slice none 0 0,.bool false];refine bodyPost_ret (results_tmp2 rfl _ _ _) rfl ⟨_,D',fun k=>k=w1.heap.size,rfl,hd.keep (S:=fun _=>False) ((Keeps.refl _ w1).alloc _) fun _ _=>id,⟨none,0,hN,Kd.xJ _ _,ab _,rfl,fun a e=>(by cases e),fun k hk'=>?_⟩,hk.trans ⟨(Keeps.refl D' w1).alloc _,fun _ h=>.inl h⟩,fun k hk'=>?_⟩
 .obtain rfl:k=w1.heap.size:=hk';simp
 .obtain rfl:k=w1.heap.size:=hk';exact⟨hk.1.size,fun h=>cH _ (hd.lt h)⟩
theorem abU{s:ByteArray}{l:List Rc}(h:aV w D b room F c)(hw:Writer w T bw b s l)(iI:∀k,T k->¬D k)(hs:s.size<=maxLen)(hx:F (nm s)=some [])(hl:l≠[])(hl2:l.length<=49)(hroom:c+(l.length+1)<=room):
 ax ae 233 #[.pointer (some ⟨bw,0,none⟩)] w fun e w'=>e=.returned (.int .i64 0)∧∃D' T' c',aV w' D' b room (upd F (nm s) (some (enc (text l)))) c'∧c'<=c+(l.length+1)∧Writer w' T' bw b s []∧Stp (jC D T) (jC D' T') w w'∧∀k,T' k->¬D' k:=by
 obtain⟨A,cp,hst,hC,hcap,hT,hA,hlt⟩:=hw;have c2:=hst.cell 2 rfl;have hlp:=da.2 hl;have hz:¬(16*l.length=0):=by omega
 have htl:=jl l;have hE:=PD (w:=w) (A:=A) (c:=cp) (l:=text l) (by rw[htl];exact hC) (by rw[htl];exact hcap) (jI l) (by omega);rw[htl]at hE;have hel:(enc (text l)).length=16*l.length+6:=by rw[eH,htl]
 rw[hel]at hE;have HH:=Y2 h hst;clear h hst hC htl hel;go_enter ek,ef
 go_wp2_with (first|(go_at_call 118;refine hE.mono ?_;rintro e w1 ⟨A1,c1,rfl,o1,b1⟩;have H1:=Y2 o1 b1;clear o1 b1))
 obtain⟨hd,hst⟩:=HH.out;obtain⟨o1,b1⟩:=H1.out;obtain⟨ad,rfl⟩:∃ad,A1=some ad:=by
  rcases A1 with _|ad
  .rcases o1.2.2 with⟨_,h0⟩|⟨g,cap,cur,e,_⟩
   .omega
   .cases e
  .exact⟨ad,rfl⟩
 have s1:St w1 bw 328 _:=(b1.block _ hst.lt).trans hst;have d0:=s1.cell 0 rfl;have d1:=s1.cell 1 rfl;have hd1:=hd.keep (S:=fun _=>False) (Keeps.of_below b1) fun _ _=>id
 have hfr:=o1.fresh rfl;have afa:¬D ad.block:=fun h=>by have:=hd.lt h;omega
 have H2:=Y2 hd1 s1;clear hd hst o1 b1 s1 hd1 c2 hE;refine dG [] [0,1,2,3,4,5,6,7,8] [9,10] (by kernel_rfl) (fun _ _ x _ _ h=>by cases x<;>exact h) (by kernel_rfl) ?_;simp only[aJ,aw,aE,an,ao];refine au ?_
 repeat quiet_step (fail)
 refine wpQuiet_nil ?_;rintro _ ⟨nq,rfl⟩
 go_wp2_with fail
 have hd2:=H2.out.1.keep (S:=fun _=>False) ((Keeps.refl _ w1).drewN nq) fun _ _=>id
 refine(Ad hd2 s hs hx (ad:=ad) (k:=16*l.length+6) (cap:=c1) (bs:=enc (text l)) H1.out.1.C H1.out.1.cap (by omega) (by omega) afa (by simp[sec];omega)).mono ?_;rintro e w2 ⟨rfl,D',hd3,hk3⟩;have s2:St w2 bw 328 _:=(show St (w1.drewN nq) bw 328 _ from H2.out.2).keep hk3.1 (iI _ hT);have f2:=s2.frozen 2;have f3:=s2.frozen 3;have e2:=s2.cell 2 rfl;have e3:=s2.cell 3 rfl;have s3:=s2.set 2 (.slice none 0 0);have f3':=s3.frozen 3;have e3':=s3.cell 3 rfl;have s4:=s3.set 3 (.bool false);have H3:=Y5 hd3 hk3 s2 s3 s4;clear hd2 hd3 hk3 s2 s3 s4 d0 d1
 go_wp2
 obtain⟨hd3,hk3,s2,s3,s4⟩:=H3.out;rw[cM]at hd3;have b1:=H1.out.2;have hbw:¬D' bw:=fun h=>(hk3.2 _ h).elim (iI _ hT) fun h=>by
  have:=hlt _ hT;have:=b1.size;simp at h;omega
 have kW:Keeps (fun k=>k=bw) w2 ((w2.setCell ⟨bw,2,none⟩ (.slice none 0 0)).setCell ⟨bw,3,none⟩ (.bool false)):=((Keeps.refl (fun k=>k=bw) w2).setCell (a:=⟨bw,2,none⟩) (.inl rfl) _).setCell (a:=⟨bw,3,none⟩) (.inl rfl) _;have k1:Keeps (jC D T) w (w1.drewN nq):=(Keeps.of_below b1).drewN nq;go_ret;refine⟨rfl,D',fun k=>k=bw,_,hd3.keep kW fun k hk e=>hbw (e▸hk),?_,⟨none,0,s4,Kd.xJ _ _,ab _,rfl,fun a e=>(by cases e),fun k hk=>?_⟩,⟨(k1.trans hk3.1 fun i hi=>.inl (.inl hi)).trans kW fun i hi=>.inl (.inr (by subst hi;exact hT)),fun k hk=>?_⟩,fun k hk h=>hbw (by subst hk;exact h)⟩
 .simp[sec];omega
 .subst hk;exact s4.lt
 .rcases hk with hk|hk
  .rcases hk3.2 k hk with h|h
   .exact .inl (.inl h)
   .right;have:=b1.size;simp at h;omega
  .subst hk;exact .inl (.inr hT)
def fileOf(l:List Rc):List Int:=if l=[]then[]else enc (text l)
theorem TG{s:ByteArray}(hw:Writer w T bw b s []):
 ax ae 233 #[.pointer (some ⟨bw,0,none⟩)] w fun e w'=>e=.returned (.int .i64 0)∧w'=w:=by
 obtain⟨A,cp,hst,hC,hcap,hT,hA,hlt⟩:=hw;have c2:=hst.cell 2 rfl;have h0:16*([]:List Rc).length=0:=rfl;rw[h0]at c2;clear hst hC hcap hA hlt h0;go_enter ek,ef
 go_wp2
 go_ret;exact⟨rfl,rfl⟩
theorem TH{s:ByteArray}{l:List Rc}(h:aV w D b room F c)(hw:Writer w T bw b s l)(iI:∀k,T k->¬D k)(hs:s.size<=maxLen)(hx:F (nm s)=some [])(hl2:l.length<=49)(hroom:c+(l.length+1)<=room):
 ax ae 233 #[.pointer (some ⟨bw,0,none⟩)] w fun e w'=>e=.returned (.int .i64 0)∧∃D' T' c',aV w' D' b room (upd F (nm s) (some (fileOf l))) c'∧c'<=c+(l.length+1)∧Writer w' T' bw b s []∧Stp (jC D T) (jC D' T') w w'∧∀k,T' k->¬D' k:=by
 by_cases hl:l=[]
 .subst hl;refine(TG hw).mono ?_;rintro e w' ⟨rfl,rfl⟩;refine⟨rfl,D,T,c,?_,by omega,hw,Stp.refl _ _,iI⟩;rw[show fileOf []=[]from rfl,uR hx];exact h
 .rw[show fileOf l=enc (text l)from if_neg hl];exact abU h hw iI hs hx hl hl2 hroom
theorem Cr{s:ByteArray}{l:List Rc}(h:aV w D b room F c)(hw:Writer w T bw b s l)(iI:∀k,T k->¬D k)(hs:s.size<=maxLen)(hx:F (nm s)=some [])(hl2:l.length<=49)(hroom:c+(l.length+1)<=room):
 ax ae 207 #[.pointer (some ⟨bw,0,none⟩)] w fun e w'=>e=.returned (.int .i64 0)∧∃D' c',aV w' D' b room (upd F (nm s) (some (fileOf l))) c'∧c'<=c+(l.length+1)∧Stp (jC D T) D' w w':=by
 have hO:=TH h hw iI hs hx hl2 hroom;have c3:w.cell? ⟨bw,3,none⟩=some (.bool false):=by
  obtain⟨A,cp,hst,_⟩:=hw;exact hst.cell 3 rfl
 clear h hw;go_enter func207,ntmps207
 go_wp2_with (first|(go_at_call 233;refine hO.mono ?_;rintro e w1 ⟨rfl,D1,T1,c1,hd1,hc1,⟨A,cp,hst,hC,hcap,hT,hA,hlt⟩,hk1,abV⟩;have d0:=hst.cell 0 rfl;have d1:=hst.cell 1 rfl;have H1:=Y3 hd1 hst hk1;clear hst hC hd1 hk1))
 refine dG [] [0,1,2,3,4,5,6,7] [8,9] (by kernel_rfl) (fun _ _ x _ _ h=>by cases x<;>exact h) (by kernel_rfl) ?_;simp only[aJ,aw,aE,an,ao];refine au ?_
 repeat quiet_step (fail)
 refine wpQuiet_nil ?_;rintro _ ⟨nq,rfl⟩
 go_wp2_with fail
 have hd2:=H1.out.1.keep (S:=fun _=>False) ((Keeps.refl _ w1).drewN nq) fun _ _=>id
 refine(Jl hd2 s hs (upd_same _ _ _)).mono ?_;rintro e w2 ⟨rfl,hd3,hk3⟩;have s2:St w2 bw 328 _:=(show St (w1.drewN nq) bw 328 _ from H1.out.2.1).keep hk3.1 (abV _ hT);have f3:=s2.frozen 3;have e3:=s2.cell 3 rfl;have H3:=Y2 hd3 hk3;clear hd2 hd3 hk3 s2 d0 d1
 go_wp2
 obtain⟨hd3,hk3⟩:=H3.out;have hk1:=H1.out.2.2;go_ret;refine⟨rfl,D1,c1,hd3.keep (S:=fun k=>k=bw) ((Keeps.refl (fun k=>k=bw) w2).setCell (a:=⟨bw,3,none⟩) (.inl rfl) _) fun k hk e=>abV _ hT (by rw[<-e];exact hk),hc1,?_,fun k hk=>(hk1.2 k (.inl hk))⟩;exact((hk1.1.drewN nq).trans hk3.1 fun i hi=>hk1.2 i (.inl hi)).setCell (a:=⟨bw,3,none⟩) (hk1.2 bw (.inr hT)) _
def Cls(w:cA)(A:Option de)(cs:List cW):Prop:=
 cs≠[]->∃g o,A=some ⟨g,o,none⟩∧∀j u,cs[j]? =some u->w.cell? ⟨g,o+j,none⟩=some u
variable {cs xs:List cW}
theorem Cls.move{w':cA}(h:Cls w A cs)(hm:∀a,A=some a->w'.heap[a.block]? =w.heap[a.block]?):Cls w' A cs:=fun hn=>by
 obtain⟨g,o,e,hc⟩:=h hn;exact⟨g,o,e,fun j u hu=>(cC (w:=w) (a:=⟨g,o+j,none⟩) (show w'.heap[g]? =w.heap[g]? from hm _ e)).trans (hc j u hu)⟩
theorem Cls.own{e size:Nat}(h:w.ownsRow base e size (.slice A n c) n cs):Cls w A cs:=fun hn=>by
 rcases h.2 with⟨h1,h2⟩|⟨g,cap,cur,h1,h2,h3,h4,h5,h6,h7⟩
 .have:=h.1;rw[h2,Nat.zero_mul]at this;exact absurd (List.eq_nil_of_length_eq_zero this) hn
 .injection h1 with h1 _ _;subst h1;refine⟨g,0,rfl,fun j u hu=>?_⟩;rw[<-h7,List.getElem?_take]at hu
  split at hu
  .simpa[cG,h3]using hu
  .cases hu
def rv(r:Rc):List cW:=[.int .u64 r.1,.int .u64 r.2]
def recs(l:List Rc):List cW:=(l.map rv).flatten
theorem jm(l:List Rc):(recs l).length=2*l.length:=by
 induction l with
 |nil=>rfl
 |cons r l ih=>simp only[recs,cz,bj,cd,cx,rv]at ih ⊢; simp at ih ⊢; omega
theorem oL:∀(l:List Rc) (i:Nat) (r:Rc),l[i]? =some r->(recs l)[i*2]? =some (.int .u64 r.1)∧(recs l)[i*2+1]? =some (.int .u64 r.2)
 |x::l,0,r,h=>by
  obtain rfl:x=r:=by simpa using h
  simp[recs,rv]
 |x::l,i+1,r,h=>by
  have:=oL l i r (by simpa using h);simp only[recs,cz,bj,rv]at this⊢;rw[show(i+1)*2=i*2+2 by omega];simpa using this
theorem Writer.keep{w w':cA}{S T:Nat->Prop}{bw b:Nat}{s:ByteArray}{l:List Rc}(h:Writer w T bw b s l)(hk:Keeps S w w')(hS:∀k,T k->¬S k):Writer w' T bw b s l:=by
 obtain⟨A,c,hst,hC,hc,hT,hA,hlt⟩:=h;exact⟨A,c,hst.keep hk (hS _ hT),jf hC fun a e=>hk.at_ (hlt _ (hA a e)) (hS _ (hA a e)),hc,hT,hA,fun k hk'=>cF (hlt k hk') hk.size⟩
theorem Ct{cp:Nat}{s:ByteArray}{l:List Rc}(h:aV w D b room F c)(h0:0<s.size)(R4:s.size<=24)(hx:F (nm s)=none)(hn:l.length=n)(hcp:n<=cp)(hC:Cls w A (recs l))(hAD:∀a,A=some a->a.block<w.heap.size∧¬D a.block)(hl2:l.length<=49)(hroom:c+(l.length+2)<=room)(hc:c<100000):
 ax ae 239 #[.pointer (some ⟨b,0,none⟩),.string s,.slice A n cp] w fun e w'=>e=.returned (.int .i64 0)∧∃D' c',aV w' D' b room (upd F (nm s) (some (fileOf l))) c'∧c'<=c+(l.length+2)∧Stp D D' w w':=by
 have hC0:=Y1 hC;have hN:=qo h s h0 R4 hx (by omega);clear h hC;go_enter func239,ntmps239
 go_wp2_with (first|(go_at_call 203;refine hN.mono ?_;rintro e w1 ⟨bw,D1,T1,rfl,hd1,hw1,hk1,hT1⟩;have H1:=Y4 hd1 hw1 hk1 hT1;clear hd1 hw1 hk1 hT1))
 go_loopg [23] n (fun kq v23 wr=>∃k:Nat,kq+k=n∧v23=.int .i64 (k:Nat)∧aG (∃T',aV wr D1 b room (upd F (nm s) (some [])) (c+1)∧Writer wr T' bw b s (l.take k)∧Stp D (jC D1 T') w wr∧∀k,T' k->w.heap.size<=k∧¬D1 k))
 case atStart=>
  refine⟨0,by omega,rfl,⟨T1,H1.out.1,H1.out.2.1,⟨H1.out.2.2.1.1,fun k hk=>hk.elim (H1.out.2.2.1.2 k) fun h=>.inr (H1.out.2.2.2 k h).1⟩,H1.out.2.2.2⟩⟩
 case round=>
  obtain⟨k,hk,rfl,hR⟩:=hrel;by_cases hlt:k<n
  .have hlt':(k:Int)<n:=by omega
   obtain⟨T',hd,hw,hk1,hT'⟩:=hR.out;obtain⟨r,hr⟩:∃r,l[k]? =some r:=⟨_,al (by omega)⟩
   obtain⟨g,o,rfl,hcl⟩:=hC0.out (by intro e;have:=jm l;rw[e]at this;simp at this;omega);obtain⟨q0,q1⟩:=oL l k r hr;have hA:=hAD _ rfl;have hg:wr.heap[g]? =w.heap[g]? :=hk1.1.at_ hA.1 hA.2;have x0:=(cC (w:=w) (a:=⟨g,o+k*2,none⟩) hg).trans (hcl _ _ q0);have x1:=(cC (w:=w) (a:=⟨g,o+k*2+1,none⟩) hg).trans (hcl _ _ q1);clear hd hw hk1 hT' hcl hg hA
   go_wp2_with fail
   obtain⟨T',hd,hw,hk1,hT'⟩:=hR.out;have ka:=(Keeps.refl (fun _=>False) wr).alloc (.cells #[.int .u64 r.1,.int .u64 r.2] 283 (0,0));refine(wY (hw.keep ka fun _ _=>id) (by simp;omega) r).mono ?_;rintro e w2 ⟨rfl,T2,hw2,hk2⟩;obtain⟨k1,rfl⟩:∃k1,gk=k1+1:=⟨gk-1,by omega⟩
   have e1:l.take (k+1)=l.take k++[r]:=by rw[di,hr];rfl
   have rM:=fun i hi=>(hk2.2 i hi).elim (hT' i) fun h=>by
    have h1:=hk1.1.size;have h2:wr.heap.size<=i:=by have:=ka.size;omega
    exact⟨by omega,fun h=>by have:=hd.lt h;omega⟩
   have HZ:=Y1 (show ∃T',aV w2 D1 b room (upd F (nm s) (some [])) (c+1)∧Writer w2 T' bw b s (l.take (k+1))∧Stp D (jC D1 T') w w2∧∀k,T' k->w.heap.size<=k∧¬D1 k from
    ⟨T2,(hd.keep ka fun _ _=>id).keep hk2.1 fun i hi h=>(hT' i h).2 hi,by rw[e1];exact hw2,⟨((hk1.1.alloc _).trans hk2.1 fun i hi=>.inr (hT' i hi).1),fun i hi=>hi.elim (fun h=>hk1.2 i (.inl h)) fun h=>.inr (rM i h).1⟩,rM⟩)
   clear hd hw hk1 hT' hw2 hk2 x0 x1 q0 q1 hr
   go_wp2
   go_roundg k1
   case measure=>omega
   case rel=>exact⟨k+1,by omega,by simp,HZ⟩
  .obtain⟨T',hd,hw,hk1,hT'⟩:=hR.out;have hkn:k=n:=by omega
   rw[hkn,<-hn,List.take_length]at hw;have hcl:=Cr hd hw (fun i hi=>(hT' i hi).2) (by unfold maxLen;omega) (upd_same _ _ _) hl2 (by omega);have HZ:=Y1 hk1;clear hd hw hk1 hT';have hlt':¬(k:Int)<n:=by omega
   go_wp2_with fail
   refine hcl.mono ?_;rintro e w2 ⟨rfl,D',c',hd,hc',hk⟩;have HY:=Y3 hd hc' hk;clear hd hc' hk
   go_wp2
   obtain⟨hd,hc',hk⟩:=HY.out;rw[qH]at hd;go_ret;exact⟨rfl,D',c',hd,by omega,HZ.out.trans hk⟩
theorem iT(l:List Rc):(fileOf l).length=if l=[]then 0 else 16*l.length+6:=by
 unfold fileOf
 split
 .rfl
 .rw[eH,jl]
def TJ(b:Nat)(s:ByteArray)(at_ size:Nat)(A:Option de)(n c:Nat)(sh:Bool):List cW:=[.pointer (some ⟨b,0,none⟩),.string s,.int .i64 at_,.int .i64 size,.slice A n c,.bool sh,.int .i64 0]
def Reader(w:cA)(T:Nat->Prop)(br b:Nat)(s:ByteArray)(l:List Rc)(ld:Bool):Prop:=
 T br∧(∀k,T k->k<w.heap.size)∧
 match ld with
 |false=>∃c,St w br 331 (TJ b s 0 (fileOf l).length none 0 c false)
 |true=>∃z A c sh,St w br 331 (TJ b s z z A (16*l.length) c sh)∧Kd.C (Kd.int .u8) w A (16*l.length) (text l)∧16*l.length<=c∧∀a,A=some a->T a.block
theorem Reader.keep{w w':cA}{S T:Nat->Prop}{br b:Nat}{s:ByteArray}{l:List Rc}{ld:Bool}(h:Reader w T br b s l ld)(hk:Keeps S w w')(hS:∀k,T k->¬S k):Reader w' T br b s l ld:=by
 obtain⟨hT,hlt,h⟩:=h;refine⟨hT,fun k hk'=>cF (hlt k hk') hk.size,?_⟩;cases ld with
 |false=>
  obtain⟨c,hst⟩:=h;exact⟨c,hst.keep hk (hS _ hT)⟩
 |true=>
  obtain⟨z,A,c,sh,hst,hC,hc,hA⟩:=h;exact⟨z,A,c,sh,hst.keep hk (hS _ hT),jf hC fun a e=>hk.at_ (hlt _ (hA a e)) (hS _ (hA a e)),hc,hA⟩
theorem abW(h0: -9223372036854775808<=x)(h1:x<9223372036854775808):IntKind.i64.wrap x=x:=by rw[IntKind.wrap_i64];omega
theorem ng{l:List Rc}(h:aV w D b room F c)(s:ByteArray)(hs:s.size<=maxLen)(hx:F (nm s)=some (fileOf l)):
 ax ae 208 #[.pointer (some ⟨b,0,none⟩),.string s] w fun e w'=>∃br T,e=.returned (.tuple #[.pointer (some ⟨br,0,none⟩),.int .i64 0])∧aV w' D b room F c∧Reader w' T br b s l false∧Stp D D w w'∧∀k,T k->w.heap.size<=k∧¬D k:=by
 go_enter func208,ntmps208
 go_wp2_with (first|(go_at_call 72;refine(Je h s hs hx).mono ?_;rintro e w1 ⟨rfl,hd,hk⟩;have HH:=Y2 hd hk;clear hd hk))
 obtain⟨hd,hk⟩:=HH.out;have hN:=St.new w1 331 #[.pointer (some ⟨b,0,none⟩),.string s,.int .i64 0,.int .i64 (fileOf l).length,.slice none 0 0,.bool false,.int .i64 0];refine bodyPost_ret (results_tmp2 rfl _ _ _) rfl ⟨_,fun k=>k=w1.heap.size,rfl,hd.keep (S:=fun _=>False) ((Keeps.refl _ w1).alloc _) fun _ _=>id,⟨rfl,fun k hk'=>?_,0,hN⟩,hk.trans ⟨(Keeps.refl D w1).alloc _,fun _ h=>.inl h⟩,fun k hk'=>?_⟩
 .obtain rfl:k=w1.heap.size:=hk';simp
 .obtain rfl:k=w1.heap.size:=hk';exact⟨hk.1.size,fun h=>cH _ (hd.lt h)⟩
theorem afb{s:ByteArray}{l:List Rc}(h:aV w D b room F c)(hr:Reader w T br b s l false)(iI:∀k,T k->¬D k)(hs:s.size<=maxLen)(hx:F (nm s)=some (fileOf l))(hl:l≠[])(hl2:l.length<=49):
 ax ae 273 #[.pointer (some ⟨br,0,none⟩)] w fun e w'=>e=.returned (.int .i64 0)∧∃T',aV w' D b room F c∧Reader w' T' br b s l true∧Stp (jC D T) (jC D T') w w'∧∀k,T' k->¬D k:=by
 obtain⟨hT,hlt,cc,hst⟩:=hr;have hlp:=da.2 hl;have hfl:(fileOf l).length=16*l.length+6:=by rw[iT,if_neg hl]
 rw[hfl]at hst;have d0:=hst.cell 0 rfl;have d1:=hst.cell 1 rfl;have d2:=hst.cell 2 rfl;have d3:=hst.cell 3 rfl;have HH:=Y2 h hst;clear h hst;go_enter func273,ntmps273
 go_wp2_with fail
 have q0:∀w',Keeps D w w'->w'.cell? ⟨br,0,none⟩=some (.pointer (some ⟨b,0,none⟩)):=fun w' hk=>hk.cell d0 (iI _ hT)
 have q1:∀w',Keeps D w w'->w'.cell? ⟨br,1,none⟩=some (.string s):=fun w' hk=>hk.cell d1 (iI _ hT)
 have q2:∀w',Keeps D w w'->w'.cell? ⟨br,2,none⟩=some (.int .i64 ((0:Nat):Int)):=fun w' hk=>hk.cell d2 (iI _ hT)
 have q3:∀w',Keeps D w w'->w'.cell? ⟨br,3,none⟩=some (.int .i64 ((16*l.length+6:Nat):Int)):=fun w' hk=>hk.cell d3 (iI _ hT)
 have HQ:=Y4 q0 q1 q2 q3;clear q0 q1 q2 q3 d0 d1 d2 d3;refine gF (fun w'=>Keeps D w w'∧aV w' D b room F c) [0,1,2,4,5,6,8,9,10,12,13,14,16,17,18] [3,7,11,15,19,20,21] [22] [23,24,25,26,27] [] (by kernel_rfl) (fun _ _ x _ _ h=>by cases x<;>exact h) ⟨(Keeps.refl D w).drew,HH.out.1.keep (S:=fun _=>False) ((Keeps.refl _ w).drew) fun _ _=>id⟩ (by kernel_rfl) ?_;simp only[aJ,aw,aE,an,ao]
 repeat (refine aI (fun K hK=>?_);go_simp;refine hK _ ?_;clear hK K)
 refine au ?_;refine ak (fun K hK=>?_);go_simp;refine⟨_,fun w' hw' _=>(by rw[HQ.out.1 w' hw'];rfl),hK _ ?_⟩;clear hK K;refine ak (fun K hK=>?_);go_simp;refine⟨_,fun w' hw' _=>(by rw[HQ.out.2.1 w' hw'];rfl),hK _ ?_⟩;clear hK K;refine ak (fun K hK=>?_);go_simp;refine⟨_,fun w' hw' _=>(by rw[HQ.out.2.2.1 w' hw'];rfl),hK _ ?_⟩;clear hK K;refine ak (fun K hK=>?_);go_simp;refine⟨_,fun w' hw' _=>(by rw[HQ.out.2.2.2 w' hw'];rfl),hK _ ?_⟩;clear hK K;refine ak (fun K hK=>?_);go_simp;refine⟨_,fun w' hw' _=>(by rw[HQ.out.2.2.1 w' hw'];rfl),hK _ ?_⟩;clear hK K;refine ak (fun K hK=>?_);go_simp;refine⟨.int .i64 (16*(l.length:Int)+6),fun _ _ _=>(by rw[abW (by omega) (by omega)]),hK _ ?_⟩;clear hK K;have hmin:(16*(l.length:Int)+6)<1006:=by omega
 refine ak (fun K hK=>?_);go_simp;refine⟨_,fun _ _ _=>rfl,hK _ ?_⟩;clear hK K;refine bD ?_;intro W0 hb0;have hR:=Jk hb0.2 s hs hx (at_:=0) (k:=16*l.length+6) (Nat.succ_pos _) (by rw[hfl,Nat.zero_add];exact ab _);rw[show((16*l.length+6:Nat):Int)=16*(l.length:Int)+6 by omega,show((0:Nat):Int)=0 from rfl]at hR;have HB:=Y1 hb0;clear hb0;refine aH (fun K hK=>?_);go_simp;refine hR.mono ?_;rintro e w1 ⟨A1,c1,rfl,o1,hd1,hk1⟩;have OL:=HB.out.1.trans hk1.1 fun _ h=>.inl h
 refine hK _ _ ⟨OL,hd1⟩ ?_;clear hK K;have H1:=Y4 o1 hd1 OL hk1;clear o1 hd1 OL hk1 hR;refine aQ ?_
 repeat (refine aI (fun K hK=>?_);go_simp;refine hK _ ?_;clear hK K)
 refine au ?_
 go_wp2_with fail
 obtain⟨o1,hd1,OL,hk1⟩:=H1.out;have hsub:List.take (16*l.length+6) (List.drop 0 (fileOf l))=enc (text l):=by
  rw[List.drop_zero,a_ (by rw[hfl];exact ab _)];exact if_neg hl
 rw[hsub]at o1;have he:(enc (text l)).length=16*l.length+6:=by rw[eH,jl]
 have hde:dec (enc (text l))=(text l,((text l).length:Int)+6,0):=by
  have:=Ju (jI l) (by rw[jl];omega) [];rwa [cN]at this
 have hD:=WS (w:=w1) (A:=A1) (c:=c1) (l:=enc (text l)) (by rw[he];exact Kd.dP (d:=(0:Int)) (gD o1)) (by rw[he];exact wR o1) (AA (jI l)) (by omega);rw[he,hde]at hD;simp only[jl]at hD;refine hD.mono ?_;rintro e w2 ⟨A2,c2,rfl,o2,b2⟩;have k2:=OL.below b2;have hd2:=hd1.keep (S:=fun _=>False) (Keeps.of_below b2) fun _ _=>id
 have s2:St w2 br 331 _:=HH.out.2.keep k2 (iI _ hT);have g2:=s2.cell 2 rfl;have g4:=s2.cell 4 rfl;have g5:=s2.cell 5 rfl;have f2:=s2.frozen 2;have s3:=s2.set 2 (.int .i64 (16*(l.length:Int)+6));have g43:=s3.cell 4 rfl;have f4:=s2.frozen 4;have s4:=s3.set 4 (.slice A2 (16*l.length) c2);have g54:=s4.cell 5 rfl;have f5:=s2.frozen 5;have s5:=s4.set 5 (.bool (decide (16*(l.length:Int)<800)));have H2:=Y4 o2 hd2 k2 s5;have n0:¬(16*l.length=0):=by omega
 have n1:((16*(l.length:Int))==0)=false:=by simp;omega
 have n2:16*(l.length:Int)<=800:=by omega
 have n3:¬(16*(l.length:Int)=0):=by omega
 clear o1 hd1 OL hk1 hD o2 b2 k2 hd2 s2 s3 s4 s5 hsub he hde
 go_wp2
 obtain⟨o2,hd2,k2,s5⟩:=H2.out;have kB:Keeps (fun k=>k=br) w2 (((w2.setCell ⟨br,2,none⟩ (.int .i64 (16*(l.length:Int)+6))).setCell ⟨br,4,none⟩ (.slice A2 (16*l.length) c2)).setCell ⟨br,5,none⟩ (.bool (decide (16*(l.length:Int)<800)))):=
  (((Keeps.refl (fun k=>k=br) w2).setCell (a:=⟨br,2,none⟩) (.inl rfl) _).setCell (a:=⟨br,4,none⟩) (.inl rfl) _).setCell (a:=⟨br,5,none⟩) (.inl rfl) _
 have hz:=H1.out.2.2.1.size;have hfr:∀a,A2=some a->w.heap.size<=a.block∧a.block<w2.heap.size:=fun a e=>⟨bz hz (o2.fresh e).1,(o2.fresh e).2⟩
 have hbr:=hlt _ hT;go_ret;refine⟨rfl,fun k=>k=br∨∃a,A2=some a∧k=a.block,hd2.keep kB fun k hk e=>iI _ hT (by rw[<-e];exact hk),⟨.inl rfl,fun k hk=>?_,16*l.length+6,A2,c2,_,s5,jf o2.C fun a e=>kB.at_ (hfr a e).2 fun h=>?_,o2.cap,fun a e=>.inr ⟨a,e,rfl⟩⟩,⟨(k2.mono fun k _ h=>.inl h).trans kB fun i hi=>.inl (.inr (by subst hi;exact hT)),fun k hk=>?_⟩,fun k hk h=>?_⟩
 .have:=k2.size;rcases hk with rfl|⟨a,e,rfl⟩
  .simp;omega
  .simpa using(hfr a e).2
 .have:=(hfr a e).1;omega
 .rcases hk with hk|rfl|⟨a,e,rfl⟩
  .exact .inl (.inl hk)
  .exact .inl (.inr hT)
  .exact .inr (hfr a e).1
 .rcases hk with rfl|⟨a,e,rfl⟩
  .exact iI _ hT h
  .have:=(hfr a e).1;have:=HH.out.1.lt h;omega
def Wf(r:Rc):Prop:=(0<=r.1∧r.1<18446744073709551616)∧0<=r.2∧r.2<18446744073709551616
variable {q:IntKind}
theorem PG{l:List Int}(h:(Kd.int q).C w A n l)(hn:0<n):∃g o,A=some ⟨g,o,none⟩:=by
 obtain⟨h1,h2,h3⟩:=Kd.fB (d:=(0:Int)) h;obtain⟨a,e,hc⟩:=h3 hn;subst e;have:=hc 0 hn;obtain⟨g,o,sp⟩:=a;cases sp with
 |none=>exact⟨g,o,rfl⟩
 |some x=>
  unfold cG cI at this
  split at this
  .split at this<;>simp_all
  .cases this
theorem xL{l:List Int}(h:(Kd.int q).C w (some ⟨g,o,none⟩) n l)(hk:k<=n):(Kd.int q).C w (some ⟨g,o+k,none⟩) (n-k) (l.drop k):=by
 obtain⟨h1,h2,h3⟩:=Kd.fB (d:=(0:Int)) h;refine Kd.dP (d:=(0:Int)) ⟨by simp[h1],by omega,fun hn=>⟨_,rfl,fun j hj=>?_⟩⟩;obtain⟨a,e,hc⟩:=h3 (by omega);cases e;have:=hc (k+j) (by omega);have e1:(⟨g,o,none⟩:de).add (k+j)=(⟨g,o+k,none⟩:de).add j:=by unfold cI;split<;>split<;>simp_all[dT]
 rw[<-e1,this];simp[List.getD_eq_getElem?_getD]
variable {ld sh:Bool}
theorem t_{s:ByteArray}(hr:Reader w T br b s [] ld):
 ax ae 253 #[.pointer (some ⟨br,0,none⟩)] w fun e w'=>e=.returned (.tuple #[.agg #[.int .u64 0,.int .u64 0],.bool false,.int .i64 0])∧bk w.heap.size w w':=by
 obtain⟨W,hW⟩:=ex (w.alloc (.cells #[.int .u64 0,.int .u64 0] 283 (0,0)))
 obtain⟨z,A,c,sh,hst⟩:∃z A c sh,St w br 331 (TJ b s z z A 0 c sh):=by
  obtain⟨_,_,h⟩:=hr;cases ld with
  |false=>obtain⟨c,h⟩:=h;exact⟨0,none,c,false,h⟩
  |true=>obtain⟨z,A,c,sh,h,_⟩:=h;exact⟨z,A,c,sh,h⟩
 have s1:=hst.alloc (.cells #[.int .u64 0,.int .u64 0] 283 (0,0));have d2:=s1.cell 2 rfl;have d3:=s1.cell 3 rfl;have d4:=s1.cell 4 rfl;have d6:=s1.cell 6 rfl;clear hr;go_enter dj,dd
 go_wp2_with fail
 go_quiet (fail)
 have hN:St ((w.alloc (.cells #[.int .u64 0,.int .u64 0] 283 (0,0))).drewN nq) w.heap.size 283 [.int .u64 0,.int .u64 0]:=St.new _ _ _
 go_wp2_with fail
 have hbr:=cJ hst.lt;generalize hX:w.heap.size=X at*;generalize hW1:(w.alloc (.cells #[.int .u64 0,.int .u64 0] 283 (0,0))).drewN nq=W1 at*;have hBW:bk X w W1:=by rw[<-hW1,<-hX];exact below_drewN ((az _ w).alloc (ab _) _) nq
 have e6:W1.cell? ⟨br,6,none⟩=some (.int .i64 0):=by rw[<-hW1];exact d6
 have q6:∀w',Keeps (fun k=>k=X) W1 w'->w'.cell? ⟨br,6,none⟩=some (.int .i64 0):=fun w' hk=>hk.cell e6 hbr
 have HQ:=Y3 q6 hBW hX;clear q6 hBW d2 d3 d4 d6 s1 hst hW1 hW e6 hX;refine gF (fun w'=>Keeps (fun k=>k=X) W1 w'∧St w' X 283 [.int .u64 0,.int .u64 0]) [1,2,3] [0,4] [5] [6,7] [] (by kernel_rfl) (fun _ _ x _ _ h=>by cases x<;>exact h) ⟨(Keeps.refl _ W1).drew,hN⟩ (by kernel_rfl) ?_;simp only[aJ,aw,aE,an,ao]
 repeat (refine aI (fun K hK=>?_);go_simp;refine hK _ ?_;clear hK K)
 refine au ?_;refine ak (fun K hK=>?_);go_simp;refine⟨.agg #[.int .u64 0,.int .u64 0],fun w' _ hs=>(by simp[hs.cell 0 rfl,hs.cell 1 rfl,Result.andThen]),hK _ ?_⟩;clear hK K;refine ak (fun K hK=>?_);go_simp;refine⟨_,fun w' hk _=>(by rw[HQ.out.1 w' hk];rfl),hK _ ?_⟩;clear hK K;refine bD ?_;intro W0 hb0;have x0:=hb0.2.cell 0 rfl;have x1:=hb0.2.cell 1 rfl;have y0:=hb0.2.frozen 0;have y1:=hb0.2.frozen 1;have HB:=Y1 hb0;clear hb0 hN;refine aH (fun K hK=>?_);go_simp;have kZ:=(HB.out.1.setCell (a:=⟨X,0,none⟩) (.inl rfl) (.int .u64 0)).setCell (a:=⟨X,1,none⟩) (.inl rfl) (.int .u64 0);have sZ:St ((W0.setCell ⟨X,0,none⟩ (.int .u64 0)).setCell ⟨X,1,none⟩ (.int .u64 0)) X 283 [.int .u64 0,.int .u64 0]:=(HB.out.2.set 0 (.int .u64 0)).set 1 (.int .u64 0);refine hK _ _ ⟨kZ,sZ⟩ ?_;clear hK K;have HZ:=Y2 kZ sZ;clear kZ sZ x0 x1 y0 y1;generalize (W0.setCell ⟨X,0,none⟩ (.int .u64 0)).setCell ⟨X,1,none⟩ (.int .u64 0)=W5 at*;refine aQ ?_
 repeat (refine aI (fun K hK=>?_);go_simp;refine hK _ ?_;clear hK K)
 refine au ?_
 go_wp2_with fail
 obtain⟨hB,hX⟩:=HQ.out.2;refine bodyPost_ret (iE rfl _ _ X 283 #[.int .u64 0,.int .u64 0] (0,0) _ rfl HZ.out.2 ba rfl (by kernel_rfl)) rfl ⟨rfl,?_⟩;rw[hX];have k5:=HZ.out.1;exact⟨k5.1.trans hB.os,k5.2.1.trans hB.tape,k5.2.2.1.trans hB.output,bz hB.size k5.size,fun k hk=>(k5.at_ (by have:=hB.size;omega) (by omega)).trans (hB.block k hk)⟩
theorem qO(r:Rc)(l:List Rc):text (r::l)=le 8 r.1++(le 8 r.2++text l):=by simp[text,Lb]
theorem abX(h:0<=x∧x<18446744073709551616):num (le 8 x)=x:=by
 rw[sj,Int.emod_eq_of_lt h.1 (by have:=h.2;omega)]
variable {r:Rc}
theorem PI{l:List Rc}(h:Wf r):num (((text (r::l)).drop (0:Int).toNat).take (8:Int).toNat)=r.1:=by
 rw[qO];show num ((le 8 r.1++(le 8 r.2++text l)).take 8)=r.1;rw[cD (by simp[bB]),a_ (by simp[bB])];exact abX h.1
theorem PK{l:List Rc}(h:Wf r):num (((text (r::l)).drop (8:Int).toNat).take (8:Int).toNat)=r.2:=by
 rw[qO];show num (((le 8 r.1++(le 8 r.2++text l)).drop 8).take 8)=r.2;rw[Oct.drop_left' (by simp[bB]),cD (by simp[bB]),a_ (by simp[bB])];exact abX h.2
theorem Cu{l:List Int}(h:Kd.C (Kd.int .u8) w A n l)(hc:n<=c)(hb:Bytes l){s:Int}(h1:1<=s)(h8:s<=8)(h0:0<=a)(hl:a+s<=n):
 ax ae 94 #[.slice A n c,.int .i64 a,.int .i64 s] w fun e w'=>e=.returned (.tuple #[.int .u64 (num ((l.drop a.toNat).take s.toNat)),.bool true])∧bk w.heap.size w w':=by
 have e1:=h.1;subst e1;exact JI h hc hb h1 h8 h0 hl
theorem Ez{z:Nat}{s:ByteArray}{sl:Option de}{l:List Rc}(hT:T br)(hlt:∀k,T k->k<w.heap.size)(hk:Keeps T w V)(s6:St V br 331 (TJ b s z z sl (16*n) c' sh))(hC:Kd.C (Kd.int .u8) V sl (16*n) (text l))(hn:l.length=n)(hcap:16*n<=c')(hA:∀a,sl=some a->T a.block)(v1 v2:cW):
 Reader ((V.setCell ⟨w.heap.size,0,none⟩ v1).setCell ⟨w.heap.size,1,none⟩ v2) T br b s l true∧Keeps T w ((V.setCell ⟨w.heap.size,0,none⟩ v1).setCell ⟨w.heap.size,1,none⟩ v2):=by
 subst hn;have hne:=fun k h=>cJ (hlt k h)
 have k2:=(hk.setCell (a:=⟨w.heap.size,0,none⟩) (.inr (ab _)) v1).setCell (a:=⟨w.heap.size,1,none⟩) (.inr (ab _)) v2;refine⟨⟨hT,fun k h=>cF (hlt k h) k2.size,z,sl,c',sh,(s6.other (a:=⟨w.heap.size,0,none⟩) (hne _ hT) v1).other (a:=⟨w.heap.size,1,none⟩) (hne _ hT) v2,jf hC fun a e=>?_,hcap,hA⟩,k2⟩;exact(af _ _ _ _ (hne _ (hA a e))).trans (af _ _ _ _ (hne _ (hA a e)))
theorem abY{t:Nat}{l:List Int}{vs:List cW}(hC:(Kd.int q).C w (some ⟨g,o,none⟩) n l)(hs:St w b t vs)(h:vs.length<n):g≠b:=by
 intro e;subst e;obtain⟨_,_,h3⟩:=Kd.fB (d:=(0:Int)) hC;obtain⟨a,e,hc⟩:=h3 (by omega);cases e;have:=hc (n-1) (by omega);unfold St at hs;rw[show(⟨g,o,none⟩:de).add (n-1)=⟨g,o+(n-1),none⟩ by unfold cI;split<;>simp_all]at this;unfold cG at this;simp[hs]at this;have:=(ai.1 this).1;omega
theorem PL{l:List Int}(h0:n=0)(hl:l.length=n):(Kd.int q).C w A n l:=
 Kd.dP (d:=(0:Int)) ⟨by simp[hl],by omega,fun hn=>by omega⟩
theorem AO{s:ByteArray}{l:List Rc}(hr:Reader w T br b s (r::l) true)(hw:Wf r):
 ax ae 253 #[.pointer (some ⟨br,0,none⟩)] w fun e w'=>e=.returned (.tuple #[.agg #[.int .u64 r.1,.int .u64 r.2],.bool true,.int .i64 0])∧Reader w' T br b s l true∧Keeps T w w':=by
 obtain⟨hT,hlt,z,A,c,sh,hst,hC,hc,hA⟩:=hr;obtain⟨n,hn⟩:∃n,16*(r::l).length=16*n+16∧l.length=n:=⟨_,by simp;omega,rfl⟩
 rw[hn.1]at hst hC hc;obtain⟨g,o,rfl⟩:=PG hC (by omega);have hTg:=hA _ rfl;have s1:=hst.alloc (.cells #[.int .u64 0,.int .u64 0] 283 (0,0));have d2:=s1.cell 2 rfl;have d3:=s1.cell 3 rfl;have d4:=s1.cell 4 rfl;have d6:=s1.cell 6 rfl;have HH:=Y2 hst hC;clear hst hC s1;have n1:((16*(n:Int)+16)==0)=false:=by simp;omega
 have n2:¬(16*(n:Int)+16=0):=by omega
 have n3:¬(16*n+16=0):=by omega
 have n4:¬(z:Int)<z:=by omega
 have HN:=Y1 hn.2;clear hn;go_enter dj,dd
 go_wp2_with fail
 go_quiet (fail)
 have hN:St ((w.alloc (.cells #[.int .u64 0,.int .u64 0] 283 (0,0))).drewN nq) w.heap.size 283 [.int .u64 0,.int .u64 0]:=St.new _ _ _;have hB1:bk w.heap.size w ((w.alloc (.cells #[.int .u64 0,.int .u64 0] 283 (0,0))).drewN nq):=below_drewN ((az _ w).alloc (ab _) _) nq
 go_wp2_with fail
 generalize hW1:(w.alloc (.cells #[.int .u64 0,.int .u64 0] 283 (0,0))).drewN nq=W1 at*;have hbX:=cJ HH.out.1.lt;have Nh:=cJ (hlt _ hTg);have s1:St W1 br 331 _:=(hB1.block _ HH.out.1.lt).trans HH.out.1;have C1:=Kd.bM HH.out.2 hB1;have G1:=Cu (a:=0) (s:=8) C1 hc (jI _) (by omega) (by omega) (by omega) (by omega);rw[PI hw]at G1;refine G1.mono ?_;rintro e W2 ⟨rfl,b2⟩;have s2:St W2 br 331 _:=(b2.block _ s1.lt).trans s1;have x2:St W2 w.heap.size 283 _:=(b2.block _ hN.lt).trans hN;have C2:=Kd.bM C1 b2;have x3:=x2.set 0 (.int .u64 r.1);have s3:=s2.other (a:=⟨w.heap.size,0,none⟩) hbX (.int .u64 r.1);have C3:Kd.C (Kd.int .u8) (W2.setCell ⟨w.heap.size,0,none⟩ (.int .u64 r.1)) (some ⟨g,o,none⟩) (16*n+16) (text (r::l)):=jf C2 fun a e=>by cases e;exact af _ _ _ _ Nh
 have y0:=x2.cell 0 rfl;have z0:=x2.frozen 0;have t4:=s3.cell 4 rfl;have HK:=Y5 hB1 b2 s3 x3 C3;clear hB1 hN s1 C1 G1 b2 s2 x2 C2 x3 s3 C3 d2 d3 d4 d6 hW1
 go_wp2_with fail
 generalize hW3:W2.setCell ⟨w.heap.size,0,none⟩ (.int .u64 r.1)=W3 at*;have G2:=Cu (a:=8) (s:=8) HK.out.2.2.2.2 hc (jI _) (by omega) (by omega) (by omega) (by omega);rw[PK hw]at G2;refine G2.mono ?_;rintro e W4 ⟨rfl,b4⟩;obtain⟨hB1,b2,s3,x3,C3⟩:=HK.out;have s4:St W4 br 331 _:=(b4.block _ s3.lt).trans s3;have x4:St W4 w.heap.size 283 _:=(b4.block _ x3.lt).trans x3;have C4:=Kd.bM C3 b4;have s5:=s4.other (a:=⟨w.heap.size,1,none⟩) hbX (.int .u64 r.2);have x5:=x4.set 1 (.int .u64 r.2);have y1:=x4.cell 1 rfl;have z1:=x4.frozen 1;have z0':=x4.frozen 0;have zb:=s4.frozen 4;have t5:=s5.cell 4 rfl;obtain⟨sl,hsl⟩:=ex (if c=16 then some (⟨g,o,none⟩:de)else some ⟨g,o+16,none⟩)
 have s6:=s5.set 4 (.slice sl (16*n) (c-16));have x6:=x5.other (a:=⟨br,4,none⟩) (Ne.symm hbX) (.slice sl (16*n) (c-16));have u0:=x6.cell 0 rfl;have u1:=x6.cell 1 rfl;have HL:=Y7 hB1 b2 b4 C4 s6 x6 hW3;clear hB1 b2 s3 x3 C3 s4 x4 C4 s5 x5 s6 x6 G2 hW3 HK t4 y0 z0;have m1:16*n+16-16=16*n:=by omega
 have HSL:=Y1 hsl;have hX3:w.heap.size<=W4.heap.size:=by
  obtain⟨hB1,b2,b4,C4,s6,x6,hW3⟩:=HL.out;have q1:=hB1.size;have q2:=b2.size;have q4:=b4.size;rw[<-hW3]at q4;simp at q4;omega
 have HX3:=Y1 hX3;clear hX3;have hkV:∀v,Keeps T w ((W4.setCell ⟨w.heap.size,1,none⟩ (.int .u64 r.2)).setCell ⟨br,4,none⟩ v):=fun v=>by
  obtain⟨hB1,b2,b4,C4,s6,x6,hW3⟩:=HL.out;have k2:Keeps T w W2:=(Keeps.of_below hB1).below b2;have k3:Keeps T w W3:=by rw[<-hW3];exact k2.setCell (a:=⟨w.heap.size,0,none⟩) (.inr (ab _)) _
  exact((k3.below b4).setCell (a:=⟨w.heap.size,1,none⟩) (.inr (ab _)) _).setCell (a:=⟨br,4,none⟩) (.inl hT) _
 have HV:=Y1 hkV;clear hkV;have hCV:∀v,Kd.C (Kd.int .u8) W4 sl (16*n) (text l)->Kd.C (Kd.int .u8) ((W4.setCell ⟨w.heap.size,1,none⟩ (.int .u64 r.2)).setCell ⟨br,4,none⟩ v) sl (16*n) (text l):=fun v h=>by
  refine jf h ?_
  .have hgb:∀a,sl=some a->a.block=g:=fun a e=>by rw[hsl]at e;split at e<;>(cases e;rfl)
   intro a e;have e':=hgb a e;have nb:a.block≠br:=by rw[e'];exact abY HH.out.2 HH.out.1 (by simp[TJ])
   exact(af _ _ _ _ nb).trans (af _ _ _ _ (by rw[e'];exact Nh))
 have HCV:=Y1 hCV;clear hCV;by_cases hc16:c=16
 .rw[if_pos hc16]at hsl;subst hsl;subst hc16;have hn0:n=0:=by omega
  have HN0:=Y1 hn0;clear hn0
  go_wp2
  obtain⟨hB1,b2,b4,C4,s6,x6,hW3⟩:=HL.out;have hC:Kd.C (Kd.int .u8) W4 (some ⟨g,o,none⟩) (16*n) (text l):=PL (by have:=HN0.out;omega) (by rw[jl,HN.out]);have E:=Ez (w:=w) (c':=0) hT hlt (HV.out _) s6 (HCV.out _ hC) HN.out (by have:=HN0.out;omega) hA (.int .u64 r.1) (.int .u64 r.2);have y6:=x6.set 0 (.int .u64 r.1)|>.set 1 (.int .u64 r.2);exact bodyPost_ret (iE rfl _ _ w.heap.size 283 #[.int .u64 r.1,.int .u64 r.2] (0,0) _ rfl y6 ba rfl (by kernel_rfl)) rfl ⟨rfl,E⟩
 .rw[if_neg hc16]at hsl;subst hsl;have hc1:¬(c-16=0):=by omega
  have hc2:16<=c:=by omega
  go_wp2
  obtain⟨hB1,b2,b4,C4,s6,x6,hW3⟩:=HL.out;have hC:Kd.C (Kd.int .u8) W4 (some ⟨g,o+16,none⟩) (16*n) (text l):=by
   have h:=xL (k:=16) C4 (by omega);rw[show 16*n+16-16=16*n by omega]at h;rw[show(text (r::l)).drop 16=text l by rw[qO,<-bb,Oct.drop_left' (by simp[bB])]]at h;exact h
  have E:=Ez (w:=w) (c':=c-16) hT hlt (HV.out _) s6 (HCV.out _ hC) HN.out (by omega) (fun a e=>by cases e;exact hTg) (.int .u64 r.1) (.int .u64 r.2);have y6:=x6.set 0 (.int .u64 r.1)|>.set 1 (.int .u64 r.2);exact bodyPost_ret (iE rfl _ _ w.heap.size 283 #[.int .u64 r.1,.int .u64 r.2] (0,0) _ rfl y6 ba rfl (by kernel_rfl)) rfl ⟨rfl,E⟩
theorem Ld{z X:Nat}{s:ByteArray}{sl:Option de}{l:List Rc}(hT:T br)(hne:∀k,T k->k≠X)(hlt:∀k,T k->k<V.heap.size)(s6:St V br 331 (TJ b s z z sl (16*n) c' sh))(hC:Kd.C (Kd.int .u8) V sl (16*n) (text l))(hn:l.length=n)(hcap:16*n<=c')(hA:∀a,sl=some a->T a.block)(v1 v2:cW):
 Reader ((V.setCell ⟨X,0,none⟩ v1).setCell ⟨X,1,none⟩ v2) T br b s l true:=by
 subst hn;refine⟨hT,fun k h=>by simpa using hlt k h,z,sl,c',sh,(s6.other (a:=⟨X,0,none⟩) (hne _ hT) v1).other (a:=⟨X,1,none⟩) (hne _ hT) v2,jf hC fun a e=>?_,hcap,hA⟩;exact(af _ _ _ _ (hne _ (hA a e))).trans (af _ _ _ _ (hne _ (hA a e)))
theorem yB{s:ByteArray}{l:List Rc}(h:aV w D b room F c)(hr:Reader w T br b s (r::l) false)(iI:∀k,T k->¬D k)(hs:s.size<=maxLen)(hx:F (nm s)=some (fileOf (r::l)))(hl2:(r::l).length<=49)(hw:Wf r):
 ax ae 253 #[.pointer (some ⟨br,0,none⟩)] w fun e w'=>e=.returned (.tuple #[.agg #[.int .u64 r.1,.int .u64 r.2],.bool true,.int .i64 0])∧∃T',aV w' D b room F c∧Reader w' T' br b s l true∧Stp (jC D T) (jC D T') w w'∧∀k,T' k->¬D k:=by
 have HR:=Y4 h hr hx hl2;obtain⟨hT,hlt,cc,hst⟩:=hr;have hfl:(fileOf (r::l)).length=16*l.length+22:=by rw[iT,if_neg (by simp)];simp;omega
 rw[hfl]at hst;have s1:=hst.alloc (.cells #[.int .u64 0,.int .u64 0] 283 (0,0));have d2:=s1.cell 2 rfl;have d3:=s1.cell 3 rfl;have d4:=s1.cell 4 rfl;have d6:=s1.cell 6 rfl;have HST:=Y1 hst;have p1:(0:Int)<16*(l.length:Int)+22:=by omega
 clear hst s1 h hx hl2 hfl;go_enter dj,dd
 go_wp2_with fail
 go_quiet (fail)
 have hN:St ((w.alloc (.cells #[.int .u64 0,.int .u64 0] 283 (0,0))).drewN nq) w.heap.size 283 [.int .u64 0,.int .u64 0]:=St.new _ _ _;have hB1:bk w.heap.size w ((w.alloc (.cells #[.int .u64 0,.int .u64 0] 283 (0,0))).drewN nq):=below_drewN ((az _ w).alloc (ab _) _) nq
 go_wp2_with fail
 obtain⟨hD,hR,hx,hl2⟩:=HR.out;have hDX:∀k,D k->k<w.heap.size:=fun k h=>hD.lt h
 generalize hX:w.heap.size=X at*;generalize hW1:(w.alloc (.cells #[.int .u64 0,.int .u64 0] 283 (0,0))).drewN nq=W1 at*;have kB1:Keeps (fun _=>False) w W1:=Keeps.of_below (by rw[hX];exact hB1);refine(afb (hD.keep kB1 fun _ _=>id) (hR.keep kB1 fun _ _=>id) iI hs hx (by simp) hl2).mono ?_;rintro e W2 ⟨rfl,T',hd2,hr2,hk2,rM⟩;have hXW:=hN.lt;have nX:¬jC D T X:=fun h=>h.elim (fun h=>cH _ (hDX _ h)) fun h=>cH _ (hlt _ h)
 have x2:St W2 X 283 _:=hN.keep hk2.1 nX;have hTX:∀k,T' k->k≠X:=fun k h e=>(hk2.2 k (.inr h)).elim (fun h=>nX (e▸h)) fun h=>by omega
 have AU:Stp (jC D T) (jC D T') w W2:=⟨(kB1.mono fun _ _ h=>h.elim).trans hk2.1 fun _ h=>.inl h,fun k h=>(hk2.2 k h).elim .inl fun h=>.inr (by have:=kB1.size;omega)⟩
 obtain⟨hT',hlt2,z,A,c1,sh,hst,hC,hc,hA⟩:=hr2;obtain⟨n,hn⟩:∃n,16*(r::l).length=16*n+16∧l.length=n:=⟨_,by simp;omega,rfl⟩
 rw[hn.1]at hst hC hc;obtain⟨g,o,rfl⟩:=PG hC (by omega);have hTg:=hA _ rfl;have hbX:=hTX _ hT';have Nh:g≠X:=hTX _ hTg;have hgb:=abY hC hst (by simp[TJ]);have zf:=hst.frozen 6;have f6:=hst.cell 6 rfl;have s0:St (W2.setCell ⟨br,6,none⟩ (.int .i64 0)) br 331 (TJ b s z z (some ⟨g,o,none⟩) (16*n+16) c1 sh):=hst.set 6 (.int .i64 0);have x0:=x2.other (a:=⟨br,6,none⟩) (Ne.symm hbX) (.int .i64 0);have C0:Kd.C (Kd.int .u8) (W2.setCell ⟨br,6,none⟩ (.int .i64 0)) (some ⟨g,o,none⟩) (16*n+16) (text (r::l)):=jf hC fun a e=>by cases e;exact af _ _ _ _ hgb
 have e4:=s0.cell 4 rfl;have e6:=s0.cell 6 rfl;have HA:=Y12 AU hd2 rM hTX hlt2 s0 x0 C0 hn hX hXW hDX;have n1:((16*(n:Int)+16)==0)=false:=by simp;omega
 have n2:¬(16*(n:Int)+16=0):=by omega
 have n3:¬(16*n+16=0):=by omega
 clear AU hd2 rM hTX hlt2 s0 x0 C0 hn hX hXW hDX hst hC kB1 hD hR hx hl2 hk2 nX x2 hN hB1 hW1 d2 d3 d4 d6 p1 hlt iI
 go_wp2_with fail
 generalize hV0:W2.setCell ⟨br,6,none⟩ (.int .i64 0)=V0 at*;have HV0:=Y1 hV0;clear hV0 f6 zf e4 e6;have C1:=HA.out.2.2.2.2.2.2.2.1;have x1:=HA.out.2.2.2.2.2.2.1;have s1:=HA.out.2.2.2.2.2.1;have G1:=Cu (a:=0) (s:=8) C1 hc (jI _) (by omega) (by omega) (by omega) (by omega);rw[PI hw]at G1;refine G1.mono ?_;rintro e W3 ⟨rfl,b3⟩;have s2:St W3 br 331 _:=(b3.block _ s1.lt).trans s1;have x2:St W3 X 283 _:=(b3.block _ x1.lt).trans x1;have C2:=Kd.bM C1 b3;have x3:=x2.set 0 (.int .u64 r.1);have s3:=s2.other (a:=⟨X,0,none⟩) hbX (.int .u64 r.1);have C3:Kd.C (Kd.int .u8) (W3.setCell ⟨X,0,none⟩ (.int .u64 r.1)) (some ⟨g,o,none⟩) (16*n+16) (text (r::l)):=jf C2 fun a e=>by cases e;exact af _ _ _ _ Nh
 have y0:=x2.cell 0 rfl;have z0:=x2.frozen 0;have t4:=s3.cell 4 rfl;have HK:=Y4 b3 s3 x3 C3;clear x1 s1 C1 G1 b3 s2 x2 C2 x3 s3 C3
 go_wp2_with fail
 generalize Ce:W3.setCell ⟨X,0,none⟩ (.int .u64 r.1)=W4 at*;have G2:=Cu (a:=8) (s:=8) HK.out.2.2.2 hc (jI _) (by omega) (by omega) (by omega) (by omega);rw[PK hw]at G2;refine G2.mono ?_;rintro e W5 ⟨rfl,b5⟩;obtain⟨b3,s3,x3,C3⟩:=HK.out;have s4:St W5 br 331 _:=(b5.block _ s3.lt).trans s3;have x4:St W5 X 283 _:=(b5.block _ x3.lt).trans x3;have C4:=Kd.bM C3 b5;have s5:=s4.other (a:=⟨X,1,none⟩) hbX (.int .u64 r.2);have x5:=x4.set 1 (.int .u64 r.2);have y1:=x4.cell 1 rfl;have z1:=x4.frozen 1;have z0':=x4.frozen 0;have zb:=s4.frozen 4;have t5:=s5.cell 4 rfl;obtain⟨sl,hsl⟩:=ex (if c1=16 then some (⟨g,o,none⟩:de)else some ⟨g,o+16,none⟩)
 have s6:=s5.set 4 (.slice sl (16*n) (c1-16));have x6:=x5.other (a:=⟨br,4,none⟩) (Ne.symm hbX) (.slice sl (16*n) (c1-16));have u0:=x6.cell 0 rfl;have u1:=x6.cell 1 rfl;have afc:V0.heap.size=W2.heap.size:=by rw[<-HV0.out];simp
 have h3s:V0.heap.size<=W5.heap.size:=by
  have q3:=b3.size;have q5:=b5.size;rw[<-Ce]at q5;simp at q5;omega
 have hkV:∀v,Keeps (fun k=>T' k∨k=X) V0 ((W5.setCell ⟨X,1,none⟩ (.int .u64 r.2)).setCell ⟨br,4,none⟩ v):=fun v=>by
  have k3:Keeps (fun k=>T' k∨k=X) V0 W4:=by rw[<-Ce];exact(Keeps.of_below b3).setCell (a:=⟨X,0,none⟩) (.inl (.inr rfl)) _
  exact((k3.below b5).setCell (a:=⟨X,1,none⟩) (.inl (.inr rfl)) _).setCell (a:=⟨br,4,none⟩) (.inl (.inl hT')) _
 have hgb':∀a,sl=some a->a.block=g:=fun a e=>by rw[hsl]at e;split at e<;>(cases e;rfl)
 have hCV:∀v,Kd.C (Kd.int .u8) W5 sl (16*n) (text l)->Kd.C (Kd.int .u8) ((W5.setCell ⟨X,1,none⟩ (.int .u64 r.2)).setCell ⟨br,4,none⟩ v) sl (16*n) (text l):=fun v h=>by
  refine jf h fun a e=>?_
  have e':=hgb' a e;exact(af _ _ _ _ (by rw[e'];exact hgb)).trans (af _ _ _ _ (by rw[e'];exact Nh))
 have hfin:∀c',St ((W5.setCell ⟨X,1,none⟩ (.int .u64 r.2)).setCell ⟨br,4,none⟩ (.slice sl (16*n) c')) br 331 (TJ b s z z sl (16*n) c' sh)->Kd.C (Kd.int .u8) W5 sl (16*n) (text l)->16*n<=c'->
  ∃T',aV ((((W5.setCell ⟨X,1,none⟩ (.int .u64 r.2)).setCell ⟨br,4,none⟩ (.slice sl (16*n) c')).setCell ⟨X,0,none⟩ (.int .u64 r.1)).setCell ⟨X,1,none⟩ (.int .u64 r.2)) D b room F c∧Reader ((((W5.setCell ⟨X,1,none⟩ (.int .u64 r.2)).setCell ⟨br,4,none⟩ (.slice sl (16*n) c')).setCell ⟨X,0,none⟩ (.int .u64 r.1)).setCell ⟨X,1,none⟩ (.int .u64 r.2)) T' br b s l true∧
   Stp (jC D T) (jC D T') w ((((W5.setCell ⟨X,1,none⟩ (.int .u64 r.2)).setCell ⟨br,4,none⟩ (.slice sl (16*n) c')).setCell ⟨X,0,none⟩ (.int .u64 r.1)).setCell ⟨X,1,none⟩ (.int .u64 r.2))∧∀k,T' k->¬D k:=fun c' s6 hC hcap=>by
  obtain⟨AU,hd2,rM,hTX,hlt2,_,_,_,hn,hX,hXW,hDX⟩:=HA.out;have kF:=((hkV (.slice sl (16*n) c')).setCell (a:=⟨X,0,none⟩) (.inl (.inr rfl)) (.int .u64 r.1)).setCell (a:=⟨X,1,none⟩) (.inl (.inr rfl)) (.int .u64 r.2);have k0:Keeps (fun k=>k=br) W2 V0:=by rw[<-HV0.out];exact(Keeps.refl (fun k=>k=br) W2).setCell (a:=⟨br,6,none⟩) (.inl rfl) _
  have hd3:=(hd2.keep k0 fun k hk e=>rM _ hT' (by rw[<-e];exact hk)).keep kF fun k hk h=>h.elim (fun h=>rM _ h hk) fun h=>by have:=hDX k hk;omega
  refine⟨T',hd3,Ld hT' hTX (fun k h=>?_) s6 (hCV _ hC) hn.2 hcap (fun a e=>by rw[hgb' a e];exact hTg) _ _,⟨(AU.1.trans k0 fun i hi=>by subst hi;exact(AU.2 _ (.inr hT'))).trans kF fun i hi=>?_,AU.2⟩,rM⟩
  .have:=hlt2 k h;have:=(hkV (.slice sl (16*n) c')).size;omega
  .rcases hi with h|h
   .exact AU.2 _ (.inr h)
   .exact .inr (by omega)
 have HF:=Y1 hfin;have HL:=Y3 C4 s6 x6;have hn:=HA.out.2.2.2.2.2.2.2.2.1.2;have HN:=Y1 hn;clear b3 s3 x3 C3 s4 x4 C4 s5 x5 s6 x6 G2 HK t4 y0 z0 hfin hCV hkV hgb' afc h3s hn Ce;have m1:16*n+16-16=16*n:=by omega
 have HSL:=Y1 hsl;by_cases hc16:c1=16
 .rw[if_pos hc16]at hsl;subst hsl;subst hc16;have hn0:n=0:=by omega
  have HN0:=Y1 hn0;clear hn0
  go_wp2
  obtain⟨C4,s6,x6⟩:=HL.out;have hC:Kd.C (Kd.int .u8) W5 (some ⟨g,o,none⟩) (16*n) (text l):=PL (by have:=HN0.out;omega) (by rw[jl,HN.out]);have E:=HF.out 0 s6 hC (by have:=HN0.out;omega);have y6:=x6.set 0 (.int .u64 r.1)|>.set 1 (.int .u64 r.2);exact bodyPost_ret (iE rfl _ _ X 283 #[.int .u64 r.1,.int .u64 r.2] (0,0) _ rfl y6 ba rfl (by kernel_rfl)) rfl ⟨rfl,E⟩
 .rw[if_neg hc16]at hsl;subst hsl;have hc1:¬(c1-16=0):=by omega
  have hc2:16<=c1:=by omega
  go_wp2
  obtain⟨C4,s6,x6⟩:=HL.out;have hC:Kd.C (Kd.int .u8) W5 (some ⟨g,o+16,none⟩) (16*n) (text l):=by
   have h:=xL (k:=16) C4 (by omega);rw[show 16*n+16-16=16*n by omega]at h;rw[show(text (r::l)).drop 16=text l by rw[qO,<-bb,Oct.drop_left' (by simp[bB])]]at h;exact h
  have E:=HF.out (c1-16) s6 hC (by omega);have y6:=x6.set 0 (.int .u64 r.1)|>.set 1 (.int .u64 r.2);exact bodyPost_ret (iE rfl _ _ X 283 #[.int .u64 r.1,.int .u64 r.2] (0,0) _ rfl y6 ba rfl (by kernel_rfl)) rfl ⟨rfl,E⟩
theorem vg{s:ByteArray}{l:List Rc}(h:aV w D b room F c)(hr:Reader w T br b s (r::l) ld)(iI:∀k,T k->¬D k)(hs:s.size<=maxLen)(hx:ld=false->F (nm s)=some (fileOf (r::l)))(hl2:(r::l).length<=49)(hw:Wf r):
 ax ae 253 #[.pointer (some ⟨br,0,none⟩)] w fun e w'=>e=.returned (.tuple #[.agg #[.int .u64 r.1,.int .u64 r.2],.bool true,.int .i64 0])∧∃T',aV w' D b room F c∧Reader w' T' br b s l true∧Stp (jC D T) (jC D T') w w'∧∀k,T' k->¬D k:=by
 cases ld with
 |false=>exact yB h hr iI hs (hx rfl) hl2 hw
 |true=>
  refine(AO hr hw).mono ?_;rintro e w' ⟨rfl,h1,h2⟩;exact⟨rfl,T,h.keep h2 fun k hk hT=>iI k hT hk,h1,⟨h2.mono fun k _ h=>.inr h,fun k hk=>.inl hk⟩,iI⟩
theorem gB{e size:Nat}(h:w.ownsRow base e size v n xs):∀k,v.ownBlock=some k->base<=k:=fun k hk=>by
 rcases h.2 with⟨rfl,_⟩|⟨g,cap,cur,rfl,h2,_⟩
 .cases hk
 .have:g=k:=by simpa[Value.ownBlock]using hk
  omega
theorem ni(l:List Rc)(r:Rc):recs (l++[r])=recs l++rv r:=by simp[recs]
theorem iM{base' e size:Nat}(h:w.ownsRow base e size v n xs)(hb:base'<=base):w.ownsRow base' e size v n xs:=by
 refine⟨h.1,?_⟩;rcases h.2 with h|⟨g,cap,cur,h1,h2,h3⟩
 .exact .inl h
 .exact .inr ⟨g,cap,cur,h1,bz hb h2,h3⟩
def RdS(w wr:cA)(D:Nat->Prop)(b br c room:Nat)(F:Files)(s:ByteArray)(l:List Rc)(k:Nat)(v:cW):Prop:=
 ∃T' ld B,Reader wr T' br b s (l.drop k) ld∧(ld=false->k=0∧v=.slice none 0 0)∧aV wr D b room F c∧Stp D (jC D T') w wr∧(∀i,T' i->w.heap.size<=i∧¬D i)∧wr.ownsRow B 283 2 v k (recs (l.take k))∧w.heap.size<=B∧B<=wr.heap.size∧(ld=true->∀i,T' i->i<B)
theorem TK{wr:cA}{s:ByteArray}{l:List Rc}(hR:RdS w wr D b br c room F s l k v)(hDw:∀k,D k->k<w.heap.size)(hs:s.size<=maxLen)(hx:F (nm s)=some (fileOf l))(hl2:l.length<=49)(hwf:∀r∈l,Wf r)(hr:l[k]? =some r):
 ax ae 253 #[.pointer (some ⟨br,0,none⟩)] wr fun e w2=>e=.returned (.tuple #[.agg #[.int .u64 r.1,.int .u64 r.2],.bool true,.int .i64 0])∧
  ∃T2 B,Reader w2 T2 br b s (l.drop (k+1)) true∧aV w2 D b room F c∧Stp D (jC D T2) w w2∧(∀i,T2 i->w.heap.size<=i∧¬D i)∧w2.ownsRow B 283 2 v k (recs (l.take k))∧w.heap.size<=B∧B<=w2.heap.size∧∀i,T2 i->i<B:=by
 obtain⟨T',ld,B,h1,h2,h3,h4,h5,h6,h7,h8,h9⟩:=hR;have hk:=(ai.1 hr).1;have hdr:l.drop k=r::l.drop (k+1):=by rw[List.drop_eq_getElem_cons hk];rw[al hk]at hr;injection hr with hr;rw[hr]
 have hwr:=hwf r (cX hr);rw[hdr]at h1;cases ld with
 |false=>
  obtain⟨rfl,rfl⟩:=h2 rfl;have hxx:F (nm s)=some (fileOf (r::l.drop (0+1))):=by rw[hx,<-hdr];rfl
  have hle:(r::l.drop (0+1)).length<=49:=by rw[<-hdr];simpa using hl2
  refine(yB h3 h1 (fun i hi=>(h5 i hi).2) hs hxx hle hwr).mono ?_;rintro e w2 ⟨rfl,T2,a1,a2,a3,a4⟩;have k4:=h4.1.trans a3.1 fun i hi=>hi.elim .inl fun h=>.inr (h5 i h).1
  have hT:∀i,T2 i->w.heap.size<=i∧¬D i:=fun i hi=>⟨(a3.2 i (.inr hi)).elim (fun h=>h.elim (fun h=>(a4 i hi h).elim) fun h=>(h5 i h).1) fun h=>bz h4.1.size h,a4 i hi⟩
  exact⟨rfl,T2,w2.heap.size,a2,a1,⟨k4,fun i hi=>hi.elim .inl fun h=>.inr (hT i h).1⟩,hT,dp w2 _ 283 2,k4.size,ab _,fun i hi=>a2.2.1 i hi⟩
 |true=>
  refine(AO h1 hwr).mono ?_;rintro e w2 ⟨rfl,a1,a2⟩;exact⟨rfl,T',B,a1,h3.keep a2 fun i hi h=>(h5 i h).2 hi,⟨h4.1.trans a2 fun i hi=>.inr (h5 i hi).1,h4.2⟩,h5,a2.own h6 fun i hi h=>by have:=gB h6 i hi;have:=h9 rfl i h;omega,h7,bz h8 a2.size,h9 rfl⟩
theorem Yn{l:List Rc}(h:aV w D b room F c)(s:ByteArray)(hs:s.size<=maxLen)(hx:F (nm s)=some (fileOf l))(hn:l.length=n)(hl2:l.length<=49)(hwf:∀r∈l,Wf r):
 ax ae 247 #[.pointer (some ⟨b,0,none⟩),.string s] w fun e w'=>∃v,e=.returned (.tuple #[v,.int .i64 0])∧w'.ownsRow w.heap.size 283 2 v n (recs l)∧aV w' D b room F c∧Stp D D w w':=by
 have hDw:∀k,D k->k<w.heap.size:=fun k hk=>h.lt hk
 have hN:=ng h s hs hx;have HW:=Y3 hwf hDw hx;clear h hwf hDw hx;go_enter func247,ntmps247
 go_wp2_with (first|(go_at_call 208;refine hN.mono ?_;rintro e w1 ⟨br,T1,rfl,hd1,hr1,hk1,hT1⟩;have H1:=Y4 hd1 hr1 hk1 hT1;clear hd1 hr1 hk1 hT1))
 go_loopg [4] n (fun kq v wr=>∃k:Nat,kq+k=n∧aG (RdS w wr D b br c room F s l k v))
 case atStart=>
  exact⟨0,by omega,⟨T1,false,w1.heap.size,H1.out.2.1,fun _=>⟨rfl,rfl⟩,H1.out.1,⟨H1.out.2.2.1.1,fun k hk=>hk.elim .inl fun h=>.inr (H1.out.2.2.2 k h).1⟩,H1.out.2.2.2,by simpa[recs]using dp w1 _ 283 2,H1.out.2.2.1.1.size,ab _,fun e=>by cases e⟩⟩
 case round=>
  obtain⟨k,hk,hR⟩:=hrel;by_cases hlt:k<n
  .obtain⟨r,hr⟩:∃r,l[k]? =some r:=⟨_,al (by omega)⟩
   go_wp2_with fail
   refine(TK hR.out HW.out.2.1 hs HW.out.2.2 hl2 HW.out.1 hr).mono ?_;rintro e w2 ⟨rfl,T2,B,a2,a1,k4,a4,OO,q1,q2,q3⟩;have OA:=(OO.alloc (.cells #[.int .u64 r.1,.int .u64 r.2] 283 (0,0))).alloc (.cells #[.int .u64 r.1,.int .u64 r.2] 283 (0,0));have HZ:=Y8 a1 a2 k4 a4 OO q1 q2 q3;clear a1 a2 k4 a4 OO q1 q3 hR;have hi:ae.info? 283=some eh:=rfl;have hz0:eh.zero=some (.agg #[.int .u64 0,.int .u64 0]):=rfl
   go_wp2_with (at_builtin;refine wpList_append_own _ rfl _ _ 279 rfl B 283 eh (.agg #[.int .u64 0,.int .u64 0]) 2 16 underlying279 hi hz0 rfl rfl rfl (by decide) _ _ _ rfl OA ⟨w2.heap.size+1,0,none⟩ 1 1 (rv r) rfl rfl ?c1 ?c2 ?c3 ?c4 ?c5 ?_)
   case c1=>
    intro j u hj;have hS:=St.new (w2.alloc (.cells #[.int .u64 r.1,.int .u64 r.2] 283 (0,0))) 283 #[.int .u64 r.1,.int .u64 r.2]
    match j,hj with
    |0,hj=>cases hj;simpa[cI]using hS.cell 0 rfl
    |1,hj=>cases hj;simpa[cI]using hS.cell 1 rfl
   case c2=>intro u hu;simp[rv]at hu;rcases hu with rfl|rfl<;>rfl
   case c3=>unfold maxLen;omega
   case c4=>omega
   case c5=>simp;omega
   rintro v' w3 hown hg -;obtain⟨k1,rfl⟩:∃k1,gk=k1+1:=⟨gk-1,by omega⟩
   have e1:l.take (k+1)=l.take k++[r]:=by rw[di,hr];rfl
   have HY:=Y1 (show RdS w w3 D b br c room F s l (k+1) v' by
    obtain⟨a1,a2,k4,a4,OO,q1,q2,q3⟩:=HZ.out;have kA:=(((Keeps.refl _ w2).alloc _).alloc _).grown hg fun m e=>.inl e
    have hge:=gB OO;refine⟨T2,true,B,a2.keep kA fun i hi e=>by have:=hge i e;have:=q3 i hi;omega,fun e=>(by cases e),a1.keep kA fun i hi e=>by have:=hge i e;have:=HW.out.2.1 i hi;omega,⟨k4.1.trans kA fun i e=>.inr (bz q1 (hge i e)),k4.2⟩,a4,by rw[e1,ni];exact hown,q1,bz q2 kA.size,fun _=>q3⟩)
   clear hown hg OA hr e1 q2
   go_wp2
   go_roundg k1
   case measure=>omega
   case rel=>exact⟨k+1,by omega,HY⟩
  .have hkn:k=n:=by omega
   subst hkn
   go_wp2_with fail
   obtain⟨T',ld,B,h1,h2,h3,h4,h5,h6,h7,h8,h9⟩:=hR.out;rw[List.drop_of_length_le (by omega)]at h1;rw[a_ (by omega)]at h6;refine(t_ h1).mono ?_;rintro e w2 ⟨rfl,b2⟩;have k2:Keeps (fun _=>False) wr (w2.alloc (.cells #[.int .u64 0,.int .u64 0] 283 (0,0))):=(Keeps.of_below b2).alloc _;have HZ:=Y1 (show(w2.alloc (.cells #[.int .u64 0,.int .u64 0] 283 (0,0))).ownsRow w.heap.size 283 2 u4 k (recs l)∧aV (w2.alloc (.cells #[.int .u64 0,.int .u64 0] 283 (0,0))) D b room F c∧Stp D D w (w2.alloc (.cells #[.int .u64 0,.int .u64 0] 283 (0,0)))from
    ⟨iM (k2.own h6 fun _ _=>id) h7,h3.keep k2 fun _ _=>id,h4.1.trans k2 (fun _ h=>h.elim),fun _ h=>.inl h⟩)
   clear h1 h2 h3 h4 h5 h6 h7 h8 h9 hR b2 k2
   go_wp2
   exact bodyPost_ret (results_tmp2 rfl _ _ _) rfl ⟨_,rfl,HZ.out⟩
def rg(r:Rc):cW:=.agg #[.int .u64 r.1,.int .u64 r.2]
def nu(r k:Rc):Bool:=decide (r.1<k.1)||(decide (r.1=k.1)&&decide (r.2<k.2))
theorem agS(w:cA)(r k:Rc):ax ae 281 #[rg r,rg k] w fun e w'=>e=.returned (.bool (nu r k))∧bk w.heap.size w w':=by
 obtain⟨r1,r2⟩:=r;obtain⟨k1,k2⟩:=k;have hB:bk w.heap.size w ((w.alloc (.cells #[.int .u64 r1,.int .u64 r2] 283 (0,0))).alloc (.cells #[.int .u64 k1,.int .u64 k2] 283 (0,0))):=((az _ w).alloc (ab _) _).alloc (by simp) _;have HB:=Y1 hB;clear hB;unfold rg nu;go_enter func281,ntmps281;by_cases h1:r1<k1
 .go_wp2
  go_ret;exact⟨by simp[h1],HB.out⟩
 .by_cases h2:r1=k1
  .subst h2
   go_wp2
   go_ret;exact⟨by simp,HB.out⟩
  .go_wp2
   go_ret;exact⟨by simp[h1,h2],HB.out⟩
theorem JJ(w:cA)(how:Int)(h:0<=how∧how<=2):ax ae 264 #[.int .i64 how] w fun e w'=>e=.returned (.bool true)∧w'=w:=by
 obtain⟨h1,h2⟩:=h;go_enter func264,ntmps264
 go_wp2
 go_ret;exact⟨rfl,rfl⟩
def cmp(r k:Rc):Int:=if nu r k then -1 else if nu k r then 1 else 0
theorem JK(w:cA)(how x y:Int)(h:how≠1):ax ae 258 #[.int .i64 how,.int .u64 x,.int .u64 y] w fun e w'=>e=.returned (.int .u64 (min x y))∧w'=w:=by
 have hb:(how==1)=false:=by simpa using h
 go_enter func258,ntmps258;by_cases hxy:y<x
 .go_wp2
  go_ret;exact⟨by rw[dt (by omega)];rfl,rfl⟩
 .go_wp2
  go_ret;exact⟨by rw[dy (by omega)];rfl,rfl⟩
end Go.Proofs.YtlhhcnknclnlaaaGreatDoor.Top
namespace Go.Proofs.YtlhhcnknclnlaaaGreatDoor.Top
variable {x y:Rc}
theorem Cv:nu x y=false↔y.1<x.1∨y.1=x.1∧y.2<=x.2:=by
 unfold nu;simp;omega
theorem TL:nu x y=true↔x.1<y.1∨x.1=y.1∧x.2<y.2:=by
 unfold nu;simp
theorem jW:Ord nu where
 irrefl x:=Cv.2 (.inr ⟨rfl,cm _⟩)
 trans x y z h1 h2:=by
  rw[TL]at*;omega
 ntrans x y z h1 h2:=by
  rw[Cv]at*;omega
def wZ(l:List Rc):Prop:=l.Pairwise fun x y=>nu y x=false
def iq(M:List Rc)(k:Int):Option Int->Prop
 |none=>∀r∈M,r.1≠k
 |some x=>(k,x)∈M∧∀r∈M,r.1=k->x<=r.2
variable {A B M p:List Rc}{k:Int}{o:Option Int}
theorem iq.perm{M':List Rc}(h:iq M k o)(hp:M.Perm M'):iq M' k o:=by
 cases o with
 |none=>exact fun r hr=>h r (hp.mem_iff.2 hr)
 |some x=>exact⟨hp.mem_iff.1 h.1,fun r hr=>h.2 r (hp.mem_iff.2 hr)⟩
theorem iq.unique{o':Option Int}(h:iq M k o)(h':iq M k o'):o=o':=by
 cases o with
 |none=>
  cases o' with
  |none=>rfl
  |some y=>exact absurd rfl (h _ h'.1)
 |some x=>
  cases o' with
  |none=>exact absurd rfl (h' _ h.1)
  |some y=>
   have h1:=h.2 _ h'.1 rfl;have h2:=h'.2 _ h.1 rfl;rw[show x=y by simp at h1 h2;omega]
def lK(l:List Rc)(r:Rc):List Rc:=
 match l.getLast? with
 |some x=>if x.1=r.1 then l.dropLast++[(x.1,min x.2 r.2)]else l++[r]
 |none=>[r]
def look(l:List Rc)(k:Int):Option Int:=(l.find? fun r=>r.1==k).map (·.2)
structure Fo (p o:List Rc):Prop where
 up:o.Pairwise fun x y=>x.1<y.1
 sub:∀x∈o,x∈p
 all:∀r∈p,∃x∈o,x.1=r.1∧x.2<=r.2
theorem Fo.put{o:List Rc}{r:Rc}(h:Fo p o)(hr:∀y∈p,nu r y=false):Fo (p++[r]) (lK o r):=by
 unfold lK;cases ho:o.getLast? with
 |none=>
  have:=List.getLast?_eq_none_iff.1 ho;subst this;have hp:=cy.2 fun x hx=>by obtain⟨_,h,_⟩:=h.all x hx;cases h
  subst hp;exact⟨by simp,by simp,by simp⟩
 |some x=>
  obtain⟨o',rfl⟩:=List.getLast?_eq_some_iff.1 ho;have hx:=Cv.1 (hr x (h.sub x (by simp)));simp only
  split
  .rename_i e
   have e2:min x.2 r.2=x.2:=by omega
   rw[e2,List.dropLast_concat];refine⟨h.up,fun y hy=>by simp[h.sub y hy],fun y hy=>?_⟩;rcases ag.1 hy with hy|hy
   .exact h.all y hy
   .obtain rfl:y=r:=by simpa using hy
    exact⟨x,by simp,e,by omega⟩
  .rename_i e
   have hlt:x.1<r.1:=by omega
   refine⟨?_,fun y hy=>?_,fun y hy=>?_⟩
   .rw[bt];refine⟨h.up,by simp,fun y hy z hz=>?_⟩;obtain rfl:z=r:=by simpa using hz
    rcases ag.1 hy with hy|hy
    .have:=(bt.1 h.up).2.2 y hy x (by simp);omega
    .obtain rfl:y=x:=by simpa using hy
     exact hlt
   .rcases ag.1 hy with hy|hy
    .simp[h.sub y hy]
    .simp at hy;simp[hy]
   .rcases ag.1 hy with hy|hy
    .obtain⟨z,hz,h1⟩:=h.all y hy;exact⟨z,cE _ hz,h1⟩
    .obtain rfl:y=r:=by simpa using hy
     exact⟨y,by simp,rfl,cm _⟩
theorem Fo.fold{s o:List Rc}(h:Fo p o)(hs:wZ (p++s)):Fo (p++s) (s.foldl lK o):=by
 induction s generalizing p o with
 |nil=>simpa using h
 |cons r s ih=>
  have:=ih (p:=p++[r]) (o:=lK o r) (h.put fun y hy=>(bt.1 hs).2.2 y hy r (by simp)) (by simpa using hs);simpa using this
theorem Fo.nil:Fo [] []:=⟨List.Pairwise.nil,by simp,by simp⟩
theorem Fo.look{p o:List Rc}(h:Fo p o)(k:Int):iq p k (look o k):=by
 unfold Top.look;cases hf:o.find? fun r=>r.1==k with
 |none=>
  intro r hr e;obtain⟨x,hx,h1,_⟩:=h.all r hr;have:=List.find?_eq_none.1 hf x hx;simp at this;omega
 |some x=>
  have h1:=List.mem_of_find?_eq_some hf;have h2:x.1=k:=by simpa using List.find?_some hf
  refine⟨?_,fun r hr e=>?_⟩
  .rw[<-h2];exact h.sub x h1
  .obtain⟨y,hy,h3,h4⟩:=h.all r hr;have:y=x:=by
    obtain⟨i,hi,rfl⟩:=ca hy;obtain⟨j,hj,rfl⟩:=ca h1;have hp:=List.pairwise_iff_getElem.1 h.up;rcases Nat.lt_trichotomy i j with hij|hij|hij
    .have:=hp i j hi hj hij;omega
    .subst hij;rfl
    .have:=hp j i hj hi hij;omega
   rw[this]at h4;exact h4
abbrev Hd:Type:=Rc×Nat
def hlt(h k:Hd):Bool:=nu h.1 k.1||(decide (h.1=k.1)&&decide (h.2<k.2))
theorem Yo{x y:Hd}(h:hlt x y=false):nu x.1 y.1=false:=by
 unfold hlt at h;exact(Bool.or_eq_false_iff.1 h).1
theorem Yp(h1:nu x y=false)(h2:nu y x=false):x=y:=by
 rw[Cv]at h1 h2;exact Prod.ext (by omega) (by omega)
theorem JL:Ord hlt where
 irrefl x:=by unfold hlt;simp[jW.irrefl]
 trans x y z h1 h2:=by
  unfold hlt at*;simp only[Bool.or_eq_true,Bool.and_eq_true,decide_eq_true_eq]at*;rcases h1 with h1|⟨h1,h3⟩<;>rcases h2 with h2|⟨h2,h4⟩
  .exact .inl (jW.trans _ _ _ h1 h2)
  .exact .inl (h2▸h1)
  .exact .inl (h1▸h2)
  .exact .inr ⟨h1.trans h2,by omega⟩
 ntrans x y z h1 h2:=by
  unfold hlt at*;simp only[Bool.or_eq_false_iff,Bool.and_eq_false_iff,decide_eq_false_iff_not]at*;refine⟨jW.ntrans _ _ _ h1.1 h2.1,?_⟩;by_cases e:x.1=z.1
  .right;have e1:=Yp h1.1 (by rw[e];exact h2.1);have e2:=e1.symm.trans e;have h3:=h1.2.resolve_left fun h=>h e1
   have h4:=h2.2.resolve_left fun h=>h e2
   omega
  .exact .inl e
structure Mg (all p:List Rc) (H:List Hd) (R:List (List Rc)):Prop where
 perm:(p++(H.map (·.1)++R.flatten)).Perm all
 out:wZ p
 rest:∀r∈R,wZ r
 near:∀i r,R[i]? =some r->∀y∈r,∃h∈H,h.2=i∧nu y h.1=false
 far:∀x∈p,∀y∈H.map (·.1)++R.flatten,nu y x=false
variable {H:List Hd}
theorem Mg.congr{all:List Rc}{H':List Hd}{R:List (List Rc)}(h:Mg all p H R)(hp:H.Perm H'):Mg all p H' R:=by
 have hq:(H.map (·.1)++R.flatten).Perm (H'.map (·.1)++R.flatten):=(hp.map _).append_right _;exact⟨(hq.symm.append_left p).trans h.perm,h.out,h.rest,fun i r hr y hy=>by
  obtain⟨k,hk,h1⟩:=h.near i r hr y hy;exact⟨k,hp.mem_iff.1 hk,h1⟩,fun x hx y hy=>h.far x hx y (hq.mem_iff.2 hy)⟩
theorem Mg.pop{all:List Rc}{x:Hd}{R:List (List Rc)}(h:Mg all p (x::H) R)(hx:∀y∈H,hlt y x=false):
 (p++[x.1]++(H.map (·.1)++R.flatten)).Perm all∧wZ (p++[x.1])∧(∀r∈R,wZ r)∧(∀i r,i≠x.2->R[i]? =some r->∀y∈r,∃h∈H,h.2=i∧nu y h.1=false)∧∀z∈p++[x.1],∀y∈H.map (·.1)++R.flatten,nu y z=false:=by
 have hm:∀k∈x::H,nu k.1 x.1=false:=fun k hk=>by
  rcases ar.1 hk with rfl|hk
  .exact jW.irrefl _
  .exact Yo (hx k hk)
 have hr:∀y∈H.map (·.1)++R.flatten,nu y x.1=false:=fun y hy=>by
  rcases ag.1 hy with hy|hy
  .obtain⟨k,hk,rfl⟩:=List.mem_map.1 hy;exact hm k (by simp[hk])
  .obtain⟨r,hr,hy⟩:=du.1 hy;obtain⟨i,hi,e⟩:=ca hr;obtain⟨k,hk,_,h2⟩:=h.near i r (by rw[<-e];exact al hi) y hy;exact jW.ntrans _ _ _ h2 (hm k hk)
 refine⟨by simpa using h.perm,?_,h.rest,fun i r hi hr y hy=>?_,fun z hz y hy=>?_⟩
 .unfold wZ;rw[bt];exact⟨h.out,by simp,fun y hy z hz=>by
   obtain rfl:z=x.1:=by simpa using hz
   exact h.far y hy _ (by simp)⟩
 .obtain⟨k,hk,h1,h2⟩:=h.near i r hr y hy;rcases ar.1 hk with rfl|hk
  .exact absurd h1.symm hi
  .exact⟨k,hk,h1,h2⟩
 .rcases ag.1 hz with hz|hz
  .exact h.far z hz y (by
    rcases ag.1 hy with hy|hy
    .simp at hy ⊢; exact .inr (.inl hy)
    .simp at hy ⊢; exact .inr (.inr hy))
  .obtain rfl:z=x.1:=by simpa using hz
   exact hr y hy
theorem EA:∀(R:List (List Rc)) (i:Nat) (y:Rc) (r:List Rc),R[i]? =some (y::r)->(y::(R.set i r).flatten).Perm R.flatten
 | [],i,y,r,h=>by cases h
 |s::R,0,y,r,h=>by
  obtain rfl:s=y::r:=by simpa using h
  simp
 |s::R,i+1,y,r,h=>by
  have ih:=EA R i y r (by simpa using h);simp only[List.set_cons_succ,bj];exact(dv.symm).trans (ih.append_left s)
variable {i n:Nat}
theorem Mg.next{all:List Rc}{R:List (List Rc)}{r:List Rc}(hi:R[i]? =some (y::r))(h1:(p++(H.map (·.1)++R.flatten)).Perm all)(h2:wZ p)(h3:∀r∈R,wZ r)(h4:∀k r,k≠i->R[k]? =some r->∀y∈r,∃h∈H,h.2=k∧nu y h.1=false)(h5:∀z∈p,∀y∈H.map (·.1)++R.flatten,nu y z=false):
 Mg all p ((y,i)::H) (R.set i r):=by
 have hq:(((y,i)::H).map (·.1)++(R.set i r).flatten).Perm (H.map (·.1)++R.flatten):=by
  simp only[cz,List.cons_append];exact(dv.symm).trans ((EA R i y r hi).append_left _)
 have hil:=(ai.1 hi).1;have hsr:=h3 _ (cX hi);refine⟨(hq.append_left p).trans h1,h2,fun s hs=>?_,fun k s hk z hz=>?_,fun z hz x hx=>h5 z hz x (hq.mem_iff.1 hx)⟩
 .rcases List.mem_or_eq_of_mem_set hs with hs|rfl
  .exact h3 s hs
  .exact(df.1 hsr).2
 .by_cases e:i=k
  .subst e;rw[List.getElem?_set_self hil]at hk;cases hk;exact⟨(y,i),by simp,rfl,(df.1 hsr).1 z hz⟩
  .rw[List.getElem?_set_ne e]at hk;obtain⟨h,hh,hh2⟩:=h4 k s (Ne.symm e) hk z hz;exact⟨h,by simp[hh],hh2⟩
theorem Mg.none{all:List Rc}{R:List (List Rc)}(hi:R[i]? =some []∨R[i]? =none)(h1:(p++(H.map (·.1)++R.flatten)).Perm all)(h2:wZ p)(h3:∀r∈R,wZ r)(h4:∀k r,k≠i->R[k]? =some r->∀y∈r,∃h∈H,h.2=k∧nu y h.1=false)(h5:∀z∈p,∀y∈H.map (·.1)++R.flatten,nu y z=false):
 Mg all p H R:=by
 refine⟨h1,h2,h3,fun k s hk z hz=>?_,h5⟩;by_cases e:k=i
 .subst e;rcases hi with hi|hi
  .rw[hi]at hk;cases hk;cases hz
  .rw[hi]at hk;cases hk
 .exact h4 k s e hk z hz
theorem Mg.done{all:List Rc}{R:List (List Rc)}(h:Mg all p [] R):wZ p∧p.Perm all:=by
 have hR:R.flatten=[]:=by
  refine cy.2 fun y hy=>?_
  obtain⟨r,hr,hy⟩:=du.1 hy;obtain⟨i,hi,e⟩:=ca hr;obtain⟨k,hk,_⟩:=h.near i r (by rw[<-e];exact al hi) y hy;cases hk
 exact⟨h.out,by simpa[hR]using h.perm⟩
def AX(x:Int):Option Int->Int×Bool
 |some s=>if s<x then(s,true)else(x,false)
 |none=>(x,false)
def sent(ms:Int->Int)(E:zH)(V:List Int)(L:List Bool):List Rc:=E.filterMap fun e=>if L.getD e.1 false then some ((e.2:Int),ms (V.getD e.1 0))else none
variable {E:zH}{L L':List Bool}{V V':List Int}{ms:Int->Int}
theorem yC{x:Int}:(k,x)∈sent ms E V L↔∃e∈E,L.getD e.1 false=true∧k=e.2∧x=ms (V.getD e.1 0):=by
 unfold sent;rw[List.mem_filterMap];constructor
 .rintro⟨e,he,h⟩
  split at h
  .rename_i hl
   cases h;exact⟨e,he,hl,rfl,rfl⟩
  .cases h
 .rintro⟨e,he,h1,rfl,rfl⟩;exact⟨e,he,by rw[if_pos h1]⟩
structure Sup (ms:Int->Int) (n:Nat) (E:zH) (V:List Int) (L:List Bool) (V':List Int) (L':List Bool):Prop where
 v:V'.length=n
 l:L'.length=n
 at_:∀v,v<n->∃o,iq (sent ms E V L) v o∧(V'.getD v 0,L'.getD v false)=AX (V.getD v 0) o
def never:Int:=18446744073709551615
def zL:Option Nat->Int
 |some a=>a
 |none=>never
structure mE (n:Nat) (E:zH) (s j:Nat) (V:List Int) (L:List Bool):Prop where
 v:∀v,v<n->V.getD v 0=zL (far E s j v)
 l:∀v,v<n->L.getD v false=decide (far E s j v=some j)
theorem mE.step{s j:Nat}(h:mE n E s j V L)(hE:∀e∈E,e.1<n∧e.2<n)(hj:j<1000000)(hs:Sup (fun x=>x+1) n E V L V' L'):mE n E s (j+1) V' L':=by
 have key:∀v,v<n->V'.getD v 0=zL (far E s (j+1) v)∧L'.getD v false=decide (far E s (j+1) v=some (j+1)):=by
  intro v hv;obtain⟨o,ho,hn⟩:=hs.at_ v hv;have hs1:∀x,((v:Int),x)∈sent (fun x=>x+1) E V L->x=j+1∧∃e∈E,e.2=v∧far E s j e.1=some j:=by
   intro x hx;obtain⟨e,he,h1,h2,h3⟩:=yC.1 hx;have h4:=h.l e.1 (hE e he).1;rw[h1]at h4;have h5:far E s j e.1=some j:=by simpa using h4.symm
   have h6:=h.v e.1 (hE e he).1;rw[h5]at h6;refine⟨by rw[h3,h6];rfl,e,he,by omega,h5⟩
  have hs2:(∃e∈E,e.2=v∧far E s j e.1=some j)->((v:Int),(j:Int)+1)∈sent (fun x=>x+1) E V L:=by
   rintro⟨e,he,rfl,h5⟩;refine yC.2 ⟨e,he,by rw[h.l e.1 (hE e he).1];simp[h5],rfl,?_⟩;rw[h.v e.1 (hE e he).1,h5];rfl
  have hv0:=h.v v hv;have e1:V'.getD v 0=(AX (V.getD v 0) o).1:=congrArg cY hn;have e2:L'.getD v false=(AX (V.getD v 0) o).2:=congrArg eo hn;rw[e1,e2];show _=zL (nT E j (far E s j) v)∧_=decide (nT E j (far E s j) v=some (j+1));unfold nT;cases hd:far E s j v with
  |some a=>
   have ha:=uY _ _ _ hd;rw[hd]at hv0;rw[hv0];cases o with
   |none=>exact⟨rfl,by simp[AX];omega⟩
   |some x=>
    obtain⟨rfl,_⟩:=hs1 x ho.1;have:¬((j:Int)+1<a):=by omega
    refine⟨by simp[AX,zL,this],by simp[AX,zL,this];omega⟩
  |none=>
   rw[hd]at hv0;rw[hv0];simp only;cases o with
   |none=>
    rw[if_neg fun hc=>ho _ (hs2 hc) rfl];exact⟨rfl,rfl⟩
   |some x=>
    obtain⟨rfl,h5⟩:=hs1 x ho.1;rw[if_pos h5];have:(j:Int)+1<never:=by unfold never;omega
    exact⟨by simp[AX,zL,this],by simp[AX,zL,this]⟩
 exact⟨fun v hv=>(key v hv).1,fun v hv=>(key v hv).2⟩
def Still(n:Nat)(L:List Bool):Prop:=∀v,v<n->L.getD v false=false
structure ah3 (n:Nat) (E:zH) (V:List Int) (L:List Bool):Prop where
 ge:∀v,v<n->(grt E v:Int)<=V.getD v 0
 le:∀v,v<n->V.getD v 0<=v
 off:∀e∈E,L.getD e.1 false=false->V.getD e.2 0<=V.getD e.1 0
theorem aiq(x:Int)(o:Option Int):(AX x o).1<=x:=by
 cases o with
 |none=>exact cm _
 |some s=>unfold AX;simp only;split<;>simp<;>omega
theorem ain(x s:Int):(AX x (some s)).1<=s:=by
 unfold AX;simp only;split<;>simp<;>omega
theorem air{x:Int}(h:(AX x o).2=false):(AX x o).1=x:=by
 cases o with
 |none=>rfl
 |some s=>
  unfold AX at*;by_cases hs:s<x
  .simp[hs]at h
  .simp[hs]
theorem aio{x:Int}(h:(AX x o).2=true):(AX x o).1<x:=by
 cases o with
 |none=>cases h
 |some s=>unfold AX at *; simp only at *; split at h<;>simp_all
theorem ah3.sends(hE:∀e∈E,e.1<n∧e.2<n)(hs:Sup (fun x=>x) n E V L V' L'):∀e∈E,L.getD e.1 false=true->V'.getD e.2 0<=V.getD e.1 0:=by
 intro e he hl;obtain⟨o,ho,hn⟩:=hs.at_ e.2 (hE e he).2;have h1:((e.2:Int),V.getD e.1 0)∈sent (fun x=>x) E V L:=yC.2 ⟨e,he,hl,rfl,rfl⟩;have e1:V'.getD e.2 0=(AX (V.getD e.2 0) o).1:=congrArg cY hn;cases o with
 |none=>exact absurd rfl (ho _ h1)
 |some x=>
  have h2:x<=V.getD e.1 0:=ho.2 _ h1 rfl;rw[e1];exact cq (ain _ _) h2
theorem Sup.le(hs:Sup ms n E V L V' L'):∀v,v<n->V'.getD v 0<=V.getD v 0:=by
 intro v hv;obtain⟨o,ho,hn⟩:=hs.at_ v hv;have e1:V'.getD v 0=(AX (V.getD v 0) o).1:=congrArg cY hn;rw[e1];exact aiq _ _
theorem ah3.step(h:ah3 n E V L)(hE:∀e∈E,e.1<n∧e.2<n)(hs:Sup (fun x=>x) n E V L V' L'):ah3 n E V' L':=by
 refine⟨fun v hv=>?_,fun v hv=>cq (hs.le v hv) (h.le v hv),fun e he hl=>?_⟩
 .obtain⟨o,ho,hn⟩:=hs.at_ v hv;have e1:V'.getD v 0=(AX (V.getD v 0) o).1:=congrArg cY hn;rw[e1];cases o with
  |none=>exact h.ge v hv
  |some x=>
   obtain⟨e,he,_,h2,h3⟩:=yC.1 ho.1;have h4:=(ah5 E).2 e he;have h5:=h.ge e.1 (hE e he).1;have h6:e.2=v:=by omega
   have h7:=h.ge v hv;rw[h6]at h4;unfold AX;simp only
   split
   .simp only;omega
   .exact h7
 .obtain⟨o,ho,hn⟩:=hs.at_ e.1 (hE e he).1;have e1:V'.getD e.1 0=(AX (V.getD e.1 0) o).1:=congrArg cY hn;have e2:L'.getD e.1 false=(AX (V.getD e.1 0) o).2:=congrArg eo hn;rw[e1,air (by rw[<-e2];exact hl)];cases hb:L.getD e.1 false with
  |true=>exact ah3.sends hE hs e he hb
  |false=>exact cq (hs.le e.2 (hE e he).2) (h.off e he hb)
theorem ah3.still(h:ah3 n E V L)(hE:∀e∈E,e.1<n∧e.2<n)(hq:Still n L):∀v,v<n->V.getD v 0=grt E v:=by
 have hg:Closed E fun v=>if v<n then(V.getD v 0).toNat else 0:=by
  refine⟨fun v=>?_,fun e he=>?_⟩
  .by_cases hv:v<n
   .have:=h.le v hv;simp only[if_pos hv];omega
   .simp only[if_neg hv];omega
  .have h1:=hE e he;have h2:=h.off e he (hq _ h1.1);simp only[if_pos h1.1,if_pos h1.2];omega
 intro v hv;have h1:=aia hg v;have h2:=h.ge v hv;simp only[if_pos hv]at h1;omega
theorem aij(hE:∀e∈E,e.1<n∧e.2<n)(C:Nat->List Int×List Bool)(h0:ah3 n E (C 0).1 (C 0).2)(hs:∀j,j<=n->Sup (fun x=>x) n E (C j).1 (C j).2 (C (j+1)).1 (C (j+1)).2):
 Still n (C (n+1)).2:=by
 have hA:∀j,j<=n+1->ah3 n E (C j).1 (C j).2:=by
  intro j
  induction j with
  |zero=>intro _;exact h0
  |succ j ih=>intro hj;exact(ih (by omega)).step hE (hs j (by omega))
 have hx:=ah_ hE (fun j v=>((C j).1.getD v 0).toNat) n (fun v hv=>by have:=h0.le v hv;omega)
  (fun j hj v hv=>by have:=(hA j (by omega)).ge v hv;omega)
  (fun j hj v hv=>by have:=(hs j (by omega)).le v hv;omega)
  (fun j hj e he h1 h2=>by
   have h3:=(hA j (by omega)).ge e.1 (hE e he).1;cases hb:(C j).2.getD e.1 false with
   |true=>have:=ah3.sends hE (hs j (by omega)) e he hb;omega
   |false=>
    have:=(hA j (by omega)).off e he hb;have:=(hs j (by omega)).le e.2 (hE e he).2;omega) (ab _)
 intro v hv;obtain⟨o,ho,hn⟩:=(hs n (ab _)).at_ v hv;have e1:(C (n+1)).1.getD v 0=(AX ((C n).1.getD v 0) o).1:=congrArg cY hn;have e2:(C (n+1)).2.getD v false=(AX ((C n).1.getD v 0) o).2:=congrArg eo hn;rw[e2];cases hb:(AX ((C n).1.getD v 0) o).2 with
 |false=>rfl
 |true=>
  have h1:=aio hb;have h2:=(hA (n+1) (ab _)).ge v hv;have h3:=hx v hv;have h4:=(hA n (by omega)).ge v hv;omega
def ah4(l:List Int)(e:Nat×Nat):List Int:=l.set e.2 (min (l.getD e.2 0) (l.getD e.1 0))
theorem ah6{n:Nat}{G:zH}:∀(E:zH) (l:List Int),(∀e∈E,e∈G∧e.1<n∧e.2<n)->l.length=n->(∀v,v<n->(grt G v:Int)<=l.getD v 0)->
 (E.foldl ah4 l).length=n∧(∀v,v<n->(grt G v:Int)<=(E.foldl ah4 l).getD v 0)∧(∀v,v<n->(E.foldl ah4 l).getD v 0<=l.getD v 0)∧∀e∈E,(E.foldl ah4 l).getD e.2 0<=l.getD e.1 0
 | [],l,_,hl,hg=>⟨hl,hg,fun _ _=>cm _,fun _ h=>by cases h⟩
 |e::E,l,hE,hl,hg=>by
  obtain⟨he,h1,h2⟩:=hE e (by simp);have P:∀v,(ah4 l e).getD v 0=if e.2=v then min (l.getD e.2 0) (l.getD e.1 0)else l.getD v 0:=fun v=>by
   unfold ah4;rw[dL _ _ _ _ _ (by omega)]
  have hc:=(ah5 G).2 e he;have hle:∀v,v<n->(ah4 l e).getD v 0<=l.getD v 0:=fun v hv=>by
   rw[P]
   split
   .subst_vars;omega
   .exact cm _
  obtain⟨a1,a2,a3,a4⟩:=ah6 (n:=n) (G:=G) E (ah4 l e) (fun x hx=>hE x (by simp[hx])) (by unfold ah4;simpa using hl) fun v hv=>by
   rw[P];have:=hg v hv;have:=hg e.1 h1;have:=hg e.2 h2
   split
   .subst_vars;omega
   .assumption
  refine⟨a1,a2,fun v hv=>cq (a3 v hv) (hle v hv),fun x hx=>?_⟩;rcases ar.1 hx with rfl|hx
  .refine cq (a3 _ h2) ?_;rw[P,if_pos rfl];omega
  .exact cq (a4 x hx) (hle _ (hE x (by simp[hx])).2.1)
theorem ah9(hE:∀e∈E,e.1<n∧e.2<n)(l:Nat->List Int)(h0:(l 0).length=n∧∀v,v<n->(l 0).getD v 0=v)(hs:∀j,j<n->l (j+1)=E.foldl ah4 (l j)):∀v,v<n->(l n).getD v 0=grt E v:=by
 have hA:∀j,j<=n->(l j).length=n∧∀v,v<n->(grt E v:Int)<=(l j).getD v 0:=by
  intro j
  induction j with
  |zero=>intro _;exact⟨h0.1,fun v hv=>by rw[h0.2 v hv];have:=(ah5 E).1 v;omega⟩
  |succ j ih=>
   intro hj;obtain⟨a,b⟩:=ih (by omega);rw[hs j (by omega)];have:=ah6 (n:=n) (G:=E) E (l j) (fun e he=>⟨he,hE e he⟩) a b;exact⟨this.1,this.2.1⟩
 have hf:=fun j (hj:j<n)=>ah6 (n:=n) (G:=E) E (l j) (fun e he=>⟨he,hE e he⟩) (hA j (by omega)).1 (hA j (by omega)).2
 have hx:=ah_ hE (fun j v=>((l j).getD v 0).toNat) n (fun v hv=>by rw[h0.2 v hv];omega)
  (fun j hj v hv=>by have:=(hA j hj).2 v hv;omega)
  (fun j hj v hv=>by have:=(hf j hj).2.2.1 v hv;rw[hs j hj];omega)
  (fun j hj e he h1 h2=>by
   have h3:=(hA j (by omega)).2 e.1 (hE e he).1;have:=(hf j hj).2.2.2 e he;rw[hs j hj];omega) (ab _)
 intro v hv;have:=hx v hv;have:=(hA n (ab _)).2 v hv;omega
theorem Cw:∀(M:List Rc) (k:Int),∃o,iq M k o
 | [],k=>⟨none,fun _ h=>by cases h⟩
 |r::M,k=>by
  obtain⟨o,ho⟩:=Cw M k;by_cases e:r.1=k
  .subst e;cases o with
   |none=>exact⟨some r.2,dg,fun x hx e=>by
    rcases ar.1 hx with rfl|hx
    .exact cm _
    .exact absurd e (ho x hx)⟩
   |some y=>
    by_cases hl:r.2<=y
    .exact⟨some r.2,dg,fun x hx e=>by
      rcases ar.1 hx with rfl|hx
      .exact cm _
      .have:=ho.2 x hx e;omega⟩
    .exact⟨some y,c_ _ ho.1,fun x hx e=>by
      rcases ar.1 hx with rfl|hx
      .omega
      .exact ho.2 x hx e⟩
  .cases o with
   |none=>exact⟨none,fun x hx e'=>by
    rcases ar.1 hx with rfl|hx
    .exact e e'
    .exact ho x hx e'⟩
   |some y=>exact⟨some y,c_ _ ho.1,fun x hx e'=>by
    rcases ar.1 hx with rfl|hx
    .exact absurd e' e
    .exact ho.2 x hx e'⟩
def afd:Option Int->Option Int->Option Int
 |none,o=>o
 |some x,none=>some x
 |some x,some y=>some (min x y)
theorem iq.append{a b:Option Int}(ha:iq A k a)(hb:iq B k b):iq (A++B) k (afd a b):=by
 cases a with
 |none=>
  cases b with
  |none=>exact fun r hr=>(ag.1 hr).elim (ha r) (hb r)
  |some y=>exact⟨cU _ hb.1,fun r hr e=>(ag.1 hr).elim (fun h=>absurd e (ha r h)) fun h=>hb.2 r h e⟩
 |some x=>
  cases b with
  |none=>exact⟨cE _ ha.1,fun r hr e=>(ag.1 hr).elim (fun h=>ha.2 r h e) fun h=>absurd e (hb r h)⟩
  |some y=>
   refine⟨?_,fun r hr e=>?_⟩
   .rcases Int.le_total x y with h|h
    .rw[dy h];exact cE _ ha.1
    .rw[dt h];exact cU _ hb.1
   .rcases ag.1 hr with h|h
    .have:=ha.2 r h e;omega
    .have:=hb.2 r h e;omega
def sD(A B:List Rc):Prop:=∀k o,iq A k o->iq B k o
theorem sD.refl(A:List Rc):sD A A:=fun _ _ h=>h
theorem sD.trans{C:List Rc}(h:sD A B)(h':sD B C):sD A C:=fun k o hA=>h' k o (h k o hA)
theorem sD.perm{A B:List Rc}(h:A.Perm B):sD A B:=fun _ _ hA=>hA.perm h
theorem sD.append{A A' B B':List Rc}(h:sD A A')(h':sD B B'):sD (A++B) (A'++B'):=fun k o hAB=>by
 obtain⟨a,ha⟩:=Cw A k;obtain⟨b,hb⟩:=Cw B k;rw[hAB.unique (ha.append hb)];exact(h k a ha).append (h' k b hb)
theorem merged{s all:List Rc}(h:wZ s)(hp:s.Perm all):(s.foldl lK []).Pairwise (fun x y=>x.1<y.1)∧∀k,iq all k (look (s.foldl lK []) k):=by
 have:=Fo.fold Fo.nil (s:=s) (by simpa using h);rw[cM]at this;exact⟨this.up,fun k=>(this.look k).perm hp⟩
theorem G7{α:Type}(f:α->Nat):∀(s:Nat) (E:List α),(∀e∈E,f e<s)->((dC s).map fun i=>E.filter fun e=>f e==i).flatten.Perm E:=by
 intro s
 induction s with
 |zero=>
  intro E h;cases E with
  |nil=>exact List.Perm.refl _
  |cons e E=>exact absurd (h e (by simp)) (by omega)
 |succ s ih=>
  intro E h;rw[List.range_succ,List.map_append,List.flatten_append];have h1:=ih (E.filter fun e=> !(f e==s)) (fun e he=>by
   have:=List.mem_filter.1 he;have h2:=h e this.1;have h3:f e≠s:=by simpa using this.2
   omega)
  have h2:((dC s).map fun i=>(E.filter fun e=> !(f e==s)).filter fun e=>f e==i)=(dC s).map fun i=>E.filter fun e=>f e==i:=by
   refine List.map_congr_left fun i hi=>?_
   rw[List.filter_filter];refine List.filter_congr fun e _=>?_
   have:=List.mem_range.1 hi;by_cases e1:f e=i
   .have:f e≠s:=by omega
    simp[e1];omega
   .simp[e1]
  rw[h2]at h1;simp only[cz,List.map_nil,bj,List.flatten_nil,cN];refine(h1.append_right _).trans ?_;refine(List.perm_append_comm).trans ?_;exact List.filter_append_perm (fun e=>f e==s) E
theorem Le{E':zH}(h:E.Perm E'):(sent ms E V L).Perm (sent ms E' V L):=h.filterMap _
theorem vV(ms:Int->Int)(E E':zH)(V:List Int)(L:List Bool):sent ms (E++E') V L=sent ms E V L++sent ms E' V L:=by simp[sent]
end Go.Proofs.YtlhhcnknclnlaaaGreatDoor.Top
namespace Go.Proofs.YtlhhcnknclnlaaaGreatDoor.iH
open Go.RowKit Go.Proofs.ah.aN Go.Proofs.ah.bA Go.Proofs.ah.dx
section
attribute [local go_sem] gM gN kY lg
mutual
def bH.j0:Nat->Int->Int->Int->Bool->Option (Int)
 |0,_,_,_,_=>none
 |k+1,x0,x1,x2,x18=>if x18=true then(some 0)else(if x1=0 then(none)else(bH.l0 k x2 0 (wrap64 ((wrap64 (dE (wrap64 (x0-1)) x1))+1))))
def bH.l0:Nat->Int->Int->Int->Option (Int)
 |0,_,_,_=>none
 |k+1,x2,x7,x8=>if x8>1 then(if x2=0 then(none)else(bH.l0 k x2 (wrap64 (x7+1)) (wrap64 ((wrap64 (dE (wrap64 (x8-1)) x2))+1))))else(some x7)
end
def bH.f(k:Nat)(a0:Int)(a1:Int)(a2:Int):Option (Int):=if a0<1 then(bH.j0 k a0 a1 a2 true)else(if a1<1 then(bH.j0 k a0 a1 a2 true)else(bH.j0 k a0 a1 a2 (decide (a2<2))))
theorem bH.calls(k:Nat)(a0:Int)(a1:Int)(a2:Int)(r:Int)(w:cA)(h:bH.f k a0 a1 a2=some r):
 ax ae 240 #[.int .i64 a0,.int .i64 a1,.int .i64 a2] w fun e w'=>e=.returned (.int .i64 r)∧bG w w':=by
 have H:=h;clear h;unfold bH.f at H;have HC4:=Y1 H;clear H;go_enter func240,ntmps240
 go_upto_region 1 with(fail)
 go_cut [18] (fun v18 wc=>∃(kq:Nat) (JM:Bool),v18=.bool JM∧aG (bH.j0 kq a0 a1 a2 JM=some r)∧aG (kq<=k)∧bG w wc)
 case first=>
  have H:=HC4.out;clear HC4;by_cases c5:a0<1
  .rw[if_pos c5]at H;have zJ:decide (a0<1)=true:=decide_eq_true c5;clear c5
   (skip)
   have H':=Y1 H;clear H
   go_wp2
   go_meet
   case rel=>exact⟨_,(true),(by rfl),H',⟨by omega⟩,by repeat (exact bG.refl _)⟩
  .rw[if_neg c5]at H;have zJ:decide (a0<1)=false:=decide_eq_false c5;clear c5
   (skip)
   by_cases c6:a1<1
   .rw[if_pos c6]at H;have pJ:decide (a1<1)=true:=decide_eq_true c6;clear c6;have H':=Y1 H;clear H
    go_wp2
    go_meet
    case rel=>exact⟨_,(true),(by rfl),H',⟨by omega⟩,by repeat (exact bG.refl _)⟩
   .rw[if_neg c6]at H;have pJ:decide (a1<1)=false:=decide_eq_false c6;clear c6;have H':=Y1 H;clear H
    go_wp2
    go_meet
    case rel=>exact⟨_,(decide (a2<2)),(by rfl),H',⟨by omega⟩,by repeat (exact bG.refl _)⟩
 case rest=>
  clear HC4;obtain⟨kq,JM,rfl,HA,R8,⟨mc3,rfl⟩⟩:=hcut;cases kq with
  |zero=>exact absurd HA.out (by simp[bH.j0])
  |succ kj3=>
   have H:=HA.out;clear HA;simp only[bH.j0]at H;by_cases c7:JM=true
   .subst c7;rw[if_pos rfl]at H;obtain rfl:=aq H
    go_wp2
    go_ret;exact⟨by rfl,by repeat (first|exact bG.refl _|apply bG.step)⟩
   .replace c7:=Bool.eq_false_iff.mpr c7;subst c7;rw[if_neg (show ¬(false=true) by decide)]at H;by_cases c8:a1=0
    .rw[if_pos c8]at H;exact absurd H (by simp)
    .rw[if_neg c8]at H;have wI:(a1==0)=false:=beq_eq_false_iff_ne.mpr c8;have Pt:(a1 !=0)=true:=bne_iff_ne.mpr c8;have H':=Y1 H;clear H
     go_wp2
     go_loopg [7,8] kj3 (fun kq v7 v8 w'=>∃(mG:Int) (G8:Int),v7=.int .i64 mG∧v8=.int .i64 G8∧aG (bH.l0 kq a2 mG G8=some r)∧aG (kq<=kj3)∧bG w w')
     case atStart=>exact⟨(0),(wrap64 ((wrap64 (dE (wrap64 (a0-1)) a1))+1)),(by rfl),(by rfl),H',⟨ab _⟩,by repeat (first|exact bG.refl _|apply bG.step)⟩
     case round=>
      clear H'
      try clear c8
      try clear wI
      try clear Pt
      obtain⟨mG,G8,rfl,rfl,HA,El,⟨m2,rfl⟩⟩:=hrel;cases gk with
      |zero=>exact absurd HA.out (by simp[bH.l0])
      |succ k2=>
       have H:=HA.out;clear HA;simp only[bH.l0]at H;by_cases c9:G8>1
       .rw[if_pos c9]at H;have PO:decide (1<G8)=true:=decide_eq_true c9;clear c9;by_cases c10:a2=0
        .rw[if_pos c10]at H;exact absurd H (by simp)
        .rw[if_neg c10]at H;have En:(a2==0)=false:=beq_eq_false_iff_ne.mpr c10;have O4:(a2 !=0)=true:=bne_iff_ne.mpr c10;have H':=Y1 H;clear H
         go_wp2
         go_roundg k2
         case measure=>have:=R8.out;have:=El.out;omega
         case rel=>exact⟨(wrap64 (mG+1)),(wrap64 ((wrap64 (dE (wrap64 (G8-1)) a2))+1)),(by rfl),(by rfl),H',⟨by have:=R8.out;have:=El.out;omega⟩,by repeat (first|exact bG.refl _|apply bG.step)⟩
       .rw[if_neg c9]at H;have PO:decide (1<G8)=false:=decide_eq_false c9;clear c9;obtain rfl:=aq H
        go_wp2
        go_ret;exact⟨by rfl,by repeat (first|exact bG.refl _|apply bG.step)⟩
mutual
def aY.j0:Nat->Bool->Int->List (jB)->Option (Bool)
 |0,_,_,_=>none
 |k+1,R7,uf,qP=>if R7=true then(some false)else(aY.l0 k 0 uf qP)
def aY.l0:Nat->Int->Int->List (jB)->Option (Bool)
 |0,_,_,_=>none
 |k+1,x3,uf,qP=>if x3<(qP.length:Int)then(if 0<=x3 then(if(wrap64 ((bE qP x3).f0))>=uf then(some false)else(if(wrap64 ((bE qP x3).f1))>=uf then(some false)else(aY.l0 k (wrap64 (x3+1)) uf qP)))else(none))else(some true)
end
def aY.f(k:Nat)(aT:Int)(bL:List (jB)):Option (Bool):=if aT<0 then(aY.j0 k true aT bL)else(if aT>1048576 then(aY.j0 k true aT bL)else(aY.j0 k (decide ((bL.length:Int)>1048576)) aT bL))
theorem aY.calls(k:Nat)(aT:Int)(jX:Option de)(iZ:Nat)(bL:List (jB))(r:Bool)(w:cA)(vW:Kd.C pR w jX bL.length bL)(vX:bL.length<=iZ)(h:aY.f k aT bL=some r):
 ax ae 10 #[.agg #[.int .i64 aT,.slice jX bL.length iZ]] w fun e w'=>e=.returned (.bool r)∧bk w.heap.size w w':=by
 have abZ:=underlying27;have ug:=Y1 vW;have PS:=Y1 vX;clear vW vX;have HB:=Y1 (az w.heap.size w);have H:=h;clear h;unfold aY.f at H;have R9:=Y1 H;clear H;go_enter func10,ntmps10
 go_upto_region 1 with(first|((with_reducible refine bP (N:=1) rfl ?_);(try (refine GH (by rfl) ?_;dsimp only));refine bU ?hg (N:=1) ?hd (cs:= #[.int .i64 aT,.slice jX bL.length iZ]) (t:=27) ?hr ?_;(case hd=>rfl);(case hg=>rfl);(case hr=>(go_simp;done));intro iX hg w3 dz hb;have dB:=Y1 (aU (by repeat ((with_reducible exact HB.out))) hb);have dN:=Y1 (dz);have fD:=Y1 ((by rw[hg];exact(aC (by repeat ((with_reducible exact HB.out)))):w.heap.size<=iX));have iC:=Y1 ((by rw[hg];exact(aC (by repeat ((with_reducible exact HB.out)))):w.heap.size<=iX));clear HB;have HB:=dB;have fu:=dN;have WT:=fD;have WU:=iC;clear dB dN fD iC;clear hb dz hg))
 repeat (go_quiet (first|((with_reducible refine bP (N:=1) rfl ?_);refine bU ?hg (N:=1) ?hd (cs:= #[.int .i64 aT,.slice jX bL.length iZ]) (t:=27) ?hr ?_;(case hd=>rfl);(case hg=>rfl);(case hr=>first|(go_simp;done)|(go_simp;rfl));intro iX hg w3 dz hb;have dB:=Y1 (aU (by repeat (first|(with_reducible first|exact HB.out|apply dY|apply aZ|apply jJ)|exact HB.out)) hb);have dN:=Y1 (dz);have fD:=Y1 ((by rw[hg];exact(aC (by repeat (first|(with_reducible first|exact HB.out|apply dY|apply aZ|apply jJ)|exact HB.out))):w.heap.size<=iX));have iC:=Y1 ((by rw[hg];exact(aC (by repeat (first|(with_reducible first|exact HB.out|apply dY|apply aZ|apply jJ)|exact HB.out))):w.heap.size<=iX));clear HB;have HB:=dB;have fu:=dN;have WT:=fD;have WU:=iC;clear dB dN fD iC;clear hb dz hg));go_upto_region 1 with(first|((with_reducible refine bP (N:=1) rfl ?_);refine bU ?hg (N:=1) ?hd (cs:= #[.int .i64 aT,.slice jX bL.length iZ]) (t:=27) ?hr ?_;(case hd=>rfl);(case hg=>rfl);(case hr=>first|(go_simp;done)|(go_simp;rfl));intro iX hg w3 dz hb;have dB:=Y1 (aU (by repeat (first|(with_reducible first|exact HB.out|apply dY|apply aZ|apply jJ)|exact HB.out)) hb);have dN:=Y1 (dz);have fD:=Y1 ((by rw[hg];exact(aC (by repeat (first|(with_reducible first|exact HB.out|apply dY|apply aZ|apply jJ)|exact HB.out))):w.heap.size<=iX));have iC:=Y1 ((by rw[hg];exact(aC (by repeat (first|(with_reducible first|exact HB.out|apply dY|apply aZ|apply jJ)|exact HB.out))):w.heap.size<=iX));clear HB;have HB:=dB;have fu:=dN;have WT:=fD;have WU:=iC;clear dB dN fD iC;clear hb dz hg)))
 go_cut [17] (fun v17 wc=>∃(kq:Nat) (iP:Bool),v17=.bool iP∧aG (aY.j0 kq iP aT bL=some r)∧aG (kq<=k)∧aG (wc.heap[iX]? =some (.cells #[.int .i64 aT,(.slice jX bL.length iZ)] 27 (0,0)))∧aG (bk w.heap.size w wc))
 case first=>
  have H:=R9.out;clear R9;by_cases c4:aT<0
  .rw[if_pos c4]at H;have wH:decide (aT<0)=true:=decide_eq_true c4;clear c4
   (skip)
   have H':=Y1 H;clear H;have yh:w3.cell? ⟨iX,0,none⟩=some (.int .i64 aT):=(ay fu.out 0).trans rfl;have yj:w3.cell? ⟨iX,1,none⟩=some (.slice jX bL.length iZ):=(ay fu.out 1).trans rfl;have yt:=aj fu.out 0;have yu:=aj fu.out 1
   go_wp2
   repeat (go_quiet (fail);try go_wp2)
   go_meet
   case rel=>exact⟨_,(true),(by rfl),H',⟨by omega⟩,⟨by exact fu.out⟩,⟨by repeat ((with_reducible exact HB.out))⟩⟩
  .rw[if_neg c4]at H;have wH:decide (aT<0)=false:=decide_eq_false c4;clear c4
   (skip)
   by_cases c6:aT>1048576
   .rw[if_pos c6]at H;have pJ:decide (1048576<aT)=true:=decide_eq_true c6;clear c6;have H':=Y1 H;clear H;have Yq:w3.cell? ⟨iX,0,none⟩=some (.int .i64 aT):=(ay fu.out 0).trans rfl;have Yr:w3.cell? ⟨iX,1,none⟩=some (.slice jX bL.length iZ):=(ay fu.out 1).trans rfl;have Yt:=aj fu.out 0;have Yu:=aj fu.out 1
    go_wp2
    repeat (go_quiet (fail);try go_wp2)
    go_meet
    case rel=>exact⟨_,(true),(by rfl),H',⟨by omega⟩,⟨by exact fu.out⟩,⟨by repeat ((with_reducible exact HB.out))⟩⟩
   .rw[if_neg c6]at H;have pJ:decide (1048576<aT)=false:=decide_eq_false c6;clear c6;have H':=Y1 H;clear H;have G9:w3.cell? ⟨iX,0,none⟩=some (.int .i64 aT):=(ay fu.out 0).trans rfl;have G_:w3.cell? ⟨iX,1,none⟩=some (.slice jX bL.length iZ):=(ay fu.out 1).trans rfl;have He:=aj fu.out 0;have Hf:=aj fu.out 1
    go_wp2
    repeat (go_quiet (fail);try go_wp2)
    go_meet
    case rel=>exact⟨_,(decide ((bL.length:Int)>1048576)),(by rfl),H',⟨by omega⟩,⟨by exact fu.out⟩,⟨by repeat ((with_reducible exact HB.out))⟩⟩
 case rest=>
  clear R9;obtain⟨kq,iP,rfl,HA,HJ1,fu,HB⟩:=hcut;cases kq with
  |zero=>exact absurd HA.out (by simp[aY.j0])
  |succ kj1=>
   have H:=HA.out;clear HA;simp only[aY.j0]at H;by_cases c9:iP=true
   .subst c9;rw[if_pos rfl]at H;obtain rfl:=aq H
    go_wp2
    repeat (go_quiet (fail);try go_wp2)
    go_ret;exact⟨by rfl,by repeat ((with_reducible exact HB.out))⟩
   .replace c9:=Bool.eq_false_iff.mpr c9;subst c9;rw[if_neg (show ¬(false=true) by decide)]at H;have H':=Y1 H;clear H
    go_wp2
    repeat (go_quiet (fail);try go_wp2)
    go_loopg [3] kj1 (fun kq v3 w'=>∃(ig:Int),v3=.int .i64 ig∧aG (aY.l0 kq ig aT bL=some r)∧aG (kq<=kj1)∧aG (w'.heap[iX]? =some (.cells #[.int .i64 aT,(.slice jX bL.length iZ)] 27 (0,0)))∧aG (bk w.heap.size w w'))
    case atStart=>exact⟨(0),(by rfl),H',⟨ab _⟩,⟨by exact fu.out⟩,⟨by repeat ((with_reducible exact HB.out))⟩⟩
    case round=>
     clear H';obtain⟨ig,rfl,HA,El,fu,HB⟩:=hrel;cases gk with
     |zero=>exact absurd HA.out (by simp[aY.l0])
     |succ k2=>
      have H:=HA.out;clear HA;simp only[aY.l0]at H;by_cases c10:ig<(bL.length:Int)
      .rw[if_pos c10]at H;have En:decide (ig<(bL.length:Int))=true:=decide_eq_true c10;clear c10;by_cases c11:0<=ig
       .rw[if_pos c11]at H;have Ay:decide (0<=ig)=true:=decide_eq_true c11;clear c11;by_cases c12:(wrap64 ((bE bL ig).f0))>=aT
        .rw[if_pos c12]at H;have Et:decide (aT<=(wrap64 ((bE bL ig).f0)))=true:=decide_eq_true c12;clear c12;obtain rfl:=aq H;have TA:wr.cell? ⟨iX,0,none⟩=some (.int .i64 aT):=(ay fu.out 0).trans rfl;have TB:wr.cell? ⟨iX,1,none⟩=some (.slice jX bL.length iZ):=(ay fu.out 1).trans rfl;have TD:=aj fu.out 0;have TF:=aj fu.out 1;have yD:0<=(ig:Int):=of_decide_eq_true (by(with_reducible assumption));have yE:ig<(bL.length:Int):=of_decide_eq_true (by(with_reducible assumption));obtain⟨JN,e216,jY,jZ,j4⟩:=lJ ug.out ig yD yE;cases e216;replace jY:=(HB.out.cell (aa w _ jY)).trans jY;replace jZ:=(HB.out.cell (aa w _ jZ)).trans jZ;replace j4:=(HB.out.cell (aa w _ j4)).trans j4;replace yD:=eq_true yD;replace yE:=eq_true yE
         go_wp2
         repeat (go_quiet (fail);try go_wp2)
         go_ret;exact⟨by rfl,by repeat ((with_reducible first|exact HB.out|apply aZ))⟩
        .rw[if_neg c12]at H;have Et:decide (aT<=(wrap64 ((bE bL ig).f0)))=false:=decide_eq_false c12;clear c12;by_cases c14:(wrap64 ((bE bL ig).f1))>=aT
         .rw[if_pos c14]at H;have rJ:decide (aT<=(wrap64 ((bE bL ig).f1)))=true:=decide_eq_true c14;clear c14;obtain rfl:=aq H;have TM:wr.cell? ⟨iX,0,none⟩=some (.int .i64 aT):=(ay fu.out 0).trans rfl;have TN:wr.cell? ⟨iX,1,none⟩=some (.slice jX bL.length iZ):=(ay fu.out 1).trans rfl;have TP:=aj fu.out 0;have TQ:=aj fu.out 1;have yD:0<=(ig:Int):=of_decide_eq_true (by(with_reducible assumption));have yE:ig<(bL.length:Int):=of_decide_eq_true (by(with_reducible assumption));obtain⟨JN,e216,jY,jZ,j4⟩:=lJ ug.out ig yD yE;cases e216;replace jY:=(HB.out.cell (aa w _ jY)).trans jY;replace jZ:=(HB.out.cell (aa w _ jZ)).trans jZ;replace j4:=(HB.out.cell (aa w _ j4)).trans j4;replace yD:=eq_true yD;replace yE:=eq_true yE;have Hg:0<=(ig:Int):=of_decide_eq_true (by(with_reducible assumption));have Hl:ig<(bL.length:Int):=of_decide_eq_true (by(with_reducible assumption));obtain⟨PU,e217,oM,oN,oO⟩:=lJ ug.out ig Hg Hl;obtain rfl:JN=PU:=(by injection e217)
          replace oM:=(HB.out.cell (aa w _ oM)).trans oM;replace oN:=(HB.out.cell (aa w _ oN)).trans oN;replace oO:=(HB.out.cell (aa w _ oO)).trans oO;replace Hg:=eq_true Hg;replace Hl:=eq_true Hl
          go_wp2
          repeat (go_quiet (fail);try go_wp2)
          go_ret;exact⟨by rfl,by repeat ((with_reducible first|exact HB.out|apply aZ))⟩
         .rw[if_neg c14]at H;have rJ:decide (aT<=(wrap64 ((bE bL ig).f1)))=false:=decide_eq_false c14;clear c14;have H':=Y1 H;clear H;have JE:wr.cell? ⟨iX,0,none⟩=some (.int .i64 aT):=(ay fu.out 0).trans rfl;have JF:wr.cell? ⟨iX,1,none⟩=some (.slice jX bL.length iZ):=(ay fu.out 1).trans rfl;have JG:=aj fu.out 0;have JH:=aj fu.out 1;have yD:0<=(ig:Int):=of_decide_eq_true (by(with_reducible assumption));have yE:ig<(bL.length:Int):=of_decide_eq_true (by(with_reducible assumption));obtain⟨JN,e216,jY,jZ,j4⟩:=lJ ug.out ig yD yE;cases e216;replace jY:=(HB.out.cell (aa w _ jY)).trans jY;replace jZ:=(HB.out.cell (aa w _ jZ)).trans jZ;replace j4:=(HB.out.cell (aa w _ j4)).trans j4;replace yD:=eq_true yD;replace yE:=eq_true yE;have Hg:0<=(ig:Int):=of_decide_eq_true (by(with_reducible assumption));have Hl:ig<(bL.length:Int):=of_decide_eq_true (by(with_reducible assumption));obtain⟨PU,e217,oM,oN,oO⟩:=lJ ug.out ig Hg Hl;obtain rfl:JN=PU:=(by injection e217)
          replace oM:=(HB.out.cell (aa w _ oM)).trans oM;replace oN:=(HB.out.cell (aa w _ oN)).trans oN;replace oO:=(HB.out.cell (aa w _ oO)).trans oO;replace Hg:=eq_true Hg;replace Hl:=eq_true Hl
          go_wp2
          repeat (go_quiet (fail);try go_wp2)
          go_roundg k2
          case measure=>have:=HJ1.out;have:=El.out;omega
          case rel=>exact⟨(wrap64 (ig+1)),(by rfl),H',⟨by have:=HJ1.out;have:=El.out;omega⟩,⟨by(with_reducible repeat (refine qG ?_ _));exact fu.out⟩,⟨by repeat ((with_reducible first|exact HB.out|apply aZ))⟩⟩
       .rw[if_neg c11]at H;exact absurd H (by simp)
      .rw[if_neg c10]at H;have En:decide (ig<(bL.length:Int))=false:=decide_eq_false c10;clear c10;obtain rfl:=aq H;have TR:wr.cell? ⟨iX,0,none⟩=some (.int .i64 aT):=(ay fu.out 0).trans rfl;have TS:wr.cell? ⟨iX,1,none⟩=some (.slice jX bL.length iZ):=(ay fu.out 1).trans rfl;have TT:=aj fu.out 0;have TU:=aj fu.out 1
       go_wp2
       repeat (go_quiet (fail);try go_wp2)
       go_ret;exact⟨by rfl,by repeat ((with_reducible exact HB.out))⟩
def bI.l0:Nat->Int->Int->List Int->Int->Option (List Int)
 |0,_,_,_,_=>none
 |k+1,x1,x2,x7,x8=>if x8<x1 then(if x8<8 then(if 0<=(IntKind.u64.wrap (wrap64 (8*x8)))then(if x7.length<140737488355328 then(bI.l0 k x1 x2 (x7++[(shr .u64 x2 (IntKind.u64.wrap (wrap64 (8*x8))))%256]) (wrap64 (x8+1)))else(none))else(none))else(some x7))else(some x7)
def bI.f(k:Nat)(l0:List Int)(a1:Int)(a2:Int):Option (List Int):=(some (([]:List Int):List Int)).bind fun Lf=>(if Lf.length+l0.length<140737488355328 then(bI.l0 k a1 a2 (Lf++l0) 0)else(none))
theorem bI.calls(k:Nat)(A0:Option de)(c0:Nat)(l0:List Int)(a1:Int)(a2:Int)(r:List Int)(w:cA)(hr0:Kd.C (Kd.int .u8) w A0 l0.length l0)(hc0:l0.length<=c0)(h:bI.f k l0 a1 a2=some r):
 ax ae 19 #[.slice A0 l0.length c0,.int .i64 a1,.int .u64 a2] w fun e w'=>∃vT:cW,e=.returned (vT)∧Kd.R (Kd.int .u8) 5 w' w.heap.size (fun _=>True) vT r∧bk w.heap.size w w':=by
 have nS:=Y1 hr0;have xZ:=Y1 hc0;clear hr0 hc0;have HB:=Y1 (az w.heap.size w);have H:=h;clear h;unfold bI.f at H;obtain⟨Lf,PV⟩:∃y_:List Int,y_=(([]:List Int)):=⟨_,rfl⟩
 rw[Option.bind_some,<-PV]at H;have ab0:=Y1 PV;clear PV;by_cases c4:Lf.length+l0.length<140737488355328
 .rw[if_pos c4]at H;have afe:=Y1 c4;clear c4;obtain⟨aff,PW⟩:∃y_:List Int,y_=(Lf++l0):=⟨_,rfl⟩
  rw[<-PW]at H;have ab1:=Y1 PW;clear PW;have H':=Y1 H;clear H;go_enter func19,ntmps19
  go_wp2_with (first|((with_reducible refine bP (N:=9) rfl ?_);refine Kd.xK (Kd.int .u8) _ 5 ?hg (N:=9) ?hd (xs:=([]:List Int)) (inner:=[]) (ok:=fun _=>True) (lX:=fun _=>True) ?hr ?hp (fun _ hk=>hk) trivial (az _ _) (ab _) (by simp) ?_;(case hd=>rfl);(case hg=>rfl);(case hr=>(go_simp;done));(case hp=>exact(gZ.none _ _));intro afg w5 vO hb Gw mq;clear Gw mq;(rw[<-ab0.out]at vO);have dB:=Y1 (Kd.jG vO (aC (by repeat ((with_reducible exact HB.out)))));have dN:=Y1 (aU (by repeat ((with_reducible exact HB.out))) hb);clear HB;have WV:=dB;have HB:=dN;clear dB dN;clear hb vO)|((with_reducible refine fF (b:=.append) (xs:= #[.tmp 9,.tmp 10]) rfl ?_);at_builtin;refine Kd.iR (Kd.int .u8) (w0:=w) w.heap.size rfl (.tmp 9) (.tmp 10) 40 5 (.int .u8 0) 1 rfl dq info5 rfl (by decide) (by omega) afg Lf l0 _ _ _ (fun _=>True) (fun _=>False) rfl rfl ?aO ?aR (fun _ _ h=>h) (fun _ h=>h.elim) ?aF ?aB ?aS ?aL ?_;(case aR=>repeat (exact(Kd.bM nS.out HB.out)));(case aB=>exact(by repeat ((with_reducible exact HB.out))));(case aF=>exact(fun _ _=>trivial));(case aO=>exact(by exact WV.out));(case aS=>exact(aC (by repeat ((with_reducible exact HB.out)))));(case aL=>have:=afe.out;omega);intro v222 w7 ho hb hg hat;rw[<-ab1.out]at ho;have dB:=Y1 (hb);have dN:=Y1 (ho);clear HB;clear WV;have HB:=dB;have ab2:=dN;clear dB dN;clear ho hb hg hat))
  go_loopg [7,8] k (fun kq v7 v8 w'=>∃(jg:List Int) (fG:Int),v8=.int .i64 fG∧aG (bI.l0 kq a1 a2 jg fG=some r)∧aG (kq<=k)∧aG (Kd.R (Kd.int .u8) 5 w' w.heap.size (fun _=>True) v7 jg)∧aG (bk w.heap.size w w'))
  case atStart=>exact⟨(aff),(0),(by rfl),H',⟨ab _⟩,⟨by exact ab2.out⟩,⟨by repeat ((with_reducible exact HB.out))⟩⟩
  case round=>
   clear H';obtain⟨jg,fG,rfl,HA,tX,jF,HB⟩:=hrel;cases gk with
   |zero=>exact absurd HA.out (by simp[bI.l0])
   |succ k1=>
    have H:=HA.out;clear HA;simp only[bI.l0]at H;by_cases c8:fG<a1
    .rw[if_pos c8]at H;have wI:decide (fG<a1)=true:=decide_eq_true c8;clear c8;by_cases c9:fG<8
     .rw[if_pos c9]at H;have PO:decide (fG<8)=true:=decide_eq_true c9;clear c9;obtain⟨Lg,ab3⟩:∃j_:Int,(IntKind.u64.wrap (wrap64 (8*fG)))=j_:=⟨_,rfl⟩
      rw[ab3]at H;by_cases c11:0<=(Lg)
      .rw[if_pos c11]at H;have Ay:=eq_true c11;have abf:decide (0<=(Lg))=true:=decide_eq_true c11;clear c11;obtain⟨uh,yF⟩:∃j_:Int,(shr .u64 a2 (Lg))=j_:=⟨_,rfl⟩
       rw[yF]at H;have afh:(a2/2^min (Lg).toNat 64)=uh:=yF;have afi:(Lg)<=64->(a2/2^(Lg).toNat)=uh:=Ae yF;by_cases c13:jg.length<140737488355328
       .rw[if_pos c13]at H;have ab4:=Y1 c13;clear c13;obtain⟨afj,PX⟩:∃y_:List Int,y_=(jg++[(uh)%256]):=⟨_,rfl⟩
        rw[<-PX]at H;have ab5:=Y1 PX;clear PX;have H':=Y1 H;clear H
        go_wp2_with (first|((with_reducible refine fF (b:=.append) (xs:= #[.tmp 21,.tmp 28]) rfl ?_);at_builtin;refine Kd.tq (Kd.int .u8) (w0:=w) w.heap.size rfl (.tmp 21) (.tmp 28) 40 5 (.int .u8 0) 1 rfl dq info5 rfl (by decide) (by omega) u7 jg ((uh)%256) [.int .u8 ((uh)%256)] (fun _=>True) (fun _=>False) rfl rfl ?aP (fun _ hk=>hk.elim) ?aF ?aO ?aB ?aS ?aL ?_;(case aP=>exact rfl);(case aB=>exact(by repeat ((with_reducible exact HB.out))));(case aF=>exact(fun _ _=>trivial));(case aO=>exact(by exact jF.out));(case aS=>exact(aC (by repeat ((with_reducible exact HB.out)))));(case aL=>have:=ab4.out;omega);intro ahE w14 ho hb hg hat;rw[<-ab5.out]at ho;have dB:=Y1 (hb);have dN:=Y1 (ho);clear HB;clear jF;have HB:=dB;have ab6:=dN;clear dB dN;clear ho hb hg hat))
        go_roundg k1
        case measure=>have:=tX.out;omega
        case rel=>exact⟨(afj),(wrap64 (fG+1)),(by rfl),H',⟨by have:=tX.out;omega⟩,⟨by exact ab6.out⟩,⟨by repeat ((with_reducible exact HB.out))⟩⟩
       .rw[if_neg c13]at H;exact absurd H (by simp)
      .rw[if_neg c11]at H;exact absurd H (by simp)
     .rw[if_neg c9]at H;have PO:decide (fG<8)=false:=decide_eq_false c9;clear c9;obtain rfl:=aq H
      go_wp2
      go_ret;exact⟨_,by rfl,by exact jF.out,by repeat ((with_reducible exact HB.out))⟩
    .rw[if_neg c8]at H;have wI:decide (fG<a1)=false:=decide_eq_false c8;clear c8;obtain rfl:=aq H
     go_wp2
     go_ret;exact⟨_,by rfl,by exact jF.out,by repeat ((with_reducible exact HB.out))⟩
 .rw[if_neg c4]at H;exact absurd H (by simp)
end
end Go.Proofs.YtlhhcnknclnlaaaGreatDoor.iH
