/- Parts of the proof. -/
import Derived.Maps.RangeWalk
import Derived.Laws.Externs
import Derived.Test.YtlhhcnknclnlaaaGreatDoorS00
import Derived.Test.YtlhhcnknclnlaaaGreatDoorS02
import Derived.Test.YtlhhcnknclnlaaaGreatDoorS03
set_option linter.all false
set_option maxRecDepth 100000
set_option maxHeartbeats 16000000
open Go.IntKind renaming u64->aa,i64->eJ
open Go.Proofs.Tryz renaming prog->ab,underlying314->a_,underlying36->bb,underlying46->bk,ntmps11->cm,func11->cx,func175->cG,underlying283->cI,underlying24->cM,underlying27->cN,ntmps204->cW,func204->cY,ntmps193->dr,func193->du,func223->ew,func191->ey,func261->ez
open Option.some renaming injEq->ae,inj->af
open Option renaming bind_eq_some_iff->ag,bind_some->az,map_eq_some_iff->c_,map_eq_none_iff->da
open List renaming length_append->ai,find?_cons_of_neg->an,map_cons->ao,map_toArray->aq,mem_map->ax,map_nil->ba,length_take->bj,append_assoc->bt,replicate->ca,pairwise_map->cz,take_succ_eq_append_getElem->cC,getD_eq_getElem?_getD->cJ,getElem?_eq_getElem->cX,find?_cons_of_pos->dd,take_of_length_le->de,map_append->df,mem_append->dg,length_replicate->di,nodup_nil->dp,flatMap_append->dq,nodup_append->dC,flatMap_cons->dE,any_eq_true->dT
open Prod.mk renaming injEq->al
open Go.RowKit.Below renaming refl->ar
open Int renaming toNat_natCast->aw,ediv_nonneg->ef,mul_le_mul->ek
open Go renaming World->aE,bits->cD,Calls->cF,Value->eo,TypeId->eI,Addr->eK
open Nat renaming le_refl->bz,add_zero->cy,mul_one->cE,ne_of_lt->dv,ne_of_gt->dy,min_eq_left->eh
open Array renaming getElem?_eq_some_iff->cd
open Go.World renaming block_lt_of_cell?->cq
open Go.ChangeMaps renaming setBlock->cA
open Go.RowKit renaming Below->cH
open Go.Maps renaming keyOf_int_mk->cU,KeysOf->dj,keyOf_int_inv->dt,Keyed->et
open Go.Proofs.Tryz
namespace Go.Proofs.YtlhhcnknclnlaaaGreatDoor.iH
open Go.RowKit Go.Proofs.ah.aN Go.Proofs.ah.bA Go.Proofs.ah.dx
section
attribute [local go_sem] gM gN kY lg
theorem gX.PY(a0 a1 y:Int)(h0:0<=a0)(h1:a0<=1048576)(h2:1<=a1)(h3:a1<=4096)(hy:0<=y)(hy2:y<=a1):
 ji.f a0 a1 y=some (y*a0/a1):=by
 have hm:0<=y*a0:=Int.mul_nonneg hy h0;have hM:y*a0<=4096*1048576:=ek (by omega) h1 h0 (by omega);have hd:0<=y*a0/a1:=ef hm (by omega);have hD:y*a0/a1<=y*a0:=Int.ediv_le_self _ hm;unfold ji.f;rw[if_neg (by omega)];have e1:wrap64 (y*a0)=y*a0:=by unfold wrap64;omega
 rw[e1,Int.tdiv_eq_ediv_of_nonneg hm];have e2:wrap64 (y*a0/a1)=y*a0/a1:=by unfold wrap64;omega
 rw[e2]
theorem gX.clo(a0 a1 a2 x:Int)(b:Nat)(w:aE)(h0:0<=a0)(h1:a0<=1048576)(h2:1<=a1)(h3:a1<=4096)(hy:0<=x)(hy2:x<a1)(c0:w.cell? ⟨b,0,none⟩=some (.int .i64 a0))(c1:w.cell? ⟨b+1,0,none⟩=some (.int .i64 a1))(c2:w.cell? ⟨b+2,0,none⟩=some (.int .i64 a2)):
 cF ab 232 #[.int .i64 x,.pointer (some ⟨b,0,none⟩),.pointer (some ⟨b+1,0,none⟩),.pointer (some ⟨b+2,0,none⟩)] w fun e w'=>e=.returned (.bool (decide (a2<(x+1)*a0/a1)))∧bG w w':=by
 have hb:=gX.PY a0 a1 (x+1) h0 h1 h2 h3 (by omega) (by omega);generalize (x+1)*a0/a1=r at hb⊢;have HB:=Y1 hb;clear hb;have hw:eJ.wrap (x+1)=x+1:=IntWalk.i64_in _ (by omega);go_enter func232,ntmps232
 go_wp2
 go_quiet ((go_at_call 137;refine(ji.calls a0 a1 (x+1) r _ HB.out).mono ?_;rintro e w' ⟨rfl,⟨n,rfl⟩⟩;exact⟨rfl,_,World.drewN_drewN ..⟩))
 go_wp2
 go_ret;exact⟨by simp,⟨_,rfl⟩⟩
theorem gX.search(a0 a1 a2 r:Int)(b:Nat)(w:aE)(h0:0<=a0)(h1:a0<=1048576)(h2:1<=a1)(h3:a1<=4096)(r0:0<=r)(r1:r<=a1)(lo:aG (∀x,0<=x->x<r->decide (a2<(x+1)*a0/a1)=false))(hi:aG (∀x,r<=x->x<a1->decide (a2<(x+1)*a0/a1)=true))(cs:aG (∀n,(w.drewN n).cell? ⟨b,0,none⟩=some (.int .i64 a0)∧(w.drewN n).cell? ⟨b+1,0,none⟩=some (.int .i64 a1)∧(w.drewN n).cell? ⟨b+2,0,none⟩=some (.int .i64 a2))):
 cF ab 231 #[.int .i64 a1,.func (.func 232) #[] #[.pointer (some ⟨b,0,none⟩),.pointer (some ⟨b+1,0,none⟩),.pointer (some ⟨b+2,0,none⟩)]] w fun e w'=>e=.returned (.int .i64 r)∧bG w w':=by
 go_enter func231,ntmps231
 go_wp2
 go_loopw [5,6] (fun i j wr=>∃x y:Int,∃n:Nat,i=.int .i64 x∧j=.int .i64 y∧0<=x∧x<=r∧r<=y∧y<=a1∧wr=w.drewN n) (fun i j _=>(intOf j-intOf i).toNat)
 case atStart=>exact⟨0,a1,0,rfl,rfl,by omega,r0,r1,by omega,rfl⟩
 case round=>
  obtain⟨x,y,n,rfl,rfl,hx,R_,hry,hy,rfl⟩:=hrel;by_cases hlt:x<y
  .have hc:=gX.clo a0 a1 a2 ((x+y)/2) b (w.drewN n) h0 h1 h2 h3 (by omega) (by omega) (cs.out n).1 (cs.out n).2.1 (cs.out n).2.2;by_cases hm:(x+y)/2<r
   .rw[lo.out _ (by omega) hm]at hc;have HC:=Y1 hc;clear hc
    go_wp2_with (go_at_call 232;refine HC.out.mono ?_;rintro e w' ⟨rfl,⟨m,rfl⟩⟩)
    go_roundw
    case rel=>exact⟨(x+y)/2+1,y,n+m,rfl,rfl,by omega,by omega,hry,hy,rfl⟩
    case measure=>simp[intOf];omega
   .rw[hi.out _ (by omega) (by omega)]at hc;have HC:=Y1 hc;clear hc
    go_wp2_with (go_at_call 232;refine HC.out.mono ?_;rintro e w' ⟨rfl,⟨m,rfl⟩⟩)
    go_roundw
    case rel=>exact⟨x,(x+y)/2,n+m,rfl,rfl,hx,R_,by omega,by omega,rfl⟩
    case measure=>simp[intOf];omega
  .obtain rfl:x=r:=by omega
   go_wp2
   go_ret;exact⟨rfl,⟨_,rfl⟩⟩
def gX.f(a0 a1 a2:Int):Option (Int×Int):=
 if 0<=a0∧a0<=1048576∧1<=a1∧a1<=4096∧0<=a2∧a2<a0 then some (((a2+1)*a1-1)/a0,0)else some (0,1)
theorem gX.JO(n s v i:Int)(hn:0<n)(hs:0<s):i<=((v+1)*s-1)/n↔i*n/s<=v:=by
 rw[Int.le_ediv_iff_mul_le hn,<-Int.lt_add_one_iff (b:=v),Int.ediv_lt_iff_lt_mul hs];omega
theorem gX.oq(a0 a1:Int):fV.f a0 a1=some (decide (0<=a0∧a0<=1048576∧1<=a1∧a1<=4096)):=by
 unfold fV.f;by_cases h1:a0>=0<;>by_cases h2:a0<=1048576<;>by_cases h3:a1>=1<;>simp[h1,h2,h3]<;>omega
theorem gX.calls(a0 a1 a2:Int)(r1 r2:Int)(w:aE)(h:gX.f a0 a1 a2=some (r1,r2)):
 cF ab 204 #[.int .i64 a0,.int .i64 a1,.int .i64 a2] w fun e w'=>e=.returned (.tuple #[.int .i64 r1,.int .i64 r2])∧cH w.heap.size w w':=by
 unfold gX.f at h;have hr:=gX.oq a0 a1;by_cases hR:0<=a0∧a0<=1048576∧1<=a1∧a1<=4096
 .rw[decide_eq_true hR]at hr;have HR:=Y1 hr;clear hr;by_cases hv:0<=a2∧a2<a0
  .rw[if_pos ⟨hR.1,hR.2.1,hR.2.2.1,hR.2.2.2,hv⟩]at h;simp only[ae,al]at h;obtain⟨hr1,rfl⟩:=h;obtain⟨q0,q1,q2,q3⟩:=hR;obtain⟨q4,q5⟩:=hv;have hlo:r1<a1:=by
    rw[<-hr1];apply Int.ediv_lt_of_lt_mul (by omega);have:(a2+1)*a1<=a0*a1:=Int.mul_le_mul_of_nonneg_right (by omega) (by omega);rw[Int.mul_comm a1 a0];omega
   have hge:0<=r1:=by
    rw[<-hr1];apply ef _ (by omega);have:1*1<=(a2+1)*a1:=ek (by omega) q2 (by omega) (by omega);omega
   have hs:=fun b w cs=>gX.search a0 a1 a2 r1 b w q0 q1 q2 q3 hge (by omega)
    ⟨fun x hx R_=>decide_eq_false (by
     have:=(gX.JO a0 a1 a2 (x+1) (by omega) (by omega)).1 (by omega);omega)⟩
    ⟨fun x hx R_=>decide_eq_true (by
     have:=mt (gX.JO a0 a1 a2 (x+1) (by omega) (by omega)).2 (by omega);omega)⟩ cs
   clear hr1;have HS:=Y1 hs;clear hs;have d0:decide (a2<0)=false:=by simp;omega
   have d1:decide (a0<=a2)=false:=by simp;omega
   go_enter cY,cW
   go_wp2_with (first|(go_at_call 136;refine(fV.calls a0 a1 true _ HR.out).mono ?_;rintro e w' ⟨rfl,⟨m,rfl⟩⟩)|(go_at_call 231;refine(HS.out w.heap.size _ ⟨fun n=>⟨by simp[go_sem],by simp[go_sem],by simp[go_sem]⟩⟩).mono ?_;rintro e w' ⟨rfl,⟨m,rfl⟩⟩))
   go_ret2
   exact⟨rfl,by repeat (first|exact ar _ _|apply dY|apply aZ)⟩
  .rw[if_neg (by omega)]at h;simp only[ae,al]at h;obtain⟨rfl,rfl⟩:=h;clear hR;by_cases hv0:a2<0
   .clear hv;go_enter cY,cW
    go_wp2_with (go_at_call 136;refine(fV.calls a0 a1 true _ HR.out).mono ?_;rintro e w' ⟨rfl,⟨m,rfl⟩⟩)
    go_ret2
    exact⟨rfl,by repeat (first|exact ar _ _|apply dY|apply aZ)⟩
   .have hv1:a0<=a2:=by omega
    clear hv;go_enter cY,cW
    go_wp2_with (go_at_call 136;refine(fV.calls a0 a1 true _ HR.out).mono ?_;rintro e w' ⟨rfl,⟨m,rfl⟩⟩)
    go_ret2
    exact⟨rfl,by repeat (first|exact ar _ _|apply dY|apply aZ)⟩
 .rw[decide_eq_false hR]at hr;have HR:=Y1 hr;clear hr;rw[if_neg (by omega)]at h;simp only[ae,al]at h;obtain⟨rfl,rfl⟩:=h;clear hR;go_enter cY,cW
  go_wp2_with (go_at_call 136;refine(fV.calls a0 a1 false _ HR.out).mono ?_;rintro e w' ⟨rfl,⟨m,rfl⟩⟩)
  go_ret2
  exact⟨rfl,by repeat (first|exact ar _ _|apply dY|apply aZ)⟩
def dI.j0:Nat->Int->Int->Bool->Int->Int->Option (Int×Bool)
 |0,_,_,_,_,_=>none
 |k+1,x1,x2,x3,JQ,aep=>if JQ=4 then(some (aa.wrap (157284+(aa.wrap ((aa.wrap (Int.tdiv x2 20))*17))),((aa.wrap (157284+(aa.wrap ((aa.wrap (Int.tdiv x2 20))*17)))) !=x1)))else(if JQ=5 then(some (x2,false))else(if x3=true then(if x2<x1 then(some (x2,true))else(some (x1,false)))else(some (x1,false))))
def dI.f(k:Nat)(aT:Int)(bY:Int)(a1:Int)(a2:Int)(a3:Bool):Option (Int×Bool):=if a3=true then(dI.j0 k a1 a2 a3 aT bY)else(dI.j0 k a1 0 a3 aT bY)
theorem dI.calls(k:Nat)(aT:Int)(bY:Int)(a1:Int)(a2:Int)(a3:Bool)(r1:Int)(r2:Bool)(w:aE)(h:dI.f k aT bY a1 a2 a3=some (r1,r2)):
 cF ab 197 #[.agg #[.int .i64 aT,.int .u32 bY],.int .u64 a1,.int .u64 a2,.bool a3] w fun e w'=>e=.returned (.tuple #[.int .u64 r1,.bool r2])∧cH w.heap.size w w':=by
 have Tq:=cM;have HB:=Y1 (ar w.heap.size w);have H:=h;clear h;unfold dI.f at H;have Nk:=Y1 H;clear H;go_enter func197,ntmps197
 go_upto_if 12 with(first|((with_reducible refine bP (N:=4) rfl ?_);refine bU ?hg (N:=4) ?hd (cs:= #[.int .i64 aT,.int .u32 bY]) (t:=24) ?hr ?_;(case hd=>rfl);(case hg=>rfl);(case hr=>(go_simp;done));intro ow hg w6 dz hb;have dB:=Y1 (aU (by repeat ((with_reducible exact HB.out))) hb);have dN:=Y1 (dz);have fD:=Y1 ((by rw[hg];exact(aC (by repeat ((with_reducible exact HB.out)))):w.heap.size<=ow));have iC:=Y1 ((by rw[hg];exact(aC (by repeat ((with_reducible exact HB.out)))):w.heap.size<=ow));clear HB;have HB:=dB;have jo:=dN;have agT:=fD;have agU:=iC;clear dB dN fD iC;clear hb dz hg))
 go_cut [2] (fun v2 wc=>∃(kq:Nat) (Lh:Int),v2=.int .u64 Lh∧aG (dI.j0 kq a1 Lh a3 aT bY=some (r1,r2))∧aG (kq<=k)∧aG (wc.heap[ow]? =some (.cells #[.int .i64 aT,.int .u32 bY] 24 (0,0)))∧aG (cH w.heap.size w wc))
 case first=>
  have H:=Nk.out;clear Nk;by_cases c7:a3=true
  .subst c7;rw[if_pos rfl]at H;have H':=Y1 H;clear H
   go_wp2
   go_meet
   case rel=>exact⟨_,(a2),(by rfl),H',⟨by omega⟩,⟨by exact jo.out⟩,⟨by repeat ((with_reducible exact HB.out))⟩⟩
  .replace c7:=Bool.eq_false_iff.mpr c7;subst c7;rw[if_neg (show ¬(false=true) by decide)]at H;have H':=Y1 H;clear H
   go_wp2
   go_meet
   case rel=>exact⟨_,(0),(by rfl),H',⟨by omega⟩,⟨by exact jo.out⟩,⟨by repeat ((with_reducible exact HB.out))⟩⟩
 case rest=>
  clear Nk;obtain⟨kq,Lh,rfl,HA,HJ4,jo,HB⟩:=hcut;cases kq with
  |zero=>exact absurd HA.out (by simp[dI.j0])
  |succ kj4=>
   have H:=HA.out;clear HA;simp only[dI.j0]at H;by_cases c8:aT=4
   .rw[if_pos c8]at H;have wI:(aT==4)=true:=beq_iff_eq.mpr c8;have Pt:(aT !=4)=false:=bne_eq_false_iff_eq.mpr c8;clear c8;simp only[ae,al]at H;obtain⟨rfl,rfl⟩:=H;have GX:wc.cell? ⟨ow,0,none⟩=some (.int .i64 aT):=(ay jo.out 0).trans rfl;have GY:wc.cell? ⟨ow,1,none⟩=some (.int .u32 bY):=(ay jo.out 1).trans rfl;have GZ:=aj jo.out 0;have G5:=aj jo.out 1
    go_wp2
    go_ret2
    exact⟨by rfl,by repeat ((with_reducible exact HB.out))⟩
   .rw[if_neg c8]at H;have wI:(aT==4)=false:=beq_eq_false_iff_ne.mpr c8;have Pt:(aT !=4)=true:=bne_iff_ne.mpr c8;by_cases c10:aT=5
    .rw[if_pos c10]at H;have En:(aT==5)=true:=beq_iff_eq.mpr c10;have O4:(aT !=5)=false:=bne_eq_false_iff_eq.mpr c10;clear c10;simp only[ae,al]at H;obtain⟨rfl,rfl⟩:=H;have Cx:wc.cell? ⟨ow,0,none⟩=some (.int .i64 aT):=(ay jo.out 0).trans rfl;have Cy:wc.cell? ⟨ow,1,none⟩=some (.int .u32 bY):=(ay jo.out 1).trans rfl;have Cz:=aj jo.out 0;have CB:=aj jo.out 1
     go_wp2
     go_ret2
     exact⟨by rfl,by repeat ((with_reducible exact HB.out))⟩
    .rw[if_neg c10]at H;have En:(aT==5)=false:=beq_eq_false_iff_ne.mpr c10;have O4:(aT !=5)=true:=bne_iff_ne.mpr c10;by_cases c12:a3=true
     .subst c12;rw[if_pos rfl]at H;by_cases c13:Lh<a1
      .rw[if_pos c13]at H;have Az:decide (Lh<a1)=true:=decide_eq_true c13;clear c13;simp only[ae,al]at H;obtain⟨rfl,rfl⟩:=H;have TV:wc.cell? ⟨ow,0,none⟩=some (.int .i64 aT):=(ay jo.out 0).trans rfl;have TW:wc.cell? ⟨ow,1,none⟩=some (.int .u32 bY):=(ay jo.out 1).trans rfl;have TY:=aj jo.out 0;have T9:=aj jo.out 1
       go_wp2
       go_ret2
       exact⟨by rfl,by repeat ((with_reducible exact HB.out))⟩
      .rw[if_neg c13]at H;have Az:decide (Lh<a1)=false:=decide_eq_false c13;clear c13;simp only[ae,al]at H;obtain⟨rfl,rfl⟩:=H;have TM:wc.cell? ⟨ow,0,none⟩=some (.int .i64 aT):=(ay jo.out 0).trans rfl;have TN:wc.cell? ⟨ow,1,none⟩=some (.int .u32 bY):=(ay jo.out 1).trans rfl;have TP:=aj jo.out 0;have TQ:=aj jo.out 1
       go_wp2
       go_ret2
       exact⟨by rfl,by repeat ((with_reducible exact HB.out))⟩
     .replace c12:=Bool.eq_false_iff.mpr c12;subst c12;rw[if_neg (show ¬(false=true) by decide)]at H;simp only[ae,al]at H;obtain⟨rfl,rfl⟩:=H;have JE:wc.cell? ⟨ow,0,none⟩=some (.int .i64 aT):=(ay jo.out 0).trans rfl;have JF:wc.cell? ⟨ow,1,none⟩=some (.int .u32 bY):=(ay jo.out 1).trans rfl;have JG:=aj jo.out 0;have JH:=aj jo.out 1
      go_wp2
      go_ret2
      exact⟨by rfl,by repeat ((with_reducible exact HB.out))⟩
def bq.l0:Nat->List Bool->Bool->Int->Int->Option (Int)
 |0,_,_,_,_=>none
 |k+1,x0,x1,x7,x8=>if x8<x7 then(if 0<=x8 then(if x8<(x0.length:Int)then(if(x1==(rE false x0 x8))=true then(some x8)else(bq.l0 k x0 x1 x7 (wrap64 (x8+1))))else(none))else(none))else(some (-1))
def bq.f(k:Nat)(l0:List Bool)(a1:Bool):Option (Int):=bq.l0 k l0 a1 (l0.length:Int) 0
theorem bq.calls(k:Nat)(A0:Option eK)(c0:Nat)(l0:List Bool)(a1:Bool)(r:Int)(w:aE)(hr0:Kd.C Kd.bool w A0 l0.length l0)(hc0:l0.length<=c0)(h:bq.f k l0 a1=some r):
 cF ab 223 #[.slice A0 l0.length c0,.bool a1] w fun e w'=>e=.returned (.int .i64 r)∧bG w w':=by
 have nS:=Y1 hr0;have xZ:=Y1 hc0;clear hr0 hc0;have H:=h;clear h;unfold bq.f at H;have H':=Y1 H;clear H;go_enter ew,ntmps223
 go_wp2
 go_loopg [8] k (fun kq v8 w'=>∃(fG:Int),v8=.int .i64 fG∧aG (bq.l0 kq l0 a1 (l0.length:Int) fG=some r)∧aG (kq<=k)∧bG w w')
 case atStart=>exact⟨(0),(by rfl),H',⟨bz _⟩,by repeat (exact bG.refl _)⟩
 case round=>
  clear H';obtain⟨fG,rfl,HA,tX,⟨m1,rfl⟩⟩:=hrel;cases gk with
  |zero=>exact absurd HA.out (by simp[bq.l0])
  |succ k1=>
   have H:=HA.out;clear HA;simp only[bq.l0]at H;by_cases c3:fG<(l0.length:Int)
   .rw[if_pos c3]at H;have zI:decide (fG<(l0.length:Int))=true:=decide_eq_true c3;clear c3;by_cases c4:0<=fG
    .rw[if_pos c4]at H;have wH:decide (0<=fG)=true:=decide_eq_true c4;clear c4;by_cases c5:fG<(l0.length:Int)
     .rw[if_pos c5]at H;have zJ:decide (fG<(l0.length:Int))=true:=decide_eq_true c5;clear c5;by_cases c6:(a1==(rE false l0 fG))=true
      .rw[if_pos c6]at H;have pJ:(a1==(rE false l0 fG))=true:=c6
       (try (have Pj:decide (a1=(rE false l0 fG))=true:=by simpa using c6))
       (try (have afk:(a1==(rE false l0 fG))=true:=by simpa using c6))
       clear c6;obtain rfl:=af H;have Ho:0<=(fG:Int):=of_decide_eq_true (by(with_reducible assumption));have Hq:fG<(l0.length:Int):=of_decide_eq_true (by(with_reducible assumption));obtain⟨ab7,e189,T_⟩:=Kd.Jc nS.out fG Ho Hq;cases e189;replace Ho:=eq_true Ho;replace Hq:=eq_true Hq
       go_wp2
       go_ret;exact⟨by rfl,by repeat (first|exact bG.refl _|apply bG.step)⟩
      .rw[if_neg c6]at H;have pJ:(a1==(rE false l0 fG))=false:=by simpa using c6
       (try (have Pj:decide (a1=(rE false l0 fG))=false:=by simpa using c6))
       (try (have afk:(a1==(rE false l0 fG))=false:=by simpa using c6))
       (try (have ahF:¬(a1=(rE false l0 fG)):=by simpa using c6))
       clear c6;have H':=Y1 H;clear H;have Ho:0<=(fG:Int):=of_decide_eq_true (by(with_reducible assumption));have Hq:fG<(l0.length:Int):=of_decide_eq_true (by(with_reducible assumption));obtain⟨ab7,e189,T_⟩:=Kd.Jc nS.out fG Ho Hq;cases e189;replace Ho:=eq_true Ho;replace Hq:=eq_true Hq
       go_wp2
       go_roundg k1
       case measure=>have:=tX.out;omega
       case rel=>exact⟨(wrap64 (fG+1)),(by rfl),H',⟨by have:=tX.out;omega⟩,by repeat (first|exact bG.refl _|apply bG.step)⟩
     .rw[if_neg c5]at H;exact absurd H (by simp)
    .rw[if_neg c4]at H;exact absurd H (by simp)
   .rw[if_neg c3]at H;have zI:decide (fG<(l0.length:Int))=false:=decide_eq_false c3;clear c3;obtain rfl:=af H
    go_wp2
    go_ret;exact⟨by rfl,by repeat (first|exact bG.refl _|apply bG.step)⟩
def dF.f(k:Nat)(l0:List Bool)(a1:Bool):Option (Bool):=(bq.f k l0 a1).bind fun t190=>(some (decide (t190>=0)))
theorem dF.calls(k:Nat)(A0:Option eK)(c0:Nat)(l0:List Bool)(a1:Bool)(r:Bool)(w:aE)(hr0:Kd.C Kd.bool w A0 l0.length l0)(hc0:l0.length<=c0)(h:dF.f k l0 a1=some r):
 cF ab 191 #[.slice A0 l0.length c0,.bool a1] w fun e w'=>e=.returned (.bool r)∧bG w w':=by
 have nS:=Y1 hr0;have xZ:=Y1 hc0;clear hr0 hc0;have H:=h;clear h;unfold dF.f at H;replace H:=ag.mp H;obtain⟨t190,Er,H⟩:=H;have A3:=Y1 Er;clear Er;obtain rfl:=af H;go_enter ey,ntmps191
 go_wp2_with (first|((with_reducible refine bQ (f:=223) rfl ?_);refine gJ (some 7) rfl rfl ew (by kernel_rfl) rfl #[.slice A0 l0.length c0,.bool a1] rfl (by(try simp only[aq,ao,ba]);rfl) ?_;(with_reducible refine(bq.calls k _ _ l0 a1 t190 _ ?fJ ?fK A3.out).mono ?_);(case fJ=>repeat (exact nS.out));(case fK=>exact xZ.out);rintro e w' ⟨rfl,⟨nd,rfl⟩⟩;refine⟨_,rfl,?_⟩))
 go_ret;exact⟨by rfl,by repeat (first|exact bG.refl _|apply bG.step)⟩
def jM.f(k:Nat)(EB:List Int)(bL:List Bool):Option (Bool):=(dF.f k bL true).bind fun t192=>(some (!t192))
theorem jM.calls(k:Nat)(Ua:Option eK)(Ub:Nat)(EB:List Int)(jX:Option eK)(iZ:Nat)(bL:List Bool)(r:Bool)(w:aE)(WW:Kd.C (Kd.int .u64) w Ua EB.length EB)(WX:EB.length<=Ub)(vW:Kd.C Kd.bool w jX bL.length bL)(vX:bL.length<=iZ)(h:jM.f k EB bL=some r):
 cF ab 180 #[.agg #[.slice Ua EB.length Ub,.slice jX bL.length iZ]] w fun e w'=>e=.returned (.bool r)∧cH w.heap.size w w':=by
 have agV:=underlying253;have agW:=Y1 WW;have agX:=Y1 WX;clear WW WX;have ug:=Y1 vW;have PS:=Y1 vX;clear vW vX;have HB:=Y1 (ar w.heap.size w);have H:=h;clear h;unfold jM.f at H;replace H:=ag.mp H;obtain⟨t192,OY,H⟩:=H;have A2:=Y1 OY;clear OY;obtain rfl:=af H;go_enter func180,ntmps180
 go_wp2_with (first|((with_reducible refine bP (N:=1) rfl ?_);refine bU ?hg (N:=1) ?hd (cs:= #[.slice Ua EB.length Ub,.slice jX bL.length iZ]) (t:=253) ?hr ?_;(case hd=>rfl);(case hg=>rfl);(case hr=>(go_simp;done));intro JR hg w3 dz hb;have dB:=Y1 (aU (by repeat ((with_reducible exact HB.out))) hb);have dN:=Y1 (dz);have fD:=Y1 ((by rw[hg];exact(aC (by repeat ((with_reducible exact HB.out)))):w.heap.size<=JR));have iC:=Y1 ((by rw[hg];exact(aC (by repeat ((with_reducible exact HB.out)))):w.heap.size<=JR));clear HB;have HB:=dB;have JU:=dN;have agY:=fD;have agZ:=iC;clear dB dN fD iC;clear hb dz hg;have Hr:w3.cell? ⟨JR,0,none⟩=some (.slice Ua EB.length Ub):=(ay JU.out 0).trans rfl;have Ht:w3.cell? ⟨JR,1,none⟩=some (.slice jX bL.length iZ):=(ay JU.out 1).trans rfl;have Hu:=aj JU.out 0;have Hw:=aj JU.out 1)|((with_reducible refine bQ (f:=191) rfl ?_);refine gJ (some 5) rfl rfl ey (by kernel_rfl) rfl #[.slice jX bL.length iZ,.bool true] rfl (by(try simp only[aq,ao,ba]);rfl) ?_;(with_reducible refine(dF.calls k _ _ bL true t192 _ ?fJ ?fK A2.out).mono ?_);(case fJ=>repeat (exact(Kd.bM ug.out HB.out)));(case fK=>exact PS.out);rintro e w' ⟨rfl,⟨nd,rfl⟩⟩;refine⟨_,rfl,?_⟩))
 go_ret;exact⟨by rfl,by repeat ((with_reducible first|exact HB.out|apply aZ))⟩
def lY.f(aT:Int)(bY:Int):Option (Int):=if aT=4 then(some 1)else(if aT=5 then(some 1)else(some 2))
theorem lY.calls(aT:Int)(bY:Int)(r:Int)(w:aE)(h:lY.f aT bY=some r):
 cF ab 193 #[.agg #[.int .i64 aT,.int .u32 bY]] w fun e w'=>e=.returned (.int .i64 r)∧cH w.heap.size w w':=by
 have Tq:=cM;have HB:=Y1 (ar w.heap.size w);have H:=h;clear h;unfold lY.f at H;by_cases c2:aT=4
 .rw[if_pos c2]at H;have Ej:(aT==4)=true:=beq_iff_eq.mpr c2;have Yv:(aT !=4)=false:=bne_eq_false_iff_eq.mpr c2;clear c2;obtain rfl:=af H;go_enter du,dr
  go_wp2_with (first|((with_reducible refine bP (N:=1) rfl ?_);refine bU ?hg (N:=1) ?hd (cs:= #[.int .i64 aT,.int .u32 bY]) (t:=24) ?hr ?_;(case hd=>rfl);(case hg=>rfl);(case hr=>(go_simp;done));intro ny hg w3 dz hb;have dB:=Y1 (aU (by repeat ((with_reducible exact HB.out))) hb);have dN:=Y1 (dz);have fD:=Y1 ((by rw[hg];exact(aC (by repeat ((with_reducible exact HB.out)))):w.heap.size<=ny));have iC:=Y1 ((by rw[hg];exact(aC (by repeat ((with_reducible exact HB.out)))):w.heap.size<=ny));clear HB;have HB:=dB;have nC:=dN;have WY:=fD;have WZ:=iC;clear dB dN fD iC;clear hb dz hg;have Hr:w3.cell? ⟨ny,0,none⟩=some (.int .i64 aT):=(ay nC.out 0).trans rfl;have Ht:w3.cell? ⟨ny,1,none⟩=some (.int .u32 bY):=(ay nC.out 1).trans rfl;have Hu:=aj nC.out 0;have Hw:=aj nC.out 1))
  go_ret;exact⟨by rfl,by repeat ((with_reducible exact HB.out))⟩
 .rw[if_neg c2]at H;have Ej:(aT==4)=false:=beq_eq_false_iff_ne.mpr c2;have Yv:(aT !=4)=true:=bne_iff_ne.mpr c2;by_cases c5:aT=5
  .rw[if_pos c5]at H;have zJ:(aT==5)=true:=beq_iff_eq.mpr c5;have afl:(aT !=5)=false:=bne_eq_false_iff_eq.mpr c5;clear c5;obtain rfl:=af H;go_enter du,dr
   go_wp2_with (first|((with_reducible refine bP (N:=1) rfl ?_);refine bU ?hg (N:=1) ?hd (cs:= #[.int .i64 aT,.int .u32 bY]) (t:=24) ?hr ?_;(case hd=>rfl);(case hg=>rfl);(case hr=>(go_simp;done));intro ny hg w6 dz hb;have dB:=Y1 (aU (by repeat ((with_reducible exact HB.out))) hb);have dN:=Y1 (dz);have fD:=Y1 ((by rw[hg];exact(aC (by repeat ((with_reducible exact HB.out)))):w.heap.size<=ny));have iC:=Y1 ((by rw[hg];exact(aC (by repeat ((with_reducible exact HB.out)))):w.heap.size<=ny));clear HB;have HB:=dB;have nC:=dN;have WY:=fD;have WZ:=iC;clear dB dN fD iC;clear hb dz hg;have Yq:w6.cell? ⟨ny,0,none⟩=some (.int .i64 aT):=(ay nC.out 0).trans rfl;have Yr:w6.cell? ⟨ny,1,none⟩=some (.int .u32 bY):=(ay nC.out 1).trans rfl;have Yt:=aj nC.out 0;have Yu:=aj nC.out 1))
   go_ret;exact⟨by rfl,by repeat ((with_reducible exact HB.out))⟩
  .rw[if_neg c5]at H;have zJ:(aT==5)=false:=beq_eq_false_iff_ne.mpr c5;have afl:(aT !=5)=true:=bne_iff_ne.mpr c5;obtain rfl:=af H;go_enter du,dr
   go_wp2_with (first|((with_reducible refine bP (N:=1) rfl ?_);refine bU ?hg (N:=1) ?hd (cs:= #[.int .i64 aT,.int .u32 bY]) (t:=24) ?hr ?_;(case hd=>rfl);(case hg=>rfl);(case hr=>(go_simp;done));intro ny hg w8 dz hb;have dB:=Y1 (aU (by repeat ((with_reducible exact HB.out))) hb);have dN:=Y1 (dz);have fD:=Y1 ((by rw[hg];exact(aC (by repeat ((with_reducible exact HB.out)))):w.heap.size<=ny));have iC:=Y1 ((by rw[hg];exact(aC (by repeat ((with_reducible exact HB.out)))):w.heap.size<=ny));clear HB;have HB:=dB;have nC:=dN;have WY:=fD;have WZ:=iC;clear dB dN fD iC;clear hb dz hg;have GX:w8.cell? ⟨ny,0,none⟩=some (.int .i64 aT):=(ay nC.out 0).trans rfl;have GY:w8.cell? ⟨ny,1,none⟩=some (.int .u32 bY):=(ay nC.out 1).trans rfl;have GZ:=aj nC.out 0;have G5:=aj nC.out 1))
   go_ret;exact⟨by rfl,by repeat ((with_reducible exact HB.out))⟩
def bits_Mul64.f(a0:Int)(a1:Int):Option (Int×Int):=some (aa.wrap ((aa.wrap ((aa.wrap ((a0/4294967296)*(a1/4294967296)))+((aa.wrap ((aa.wrap ((a0/4294967296)*(cD .and .u64 a1 4294967295)))+((aa.wrap ((cD .and .u64 a0 4294967295)*(cD .and .u64 a1 4294967295)))/4294967296)))/4294967296)))+((aa.wrap ((cD .and .u64 (aa.wrap ((aa.wrap ((a0/4294967296)*(cD .and .u64 a1 4294967295)))+((aa.wrap ((cD .and .u64 a0 4294967295)*(cD .and .u64 a1 4294967295)))/4294967296))) 4294967295)+(aa.wrap ((cD .and .u64 a0 4294967295)*(a1/4294967296)))))/4294967296)),aa.wrap (a0*a1))
theorem bits_Mul64.calls(a0:Int)(a1:Int)(r1:Int)(r2:Int)(w:aE)(h:bits_Mul64.f a0 a1=some (r1,r2)):
 cF ab 261 #[.int .u64 a0,.int .u64 a1] w fun e w'=>e=.returned (.tuple #[.int .u64 r1,.int .u64 r2])∧bG w w':=by
 have H:=h;clear h;unfold bits_Mul64.f at H;simp only[ae,al]at H;obtain⟨rfl,rfl⟩:=H;go_enter ez,ntmps261
 go_wp2
 go_ret2
 exact⟨by rfl,by repeat (exact bG.refl _)⟩
def bits_Mul.f(a0:Int)(a1:Int):Option (Int×Int):=(bits_Mul64.f a0 a1).bind fun W9=>(some (W9.1,W9.2))
theorem bits_Mul.calls(a0:Int)(a1:Int)(r1:Int)(r2:Int)(w:aE)(h:bits_Mul.f a0 a1=some (r1,r2)):
 cF ab 244 #[.int .u64 a0,.int .u64 a1] w fun e w'=>e=.returned (.tuple #[.int .u64 r1,.int .u64 r2])∧bG w w':=by
 have H:=h;clear h;unfold bits_Mul.f at H;replace H:=ag.mp H;obtain⟨⟨t197,t198⟩,Er,H⟩:=H;dsimp only at H;have A3:=Y1 Er;clear Er;simp only[ae,al]at H;obtain⟨rfl,rfl⟩:=H;go_enter func244,ntmps244
 go_wp2_with (first|((with_reducible refine bQ (f:=261) rfl ?_);refine gJ (some 25) rfl rfl ez (by kernel_rfl) rfl #[.int .u64 a0,.int .u64 a1] rfl (by(try simp only[aq,ao,ba]);rfl) ?_;(with_reducible refine(bits_Mul64.calls a0 a1 t197 t198 _ A3.out).mono ?_);rintro e w' ⟨rfl,⟨nd,rfl⟩⟩;refine⟨_,rfl,?_⟩))
 go_ret2
 exact⟨by rfl,by repeat (first|exact bG.refl _|apply bG.step)⟩
def cZ.f(l0:List Int)(a1:Int):Option (Int):=(av.f l0 a1 4).bind fun ab8=>(some ((ab8.1)%4294967296))
theorem cZ.calls(A0:Option eK)(c0:Nat)(l0:List Int)(a1:Int)(r:Int)(w:aE)(hr0:Kd.C (Kd.int .u8) w A0 l0.length l0)(hc0:l0.length<=c0)(h:cZ.f l0 a1=some r):
 cF ab 175 #[.slice A0 l0.length c0,.int .i64 a1] w fun e w'=>e=.returned (.int .u32 r)∧cH w.heap.size w w':=by
 have nS:=Y1 hr0;have xZ:=Y1 hc0;clear hr0 hc0;have HB:=Y1 (ar w.heap.size w);have H:=h;clear h;unfold cZ.f at H;replace H:=ag.mp H;obtain⟨⟨t202,t203⟩,Er,H⟩:=H;dsimp only at H;have A3:=Y1 Er;clear Er;obtain rfl:=af H;go_enter cG,ntmps175
 go_wp2_with (first|((with_reducible refine bQ (f:=94) rfl ?_);refine gJ (some 10) rfl rfl func94 (by kernel_rfl) rfl #[.slice A0 l0.length c0,.int .i64 a1,.int .i64 4] rfl (by(try simp only[aq,ao,ba]);rfl) ?_;(with_reducible refine(av.calls _ _ l0 a1 4 t202 t203 _ ?fJ ?fK A3.out).mono ?_);(case fJ=>repeat (exact nS.out));(case fK=>exact xZ.out);rintro e w4 ⟨rfl,hb⟩;refine⟨_,rfl,?_⟩;have dB:=Y1 (aU (by repeat ((with_reducible exact HB.out))) hb);clear HB;have HB:=dB;clear dB;(try clear hb)))
 go_ret;exact⟨by rfl,by repeat ((with_reducible exact HB.out))⟩
def dJ.l0:Nat->List Int->Int->List (jB)->Int->Int->Int->Option (Int×(List (jB))×Int×Int)
 |0,_,_,_,_,_,_=>none
 |k+1,x0,x5,x7,x33,x34,CG=>if x34<x33 then((cZ.f x0 (wrap64 (4+(wrap64 (12*x34))))).bind fun t209=>((cZ.f x0 (wrap64 ((wrap64 (4+(wrap64 (12*x34))))+4))).bind fun t210=>((cZ.f x0 (wrap64 ((wrap64 (4+(wrap64 (12*x34))))+8))).bind fun t211=>(if 0<=x34 then(if x34<(x7.length:Int)then((some (x7.set (x34:Int).toNat (⟨t209,t210,t211⟩:jB):List (jB))).bind fun wJ=>(if((bE wJ x34).f0)>=x5 then(some (CG,([]:List (jB)),wrap64 (4+(wrap64 (12*x34))),1))else(if((bE wJ x34).f1)>=x5 then(some (CG,([]:List (jB)),wrap64 ((wrap64 (4+(wrap64 (12*x34))))+4),1))else(dJ.l0 k x0 x5 wJ x33 (wrap64 (x34+1)) CG))))else(none))else(none)))))else(some (wrap64 (x5),x7,0,0))
def dJ.f(k:Nat)(l0:List Int):Option (Int×(List (jB))×Int×Int):=if((l0.length:Int)%12)=4 then((cZ.f l0 0).bind fun t205=>(if t205>1048576 then(some (0,([]:List (jB)),0,1))else(if(wrap64 ((l0.length:Int)/12))>1048576 then(some (0,([]:List (jB)),4,1))else(if 0<=(wrap64 ((l0.length:Int)/12))then(if(wrap64 ((l0.length:Int)/12):Int).toNat<=23456248059221 then((some (ca (wrap64 ((l0.length:Int)/12):Int).toNat z46:List (jB))).bind fun CJ=>(dJ.l0 k l0 t205 CJ (CJ.length:Int) 0 0))else(none))else(none)))))else(some (0,([]:List (jB)),(l0.length:Int),2))
theorem dJ.calls(k:Nat)(A0:Option eK)(c0:Nat)(l0:List Int)(r1:Int)(r2:List (jB))(r3:Int)(w:aE)(hr0:Kd.C (Kd.int .u8) w A0 l0.length l0)(hc0:l0.length<=c0)(h:dJ.f k l0=some (r1,r2,r3,0)):
 cF ab 169 #[.slice A0 l0.length c0] w fun e w'=>∃v1_:eo,e=.returned (.tuple #[.agg #[.int .i64 r1,v1_],.int .i64 r3,.int .i64 0])∧Kd.R pR 46 w' w.heap.size (fun _=>True) v1_ r2∧cH w.heap.size w w':=by
 have abZ:=cN;have Yw:=bk;have nS:=Y1 hr0;have xZ:=Y1 hc0;clear hr0 hc0;have HB:=Y1 (ar w.heap.size w);have H:=h;clear h;unfold dJ.f at H;by_cases c2:((l0.length:Int)%12)=4
 .rw[if_pos c2]at H;have Ej:(((l0.length:Int)%12)==4)=true:=beq_iff_eq.mpr c2;have Yv:(((l0.length:Int)%12) !=4)=false:=bne_eq_false_iff_eq.mpr c2;clear c2;replace H:=ag.mp H;obtain⟨t205,Er,H⟩:=H;have A3:=Y1 Er;clear Er;by_cases c4:t205>1048576
  .rw[if_pos c4]at H;simp at H
  .rw[if_neg c4]at H;have wH:decide (1048576<t205)=false:=decide_eq_false c4;clear c4;by_cases c8:(wrap64 ((l0.length:Int)/12))>1048576
   .rw[if_pos c8]at H;simp at H
   .rw[if_neg c8]at H;have wI:decide (1048576<(wrap64 ((l0.length:Int)/12)))=false:=decide_eq_false c8;clear c8;obtain⟨uh,yF⟩:∃j_:Int,(wrap64 ((l0.length:Int)/12))=j_:=⟨_,rfl⟩
    rw[yF]at H
    (try rw[yF]at wI)
    have afm:(eJ.wrap ((l0.length:Int)/12))=uh:=(gK _).trans yF;by_cases c13:0<=(uh)
    .rw[if_pos c13]at H;have Az:=eq_true c13;have O6:decide (0<=(uh))=true:=decide_eq_true c13;clear c13;by_cases c14:(uh:Int).toNat<=23456248059221
     .rw[if_pos c14]at H;have rJ:=eq_true c14;have WE:decide ((uh:Int).toNat<=23456248059221)=true:=decide_eq_true c14;clear c14;obtain⟨CJ,PZ⟩:∃y_:List (jB),y_=(ca (uh:Int).toNat z46):=⟨_,rfl⟩
      rw[az,<-PZ]at H;have ab9:=Y1 PZ;clear PZ;have H':=Y1 H;clear H;go_enter func169,ntmps169
      go_wp2_with (first|((with_reducible refine bP (N:=2) rfl ?_);refine bU ?hg (N:=2) ?hd (cs:= #[.int .i64 0,.slice none 0 0]) (t:=27) ?hr ?_;(case hd=>rfl);(case hg=>rfl);(case hr=>(go_simp;done));intro nE hg w15 dz hb;have dB:=Y1 (aU (by repeat ((with_reducible exact HB.out))) hb);have dN:=Y1 (dz);have fD:=Y1 ((by rw[hg];exact(aC (by repeat ((with_reducible exact HB.out)))):w.heap.size<=nE));have iC:=Y1 ((by rw[hg];exact(aC (by repeat ((with_reducible exact HB.out)))):w.heap.size<=nE));clear HB;have HB:=dB;have iw:=dN;have ag0:=fD;have ab_:=iC;clear dB dN fD iC;clear hb dz hg)|((with_reducible refine bQ (f:=175) rfl ?_);refine gJ (some 18) rfl rfl cG (by kernel_rfl) rfl #[.slice A0 l0.length c0,.int .i64 0] rfl (by(try simp only[aq,ao,ba]);rfl) ?_;(with_reducible refine(cZ.calls _ _ l0 0 t205 _ ?fJ ?fK A3.out).mono ?_);(case fJ=>repeat (exact(Kd.bM nS.out HB.out)));(case fK=>exact xZ.out);rintro e w16 ⟨rfl,hb⟩;refine⟨_,rfl,?_⟩;have dB:=Y1 (bT (g:=nE) (o:=.cells #[.int .i64 0,.slice none 0 0] 27 (0,0)) (by exact iw.out) hb);have dN:=Y1 (aU (by repeat ((with_reducible exact HB.out))) hb);clear iw;clear HB;have iw:=dB;have HB:=dN;clear dB dN;(try clear hb))|((with_reducible refine bP (N:=31) rfl ?_);refine Kd.NH pR _ 46 rfl (N:=31) rfl 25 _ _ rfl uh rfl rfl underlying25 (.agg #[(.int .u32 0),(.int .u32 0),(.int .u32 0)]) 12 xY rfl (by decide) (by omega) z46 (ok:=fun _=>True) (lX:=fun _=>True) (Jq _ _ _ z46) (fun _ hk=>hk) trivial (of_decide_eq_true (by(with_reducible assumption))) (Nat.le_trans (Nat.mul_le_mul_right _ (of_decide_eq_true (by(with_reducible assumption)):uh.toNat<=23456248059221)) (by omega)) (ar _ _) (bz _) ?_;intro ahG w17 Yx hb Gw mq;clear Gw mq;(rw[<-ab9.out]at Yx);have dB:=Y1 (Kd.jG Yx (aC (by repeat ((with_reducible exact HB.out)))));have dN:=Y1 (bT (g:=nE) (o:=.cells #[.int .i64 0,.slice none 0 0] 27 (0,0)) (by exact iw.out) hb);have fD:=Y1 (aU (by repeat ((with_reducible exact HB.out))) hb);clear iw;clear HB;have W_:=dB;have iw:=dN;have HB:=fD;clear dB dN fD;clear hb Yx;obtain⟨Yy,P5,afn⟩:=Kd.dV W_.out;subst afn))
      go_loopg [34] k (fun kq v34 w'=>∃(jg:List (jB)) (dM:Int) (iU:Int),v34=.int .i64 dM∧aG (dJ.l0 kq l0 t205 jg (CJ.length:Int) dM iU=some (r1,r2,r3,0))∧aG (kq<=k)∧aG (Kd.R pR 46 w' w.heap.size (fun _=>True) (.slice Yy CJ.length P5) jg)∧aG (w'.heap[nE]? =some (.cells #[.int .i64 iU,(.slice none 0 0)] 27 (0,0)))∧aG (cH w.heap.size w w'))
      case atStart=>exact⟨(CJ),(0),(0),(by rfl),H',⟨bz _⟩,⟨by exact W_.out⟩,⟨by exact iw.out⟩,⟨by repeat ((with_reducible exact HB.out))⟩⟩
      case round=>
       clear H'
       try clear Ej
       try clear Yv
       try clear wH
       try clear wI
       try clear Az
       try clear O6
       try clear rJ
       try clear WE
       obtain⟨jg,dM,iU,rfl,HA,tX,jF,iw,HB⟩:=hrel;have A_:=(Kd.gV jF.out).1;rw[A_]at jF
       (try simp only[A_])
       cases gk with
       |zero=>exact absurd HA.out (by simp[dJ.l0])
       |succ k1=>
        have H:=HA.out;clear HA;simp only[dJ.l0]at H;by_cases c20:dM<(CJ.length:Int)
        .rw[if_pos c20]at H;have Es:decide (dM<(CJ.length:Int))=true:=decide_eq_true c20
         (try simp only[A_]at Es)
         clear c20;replace H:=ag.mp H;obtain⟨t209,acd,H⟩:=H;have A21:=Y1 acd;clear acd;replace H:=ag.mp H;obtain⟨t210,ace,H⟩:=H;have A22:=Y1 ace;clear ace;replace H:=ag.mp H;obtain⟨t211,acf,H⟩:=H;have A23:=Y1 acf;clear acf;by_cases c24:0<=dM
         .rw[if_pos c24]at H;have ag1:decide (0<=dM)=true:=decide_eq_true c24;clear c24;by_cases c25:dM<(jg.length:Int)
          .rw[if_pos c25]at H;have ag2:decide (dM<(jg.length:Int))=true:=decide_eq_true c25;clear c25;obtain⟨wJ,P6⟩:∃y_:List (jB),y_=(jg.set (dM:Int).toNat (⟨t209,t210,t211⟩:jB)):=⟨_,rfl⟩
           rw[az,<-P6]at H;have acg:=Y1 P6;clear P6;by_cases c27:((bE wJ dM).f0)>=t205
           .rw[if_pos c27]at H;simp at H
           .rw[if_neg c27]at H;have ag3:decide (t205<=((bE wJ dM).f0))=false:=decide_eq_false c27;clear c27;by_cases c34:((bE wJ dM).f1)>=t205
            .rw[if_pos c34]at H;simp at H
            .rw[if_neg c34]at H;have ag4:decide (t205<=((bE wJ dM).f1))=false:=decide_eq_false c34;clear c34;have H':=Y1 H;clear H
             go_wp2_with (first|((with_reducible refine bQ (f:=175) rfl ?_);refine gJ (some 44) rfl rfl cG (by kernel_rfl) rfl #[.slice A0 l0.length c0,.int .i64 (wrap64 (4+(wrap64 (12*dM))))] rfl (by(try simp only[aq,ao,ba]);rfl) ?_;(with_reducible refine(cZ.calls _ _ l0 (wrap64 (4+(wrap64 (12*dM)))) t209 _ ?fJ ?fK A21.out).mono ?_);(case fJ=>repeat (exact(Kd.bM nS.out HB.out)));(case fK=>exact xZ.out);rintro e w41 ⟨rfl,hb⟩;refine⟨_,rfl,?_⟩;have dB:=Y1 (Kd.eu (by exact jF.out) hb);have dN:=Y1 (bT (g:=nE) (o:=.cells #[.int .i64 iU,.slice none 0 0] 27 (0,0)) (by exact iw.out) hb);have fD:=Y1 (aU (by repeat ((with_reducible exact HB.out))) hb);clear jF;clear iw;clear HB;have jF:=dB;have iw:=dN;have HB:=fD;clear dB dN fD;(try clear hb))|((with_reducible refine bQ (f:=175) rfl ?_);refine gJ (some 48) rfl rfl cG (by kernel_rfl) rfl #[.slice A0 l0.length c0,.int .i64 (wrap64 ((wrap64 (4+(wrap64 (12*dM))))+4))] rfl (by(try simp only[aq,ao,ba]);rfl) ?_;(with_reducible refine(cZ.calls _ _ l0 (wrap64 ((wrap64 (4+(wrap64 (12*dM))))+4)) t210 _ ?fJ ?fK A22.out).mono ?_);(case fJ=>repeat (exact(Kd.bM nS.out HB.out)));(case fK=>exact xZ.out);rintro e w42 ⟨rfl,hb⟩;refine⟨_,rfl,?_⟩;have dB:=Y1 (Kd.eu (by exact jF.out) hb);have dN:=Y1 (bT (g:=nE) (o:=.cells #[.int .i64 iU,.slice none 0 0] 27 (0,0)) (by exact iw.out) hb);have fD:=Y1 (aU (by repeat ((with_reducible exact HB.out))) hb);clear jF;clear iw;clear HB;have jF:=dB;have iw:=dN;have HB:=fD;clear dB dN fD;(try clear hb))|((with_reducible refine bQ (f:=175) rfl ?_);refine gJ (some 52) rfl rfl cG (by kernel_rfl) rfl #[.slice A0 l0.length c0,.int .i64 (wrap64 ((wrap64 (4+(wrap64 (12*dM))))+8))] rfl (by(try simp only[aq,ao,ba]);rfl) ?_;(with_reducible refine(cZ.calls _ _ l0 (wrap64 ((wrap64 (4+(wrap64 (12*dM))))+8)) t211 _ ?fJ ?fK A23.out).mono ?_);(case fJ=>repeat (exact(Kd.bM nS.out HB.out)));(case fK=>exact xZ.out);rintro e Uc ⟨rfl,hb⟩;refine⟨_,rfl,?_⟩;have dB:=Y1 (Kd.eu (by exact jF.out) hb);have dN:=Y1 (bT (g:=nE) (o:=.cells #[.int .i64 iU,.slice none 0 0] 27 (0,0)) (by exact iw.out) hb);have fD:=Y1 (aU (by repeat ((with_reducible exact HB.out))) hb);clear jF;clear iw;clear HB;have jF:=dB;have iw:=dN;have HB:=fD;clear dB dN fD;(try clear hb);have p26:0<=(dM:Int):=of_decide_eq_true (by(with_reducible assumption));have q26:(dM:Int)<((jg.length:Int):Int):=of_decide_eq_true (by(with_reducible assumption));obtain⟨uj,ahH,ach,aci,afo,ahI,acj⟩:=Kd.ND jF.out (by omega);(first|cases ach|(injection ach with Tp en_ ec_;(first|subst Tp|(injection Tp with Tp;subst Tp));subst ec_;clear en_));have Yz:=Y1 aci;have ahJ:=Y1 acj;clear aci afo acj;obtain⟨ahK,acn,aco,JV,JW⟩:=Kd.NM jF.out z46 (dM:Int) p26 q26;obtain rfl:=Av aco;have afp:Uc.cell? ⟨uj,(dM:Int).toNat*3,none⟩=some (.int .u32 ((bE jg dM).f0)):=JV 0 _ rfl;have afq:Uc.cell? ⟨uj,(dM:Int).toNat*3+1,none⟩=some (.int .u32 ((bE jg dM).f1)):=JV 1 _ rfl;have afr:Uc.cell? ⟨uj,(dM:Int).toNat*3+2,none⟩=some (.int .u32 ((bE jg dM).f2)):=JV 2 _ rfl;have afs:Uc.frozen? ⟨uj,(dM:Int).toNat*3,none⟩=false:=JW 0;have aft:Uc.frozen? ⟨uj,(dM:Int).toNat*3+1,none⟩=false:=JW 1;have afu:Uc.frozen? ⟨uj,(dM:Int).toNat*3+2,none⟩=false:=JW 2;clear acn JV JW aco;replace p26:=eq_true p26;replace q26:=eq_true q26;have acp:=Y1 (show Kd.R pR 46 Uc w.heap.size (fun _=>True) (.slice (some ⟨uj,0,none⟩) jg.length P5) jg from(by exact jF.out));obtain⟨ahL,Xa,acr,EC,JX⟩:=Kd.NM acp.out z46 (dM:Int) (of_decide_eq_true (by(with_reducible assumption))) (by have h_:(dM:Int)<((jg.length:Int):Int):=of_decide_eq_true (by(with_reducible assumption));exact h_);obtain rfl:=Av acr;have YA:=Kd.aaS acp.out (dM:Int) (of_decide_eq_true (by(with_reducible assumption))) (by have h_:(dM:Int)<((jg.length:Int):Int):=of_decide_eq_true (by(with_reducible assumption));exact h_) (seg:=[.int .u32 t209,.int .u32 t210,.int .u32 t211]) (j:=0) Xa EC (show 3<=3 from by decide) (x':=(⟨t209,t210,t211⟩:jB)) (Jq _ _ _ (⟨t209,t210,t211⟩:jB)) (fun _ hk=>hk);have YB:=EC 0 _ rfl;(try simp only[show(pR).sz=3 from rfl,cE,cy]at YB);have YC:=JX 0;(try simp only[show(pR).sz=3 from rfl,cE,cy]at YC);have YD:=EC 1 _ rfl;(try simp only[show(pR).sz=3 from rfl,cE,cy]at YD);have YE:=JX 1;(try simp only[show(pR).sz=3 from rfl,cE,cy]at YE);have YF:=EC 2 _ rfl;(try simp only[show(pR).sz=3 from rfl,cE,cy]at YF);have YG:=JX 2;(try simp only[show(pR).sz=3 from rfl,cE,cy]at YG);clear Xa EC JX acr)|((with_reducible refine xM (t:=46) (p:=54) rfl ?_);refine vK (t:=46) (p:=54) (v:=?afv) (w1:=(((Uc.setCell ⟨uj,(dM:Int).toNat*3,none⟩ (.int .u32 t209)).setCell ⟨uj,(dM:Int).toNat*3+1,none⟩ (.int .u32 t210)).setCell ⟨uj,(dM:Int).toNat*3+2,none⟩ (.int .u32 t211))) ?hg ?ho ?hn ?hr ?_;(case ho=>rfl);(case hg=>rfl);(case hn=>rfl);(case hr=>(go_simp;done));intro w45 hw;have hg:Uc.grownBy w45 (some uj):=(by rw[hw];exact YA.2);have hp_:Kd.R pR 46 w45 w.heap.size (fun _=>True) (.slice (some ⟨uj,0,none⟩) jg.length P5) wJ:=(by rw[hw,acg.out];exact YA.1);clear YA;have dB:=Y1 (hp_);have dN:=Y1 (qE (g:=nE) (o:=.cells #[.int .i64 iU,.slice none 0 0] 27 (0,0)) (by exact iw.out) hg (Kd.KG jF.out iw.out (by decide)));have fD:=Y1 ((by rw[hw];exact jv (jv (jv (HB.out) Yz.out) Yz.out) Yz.out:cH w.heap.size w w45));clear jF;clear iw;clear HB;have jF:=dB;have iw:=dN;have HB:=fD;clear dB dN fD;clear hg hw hp_;have YH:0<=(dM:Int):=of_decide_eq_true (by(with_reducible assumption));have YI:dM<(wJ.length:Int):=(by have h_:(dM:Int)<((jg.length:Int):Int):=of_decide_eq_true (by(with_reducible assumption));(have e_:=(Kd.gV jF.out).1;omega));have ag5:((dM:Int)<((jg.length:Int):Int))=True:=eq_true (of_decide_eq_true (by(with_reducible assumption)));obtain⟨acs,e213,Ud,Ue,Uf⟩:=lJ (Kd.gV jF.out).2.2 dM YH YI;obtain rfl:(⟨uj,0,none⟩:eK)=acs:=(by injection e213);(simp only[add_plain]at Ud);(simp only[add_plain]at Ue);(simp only[add_plain]at Uf);replace YH:=eq_true YH;replace YI:=eq_true YI;have YJ:0<=(dM:Int):=of_decide_eq_true (by(with_reducible assumption));have YK:dM<(wJ.length:Int):=(by have h_:(dM:Int)<((jg.length:Int):Int):=of_decide_eq_true (by(with_reducible assumption));(have e_:=(Kd.gV jF.out).1;omega));have ag6:((dM:Int)<((jg.length:Int):Int))=True:=eq_true (of_decide_eq_true (by(with_reducible assumption)));obtain⟨acu,e214,Ug,Uh,Ui⟩:=lJ (Kd.gV jF.out).2.2 dM YJ YK;obtain rfl:(⟨uj,0,none⟩:eK)=acu:=(by injection e214);(simp only[add_plain]at Ug);(simp only[add_plain]at Uh);(simp only[add_plain]at Ui);replace YJ:=eq_true YJ;replace YK:=eq_true YK))
             (try simp only[<-A_])
             go_roundg k1
             case measure=>have:=tX.out;omega
             case rel=>exact⟨(wJ),(wrap64 (dM+1)),(iU),(by rfl),H',⟨by have:=tX.out;omega⟩,⟨by(try simp only[A_]);exact jF.out⟩,⟨by exact iw.out⟩,⟨by repeat ((with_reducible exact HB.out))⟩⟩
          .rw[if_neg c25]at H;exact absurd H (by simp)
         .rw[if_neg c24]at H;exact absurd H (by simp)
        .rw[if_neg c20]at H;have Es:decide (dM<(CJ.length:Int))=false:=decide_eq_false c20
         (try simp only[A_]at Es)
         clear c20;simp only[ae,al,and_true]at H;obtain⟨rfl,rfl,rfl⟩:=H;have aer:wr.cell? ⟨nE,0,none⟩=some (.int .i64 iU):=(ay iw.out 0).trans rfl;have aes:wr.cell? ⟨nE,1,none⟩=some (.slice none 0 0):=(ay iw.out 1).trans rfl;have aeu:=aj iw.out 0;have aev:=aj iw.out 1
         go_wp2
         refine bodyPost_ret (iE rfl _ _ nE 27 #[.int .i64 (wrap64 (t205)),.slice Yy jg.length P5] (0,0) _ rfl (by refine iW (cs:= #[.int .i64 (wrap64 (t205)),.slice none 0 0]) ?_ 1 _ rfl;refine iW (cs:= #[.int .i64 iU,.slice none 0 0]) ?_ 0 _ rfl;exact iw.out) cN rfl (by kernel_rfl)) rfl ?_;exact⟨_,by rfl,by exact Kd.iA (Kd.vJ (p:=⟨nE,1,none⟩) (Kd.vJ (p:=⟨nE,0,none⟩) (Kd.Jb jF.out iw.out (by decide)) (fun _ hk=>hk.2) (.int .i64 (wrap64 (t205)))) (fun _ hk=>hk.2) (.slice Yy jg.length P5)) (fun _ hk=>trivial),by repeat ((with_reducible first|exact HB.out|refine jv ?_ ab_.out))⟩
     .rw[if_neg c14]at H;exact absurd H (by simp)
    .rw[if_neg c13]at H;exact absurd H (by simp)
 .rw[if_neg c2]at H;simp at H
end
section
attribute [local go_sem] gM gN kY lg
mutual
def aA.l0:Nat->List Int->Int->Int->List (jB)->Option (List Int)
 |0,_,_,_,_=>none
 |k+1,x3,x4,oQ,ko=>if x4<(ko.length:Int)then(if 0<=x4 then(aA.l1 k x3 x4 (([(bE ko x4).f0,(bE ko x4).f1,(bE ko x4).f2]:List Int)) 0 oQ ko)else(none))else(some x3)
def aA.l1:Nat->List Int->Int->List Int->Int->Int->List (jB)->Option (List Int)
 |0,_,_,_,_,_,_=>none
 |k+1,x3,x4,x6,x7,oQ,ko=>if x7<3 then(aA.l2 k x3 x4 x6 x7 0 oQ ko)else(aA.l0 k x3 (wrap64 (x4+1)) oQ ko)
def aA.l2:Nat->List Int->Int->List Int->Int->Int->Int->List (jB)->Option (List Int)
 |0,_,_,_,_,_,_,_=>none
 |k+1,x3,x4,x6,x7,x8,oQ,ko=>if x8<4 then(if 0<=x7 then(if x7<(x6.length:Int)then(if 0<=(aa.wrap (wrap64 (8*x8)))then(if x3.length<140737488355328 then(aA.l2 k (x3++[(shr .u32 (rd x6 x7) (aa.wrap (wrap64 (8*x8))))%256]) x4 x6 x7 (wrap64 (x8+1)) oQ ko)else(none))else(none))else(none))else(none))else(aA.l1 k x3 x4 x6 (wrap64 (x7+1)) oQ ko)
end
def aA.f(k:Nat)(aT:Int)(bL:List (jB)):Option (List Int):=(bI.f k ([]:List Int) 4 (aa.wrap (aT))).bind fun t228=>(aA.l0 k t228 0 aT bL)
theorem aA.calls(k:Nat)(aT:Int)(jX:Option eK)(iZ:Nat)(bL:List (jB))(r:List Int)(w:aE)(vW:Kd.C pR w jX bL.length bL)(vX:bL.length<=iZ)(h:aA.f k aT bL=some r):
 cF ab 12 #[.agg #[.int .i64 aT,.slice jX bL.length iZ]] w fun e w'=>∃vT:eo,e=.returned (vT)∧Kd.R (Kd.int .u8) 5 w' w.heap.size (fun _=>True) vT r∧cH w.heap.size w w':=by
 have abZ:=cN;have Yw:=bk;have ug:=Y1 vW;have PS:=Y1 vX;clear vW vX;have HB:=Y1 (ar w.heap.size w);have H:=h;clear h;unfold aA.f at H;replace H:=ag.mp H;obtain⟨t228,OY,H⟩:=H;have A2:=Y1 OY;clear OY;have H':=Y1 H;clear H;go_enter func12,ntmps12
 go_wp2_with (first|((with_reducible refine bP (N:=1) rfl ?_);refine bU ?hg (N:=1) ?hd (cs:= #[.int .i64 aT,.slice jX bL.length iZ]) (t:=27) ?hr ?_;(case hd=>rfl);(case hg=>rfl);(case hr=>(go_simp;done));intro kr hg w3 dz hb;have dB:=Y1 (aU (by repeat ((with_reducible exact HB.out))) hb);have dN:=Y1 (dz);have fD:=Y1 ((by rw[hg];exact(aC (by repeat ((with_reducible exact HB.out)))):w.heap.size<=kr));have iC:=Y1 ((by rw[hg];exact(aC (by repeat ((with_reducible exact HB.out)))):w.heap.size<=kr));clear HB;have HB:=dB;have fE:=dN;have ag7:=fD;have ag8:=iC;clear dB dN fD iC;clear hb dz hg;have Hr:w3.cell? ⟨kr,0,none⟩=some (.int .i64 aT):=(ay fE.out 0).trans rfl;have Ht:w3.cell? ⟨kr,1,none⟩=some (.slice jX bL.length iZ):=(ay fE.out 1).trans rfl;have Hu:=aj fE.out 0;have Hw:=aj fE.out 1)|((with_reducible refine bQ (f:=19) rfl ?_);refine gJ (some 12) rfl rfl func19 (by kernel_rfl) rfl #[.slice none 0 0,.int .i64 4,.int .u64 (aa.wrap (aT))] rfl (by(try simp only[aq,ao,ba]);rfl) ?_;(refine(bI.calls k _ _ ([]:List Int) 4 (aa.wrap (aT)) t228 _ ?fJ ?fK A2.out).mono ?_);(case fJ=>exact Kd.xJ _ _);(case fK=>exact bz _);rintro e w5 ⟨v229,rfl,ho0,hb⟩;refine⟨_,rfl,?_⟩;have dB:=Y1 (Kd.jG ho0 (aC (by repeat ((with_reducible exact HB.out)))));have dN:=Y1 (bT (g:=kr) (o:=.cells #[.int .i64 aT,.slice jX bL.length iZ] 27 (0,0)) (by exact fE.out) hb);have fD:=Y1 (aU (by repeat ((with_reducible exact HB.out))) hb);clear fE;clear HB;have acv:=dB;have fE:=dN;have HB:=fD;clear dB dN fD;(try clear hb);(try clear ho0)))
 go_loopg [3,4] k (fun kq v3 v4 w'=>∃(kJ:List Int) (gP:Int),v4=.int .i64 gP∧aG (aA.l0 kq kJ gP aT bL=some r)∧aG (kq<=k)∧aG (Kd.R (Kd.int .u8) 5 w' w.heap.size (fun _=>True) v3 kJ)∧aG (w'.heap[kr]? =some (.cells #[.int .i64 aT,(.slice jX bL.length iZ)] 27 (0,0)))∧aG (cH w.heap.size w w'))
 case atStart=>exact⟨(t228),(0),(by rfl),H',⟨bz _⟩,⟨by exact acv.out⟩,⟨by exact fE.out⟩,⟨by repeat ((with_reducible exact HB.out))⟩⟩
 case round=>
  clear H'
  try clear Hr
  try clear Ht
  try clear Hu
  try clear Hw
  obtain⟨kJ,gP,rfl,HA,tX,pK,fE,HB⟩:=hrel;cases gk with
  |zero=>exact absurd HA.out (by simp[aA.l0])
  |succ k1=>
   have H:=HA.out;clear HA;simp only[aA.l0]at H;by_cases c6:gP<(bL.length:Int)
   .rw[if_pos c6]at H;have pJ:decide (gP<(bL.length:Int))=true:=decide_eq_true c6;clear c6;by_cases c7:0<=gP
    .rw[if_pos c7]at H;have GV:decide (0<=gP)=true:=decide_eq_true c7;clear c7;obtain⟨zM,P7⟩:∃y_:List Int,y_=(([(bE bL gP).f0,(bE bL gP).f1,(bE bL gP).f2]:List Int)):=⟨_,rfl⟩
     rw[<-P7]at H;have acw:=Y1 P7;clear P7;have H':=Y1 H;clear H;have G9:wr.cell? ⟨kr,0,none⟩=some (.int .i64 aT):=(ay fE.out 0).trans rfl;have G_:wr.cell? ⟨kr,1,none⟩=some (.slice jX bL.length iZ):=(ay fE.out 1).trans rfl;have He:=aj fE.out 0;have Hf:=aj fE.out 1;have Uj:0<=(gP:Int):=of_decide_eq_true (by(with_reducible assumption));have Uk:gP<(bL.length:Int):=of_decide_eq_true (by(with_reducible assumption));obtain⟨yG,e231,w_,xg,xq⟩:=lJ ug.out gP Uj Uk;cases e231;replace w_:=(HB.out.cell (cq w _ w_)).trans w_;replace xg:=(HB.out.cell (cq w _ xg)).trans xg;replace xq:=(HB.out.cell (cq w _ xq)).trans xq;replace Uj:=eq_true Uj;replace Uk:=eq_true Uk
     go_wp2_with (first|((with_reducible refine bP (N:=5) rfl ?_);refine bU ?hg (N:=5) ?hd (cs:= #[.int .u32 0,.int .u32 0,.int .u32 0]) (t:=46) ?hr ?_;(case hd=>rfl);(case hg=>rfl);(case hr=>(go_simp;done));intro nG hg w9 dz hb;have dB:=Y1 (Kd.eu (by exact pK.out) hb);have dN:=Y1 (bT (g:=kr) (o:=.cells #[.int .i64 aT,.slice (some yG) bL.length iZ] 27 (0,0)) (by exact fE.out) hb);have fD:=Y1 (aU (by repeat ((with_reducible exact HB.out))) hb);have iC:=Y1 (dz);have JY:=Y1 ((by rw[hg];exact(aC (by repeat ((with_reducible exact HB.out)))):w.heap.size<=nG));have Xb:=Y1 ((by rw[hg];exact(aC (by repeat ((with_reducible exact HB.out)))):w.heap.size<=nG));have Xc:=Y1 ((by rw[hg];exact dv (jd (g:=kr) (o:=.cells #[.int .i64 aT,.slice (some yG) bL.length iZ] 27 (0,0)) (by exact fE.out)):kr≠nG));have n7_:=Y1 ((by rw[hg];exact dy (jd (g:=kr) (o:=.cells #[.int .i64 aT,.slice (some yG) bL.length iZ] 27 (0,0)) (by exact fE.out)):nG≠kr));clear pK;clear fE;clear HB;have pK:=dB;have fE:=dN;have HB:=fD;have jN:=iC;have ag9:=JY;have Xd:=Xb;have qQ:=Xc;have Li:=n7_;clear dB dN fD iC JY Xb Xc n7_;clear hb dz hg;have ag_:=Li.out;have aha:=qQ.out;have Cx:w9.cell? ⟨nG,0,none⟩=some (.int .u32 0):=(ay jN.out 0).trans rfl;have Cy:w9.cell? ⟨nG,1,none⟩=some (.int .u32 0):=(ay jN.out 1).trans rfl;have Ul:w9.cell? ⟨nG,2,none⟩=some (.int .u32 0):=(ay jN.out 2).trans rfl;have Cz:=aj jN.out 0;have CB:=aj jN.out 1;have Um:=aj jN.out 2)|((with_reducible refine bP (N:=31) rfl ?_);refine Kd.xK (Kd.int .u32) _ 22 ?hg (N:=31) ?hd (xs:=([(bE bL gP).f0,(bE bL gP).f1,(bE bL gP).f2]:List Int)) (inner:=[.int .u32 ((bE bL gP).f0),.int .u32 ((bE bL gP).f1),.int .u32 ((bE bL gP).f2)]) (ok:=fun _=>True) (lX:=fun _=>True) ?hr ?hp (fun _ hk=>hk) trivial (ar _ _) (bz _) (by simp) ?_;(case hd=>rfl);(case hg=>rfl);(case hr=>(go_simp;done));(case hp=>exact(gZ.one (show Kd.M (Kd.int .u32) _ _ _ ((bE bL gP).f0) [.int .u32 ((bE bL gP).f0)]from rfl) (gZ.one (show Kd.M (Kd.int .u32) _ _ _ ((bE bL gP).f1) [.int .u32 ((bE bL gP).f1)]from rfl) (gZ.one (show Kd.M (Kd.int .u32) _ _ _ ((bE bL gP).f2) [.int .u32 ((bE bL gP).f2)]from rfl) (gZ.none _ _)))));intro v234 w12 YL hb Gw mq;clear Gw mq;(rw[<-acw.out]at YL);have dB:=Y1 (Kd.eu (by exact(Kd.iA (Kd.vJ (p:=⟨nG,2,none⟩) (Kd.vJ (p:=⟨nG,1,none⟩) (Kd.vJ (p:=⟨nG,0,none⟩) (Kd.Jb pK.out jN.out (by decide)) (fun _ hk=>hk.2) (.int .u32 ((bE bL gP).f0))) (fun _ hk=>hk.2) (.int .u32 ((bE bL gP).f1))) (fun _ hk=>hk.2) (.int .u32 ((bE bL gP).f2))) (fun _ h_=>h_.1))) hb);have dN:=Y1 (Kd.jG YL (aC (by repeat ((with_reducible first|exact HB.out|refine jv ?_ Xd.out)))));have fD:=Y1 (bT (g:=kr) (o:=.cells #[.int .i64 aT,.slice (some yG) bL.length iZ] 27 (0,0)) (by refine BO ?_ qQ.out _;refine BO ?_ qQ.out _;refine BO ?_ qQ.out _;exact fE.out) hb);have iC:=Y1 (bT (g:=nG) (o:=.cells #[.int .u32 ((bE bL gP).f0),.int .u32 ((bE bL gP).f1),.int .u32 ((bE bL gP).f2)] 46 (0,0)) (by refine iW (cs:= #[.int .u32 ((bE bL gP).f0),.int .u32 ((bE bL gP).f1),.int .u32 0]) ?_ 2 _ rfl;refine iW (cs:= #[.int .u32 ((bE bL gP).f0),.int .u32 0,.int .u32 0]) ?_ 1 _ rfl;refine iW (cs:= #[.int .u32 0,.int .u32 0,.int .u32 0]) ?_ 0 _ rfl;exact jN.out) hb);have JY:=Y1 (aU (by repeat ((with_reducible first|exact HB.out|refine jv ?_ Xd.out))) hb);clear pK;clear fE;clear jN;clear HB;have pK:=dB;have acy:=dN;have fE:=fD;have jN:=iC;have HB:=JY;clear dB dN fD iC JY;clear hb YL))
     go_loopg [3,7] k1 (fun kq v3 v7 w'=>∃(ig:List Int) (mG:Int),v7=.int .i64 mG∧aG (aA.l1 kq ig gP zM mG aT bL=some r)∧aG (kq<=k1)∧aG (Kd.R (Kd.int .u8) 5 w' w.heap.size (fun _=>True) v3 ig)∧aG (Kd.R (Kd.int .u32) 22 w' w.heap.size (fun _=>True) v234 zM)∧aG (w'.heap[kr]? =some (.cells #[.int .i64 aT,(.slice (some yG) bL.length iZ)] 27 (0,0)))∧aG (w'.heap[nG]? =some (.cells #[.int .u32 ((bE bL gP).f0),.int .u32 ((bE bL gP).f1),.int .u32 ((bE bL gP).f2)] 46 (0,0)))∧aG (cH w.heap.size w w'))
     case atStart=>exact⟨(kJ),(0),(by rfl),H',⟨bz _⟩,⟨by exact pK.out⟩,⟨by exact acy.out⟩,⟨by exact fE.out⟩,⟨by exact jN.out⟩,⟨by repeat ((with_reducible exact HB.out))⟩⟩
     case round=>
      clear H'
      try clear pJ
      try clear GV
      try clear Cx
      try clear Cy
      try clear Ul
      try clear G9
      try clear G_
      try clear Cz
      try clear CB
      try clear Um
      try clear He
      try clear Hf
      try clear w_
      try clear xg
      try clear xq
      try clear Uj
      try clear Uk
      obtain⟨ig,mG,rfl,HA,El,pK,mD,fE,jN,HB⟩:=hrel;cases gk with
      |zero=>exact absurd HA.out (by simp[aA.l1])
      |succ k2=>
       have H:=HA.out;clear HA;simp only[aA.l1]at H;by_cases c14:mG<3
       .rw[if_pos c14]at H;have rJ:decide (mG<3)=true:=decide_eq_true c14;clear c14;have H':=Y1 H;clear H
        go_wp2
        go_loopg [3,8] k2 (fun kq v3 v8 w'=>∃(Hy:List Int) (ED:Int),v8=.int .i64 ED∧aG (aA.l2 kq Hy gP zM mG ED aT bL=some r)∧aG (kq<=k2)∧aG (Kd.R (Kd.int .u8) 5 w' w.heap.size (fun _=>True) v3 Hy)∧aG (Kd.R (Kd.int .u32) 22 w' w.heap.size (fun _=>True) v234 zM)∧aG (w'.heap[kr]? =some (.cells #[.int .i64 aT,(.slice (some yG) bL.length iZ)] 27 (0,0)))∧aG (w'.heap[nG]? =some (.cells #[.int .u32 ((bE bL gP).f0),.int .u32 ((bE bL gP).f1),.int .u32 ((bE bL gP).f2)] 46 (0,0)))∧aG (cH w.heap.size w w'))
        case atStart=>exact⟨(ig),(0),(by rfl),H',⟨bz _⟩,⟨by exact pK.out⟩,⟨by exact mD.out⟩,⟨by exact fE.out⟩,⟨by exact jN.out⟩,⟨by repeat ((with_reducible exact HB.out))⟩⟩
        case round=>
         clear H'
         try clear rJ
         obtain⟨Hy,ED,rfl,HA,R5,pK,mD,fE,jN,HB⟩:=hrel;cases gk with
         |zero=>exact absurd HA.out (by simp[aA.l2])
         |succ k3=>
          have H:=HA.out;clear HA;simp only[aA.l2]at H;by_cases c15:ED<4
          .rw[if_pos c15]at H;have Jt:decide (ED<4)=true:=decide_eq_true c15;clear c15;by_cases c16:0<=mG
           .rw[if_pos c16]at H;have ahb:decide (0<=mG)=true:=decide_eq_true c16;clear c16;by_cases c17:mG<(zM.length:Int)
            .rw[if_pos c17]at H;have ahc:decide (mG<(zM.length:Int))=true:=decide_eq_true c17;clear c17;obtain⟨Lj,acz⟩:∃j_:Int,(aa.wrap (wrap64 (8*ED)))=j_:=⟨_,rfl⟩
             rw[acz]at H;by_cases c19:0<=(Lj)
             .rw[if_pos c19]at H;have WR:=eq_true c19;have ahd:decide (0<=(Lj))=true:=decide_eq_true c19;clear c19;obtain⟨P8,P9⟩:∃j_:Int,(shr .u32 (rd zM mG) (Lj))=j_:=⟨_,rfl⟩
              rw[P9]at H;have afw:((rd zM mG)/2^min (Lj).toNat 32)=P8:=P9;have afx:(Lj)<=32->((rd zM mG)/2^(Lj).toNat)=P8:=Ae P9;by_cases c21:Hy.length<140737488355328
              .rw[if_pos c21]at H;have acA:=Y1 c21;clear c21;obtain⟨afy,P_⟩:∃y_:List Int,y_=(Hy++[(P8)%256]):=⟨_,rfl⟩
               rw[<-P_]at H;have acB:=Y1 P_;clear P_;have H':=Y1 H;clear H;obtain⟨ahM,ahN,afz⟩:=Kd.dV mD.out;subst afz;have YM:0<=(mG:Int):=of_decide_eq_true (by(with_reducible assumption));have YN:mG<(zM.length:Int):=of_decide_eq_true (by(with_reducible assumption));obtain⟨ahe,afA,aew⟩:=Kd.NG (Kd.gV mD.out).2.2 mG YM YN;cases afA;replace YM:=eq_true YM;replace YN:=eq_true YN
               go_wp2_with (first|((with_reducible refine fF (b:=.append) (xs:= #[.tmp 40,.tmp 50]) rfl ?_);at_builtin;refine Kd.tq (Kd.int .u8) (w0:=w) w.heap.size rfl (.tmp 40) (.tmp 50) 40 5 (.int .u8 0) 1 rfl underlying40 info5 rfl (by decide) (by omega) u3 Hy ((P8)%256) [.int .u8 ((P8)%256)] (fun _=>True) (fun _=>False) rfl rfl ?aP (fun _ hk=>hk.elim) ?aF ?aO ?aB ?aS ?aL ?_;(case aP=>exact rfl);(case aB=>exact(by repeat ((with_reducible exact HB.out))));(case aF=>exact(fun _ _=>trivial));(case aO=>exact(by exact pK.out));(case aS=>exact(aC (by repeat ((with_reducible exact HB.out)))));(case aL=>have:=acA.out;omega);intro ahO w23 ho hb hg hat;rw[<-acB.out]at ho;have dB:=Y1 (Kd.SA (by exact mD.out) (Kd.jR (by exact pK.out)) (by decide) hg);have dN:=Y1 (qE (g:=kr) (o:=.cells #[.int .i64 aT,.slice (some yG) bL.length iZ] 27 (0,0)) (by exact fE.out) hg (Kd.KG pK.out fE.out (by decide)));have fD:=Y1 (qE (g:=nG) (o:=.cells #[.int .u32 ((bE bL gP).f0),.int .u32 ((bE bL gP).f1),.int .u32 ((bE bL gP).f2)] 46 (0,0)) (by exact jN.out) hg (Kd.KG pK.out jN.out (by decide)));have iC:=Y1 (hb);have JY:=Y1 (ho);clear mD;clear fE;clear jN;clear HB;clear pK;have mD:=dB;have fE:=dN;have jN:=fD;have HB:=iC;have acC:=JY;clear dB dN fD iC JY;clear ho hb hg hat))
               go_roundg k3
               case measure=>have:=tX.out;have:=El.out;have:=R5.out;omega
               case rel=>exact⟨(afy),(wrap64 (ED+1)),(by rfl),H',⟨by have:=tX.out;have:=El.out;have:=R5.out;omega⟩,⟨by exact acC.out⟩,⟨by exact mD.out⟩,⟨by exact fE.out⟩,⟨by exact jN.out⟩,⟨by repeat ((with_reducible exact HB.out))⟩⟩
              .rw[if_neg c21]at H;exact absurd H (by simp)
             .rw[if_neg c19]at H;exact absurd H (by simp)
            .rw[if_neg c17]at H;exact absurd H (by simp)
           .rw[if_neg c16]at H;exact absurd H (by simp)
          .rw[if_neg c15]at H;have Jt:decide (ED<4)=false:=decide_eq_false c15;clear c15;have H':=Y1 H;clear H
           go_wp2
           go_roundg k3
           case measure=>have:=tX.out;have:=El.out;have:=R5.out;omega
           case rel=>exact⟨(Hy),(wrap64 (mG+1)),(by rfl),H',⟨by have:=tX.out;have:=El.out;have:=R5.out;omega⟩,⟨by exact pK.out⟩,⟨by exact mD.out⟩,⟨by exact fE.out⟩,⟨by exact jN.out⟩,⟨by repeat ((with_reducible exact HB.out))⟩⟩
       .rw[if_neg c14]at H;have rJ:decide (mG<3)=false:=decide_eq_false c14;clear c14;have H':=Y1 H;clear H
        go_wp2
        go_roundg k2
        case measure=>have:=tX.out;have:=El.out;omega
        case rel=>exact⟨(ig),(wrap64 (gP+1)),(by rfl),H',⟨by have:=tX.out;have:=El.out;omega⟩,⟨by exact pK.out⟩,⟨by exact fE.out⟩,⟨by repeat ((with_reducible exact HB.out))⟩⟩
    .rw[if_neg c7]at H;exact absurd H (by simp)
   .rw[if_neg c6]at H;have pJ:decide (gP<(bL.length:Int))=false:=decide_eq_false c6;clear c6;obtain rfl:=af H;have Tt:wr.cell? ⟨kr,0,none⟩=some (.int .i64 aT):=(ay fE.out 0).trans rfl;have Tv:wr.cell? ⟨kr,1,none⟩=some (.slice jX bL.length iZ):=(ay fE.out 1).trans rfl;have Tw:=aj fE.out 0;have Tx:=aj fE.out 1
    go_wp2
    go_ret;exact⟨_,by rfl,by exact pK.out,by repeat ((with_reducible exact HB.out))⟩
def dK.f(aT:Int)(bY:Int)(a1:Int):Option (Bool):=if aT<1 then(some false)else(if aT>5 then(some false)else(if a1<0 then(some false)else(if a1>1048576 then(some false)else(if aT=1 then(some (decide ((wrap64 (bY))<a1)))else(if aT=3 then(some (decide ((wrap64 (bY))<a1)))else(some true))))))
theorem dK.calls(aT:Int)(bY:Int)(a1:Int)(r:Bool)(w:aE)(h:dK.f aT bY a1=some r):
 cF ab 11 #[.agg #[.int .i64 aT,.int .u32 bY],.int .i64 a1] w fun e w'=>e=.returned (.bool r)∧cH w.heap.size w w':=by
 have Tq:=cM;have HB:=Y1 (ar w.heap.size w);have H:=h;clear h;unfold dK.f at H;by_cases c3:aT<1
 .rw[if_pos c3]at H;have zI:decide (aT<1)=true:=decide_eq_true c3;clear c3;obtain rfl:=af H;go_enter cx,cm
  go_wp2_with (first|((with_reducible refine bP (N:=2) rfl ?_);refine bU ?hg (N:=2) ?hd (cs:= #[.int .i64 aT,.int .u32 bY]) (t:=24) ?hr ?_;(case hd=>rfl);(case hg=>rfl);(case hr=>(go_simp;done));intro fP hg w4 dz hb;have dB:=Y1 (aU (by repeat ((with_reducible exact HB.out))) hb);have dN:=Y1 (dz);have fD:=Y1 ((by rw[hg];exact(aC (by repeat ((with_reducible exact HB.out)))):w.heap.size<=fP));have iC:=Y1 ((by rw[hg];exact(aC (by repeat ((with_reducible exact HB.out)))):w.heap.size<=fP));clear HB;have HB:=dB;have fQ:=dN;have Ba:=fD;have Bb:=iC;clear dB dN fD iC;clear hb dz hg;have yh:w4.cell? ⟨fP,0,none⟩=some (.int .i64 aT):=(ay fQ.out 0).trans rfl;have yj:w4.cell? ⟨fP,1,none⟩=some (.int .u32 bY):=(ay fQ.out 1).trans rfl;have yt:=aj fQ.out 0;have yu:=aj fQ.out 1))
  go_ret;exact⟨by rfl,by repeat ((with_reducible exact HB.out))⟩
 .rw[if_neg c3]at H;have zI:decide (aT<1)=false:=decide_eq_false c3;clear c3;by_cases c6:aT>5
  .rw[if_pos c6]at H;have pJ:decide (5<aT)=true:=decide_eq_true c6;clear c6;obtain rfl:=af H;go_enter cx,cm
   go_wp2_with (first|((with_reducible refine bP (N:=2) rfl ?_);refine bU ?hg (N:=2) ?hd (cs:= #[.int .i64 aT,.int .u32 bY]) (t:=24) ?hr ?_;(case hd=>rfl);(case hg=>rfl);(case hr=>(go_simp;done));intro fP hg w7 dz hb;have dB:=Y1 (aU (by repeat ((with_reducible exact HB.out))) hb);have dN:=Y1 (dz);have fD:=Y1 ((by rw[hg];exact(aC (by repeat ((with_reducible exact HB.out)))):w.heap.size<=fP));have iC:=Y1 ((by rw[hg];exact(aC (by repeat ((with_reducible exact HB.out)))):w.heap.size<=fP));clear HB;have HB:=dB;have fQ:=dN;have Ba:=fD;have Bb:=iC;clear dB dN fD iC;clear hb dz hg;have G9:w7.cell? ⟨fP,0,none⟩=some (.int .i64 aT):=(ay fQ.out 0).trans rfl;have G_:w7.cell? ⟨fP,1,none⟩=some (.int .u32 bY):=(ay fQ.out 1).trans rfl;have He:=aj fQ.out 0;have Hf:=aj fQ.out 1))
   go_ret;exact⟨by rfl,by repeat ((with_reducible exact HB.out))⟩
  .rw[if_neg c6]at H;have pJ:decide (5<aT)=false:=decide_eq_false c6;clear c6;by_cases c9:a1<0
   .rw[if_pos c9]at H;have PO:decide (a1<0)=true:=decide_eq_true c9;clear c9;obtain rfl:=af H;go_enter cx,cm
    go_wp2_with (first|((with_reducible refine bP (N:=2) rfl ?_);refine bU ?hg (N:=2) ?hd (cs:= #[.int .i64 aT,.int .u32 bY]) (t:=24) ?hr ?_;(case hd=>rfl);(case hg=>rfl);(case hr=>(go_simp;done));intro fP hg w10 dz hb;have dB:=Y1 (aU (by repeat ((with_reducible exact HB.out))) hb);have dN:=Y1 (dz);have fD:=Y1 ((by rw[hg];exact(aC (by repeat ((with_reducible exact HB.out)))):w.heap.size<=fP));have iC:=Y1 ((by rw[hg];exact(aC (by repeat ((with_reducible exact HB.out)))):w.heap.size<=fP));clear HB;have HB:=dB;have fQ:=dN;have Ba:=fD;have Bb:=iC;clear dB dN fD iC;clear hb dz hg;have Cx:w10.cell? ⟨fP,0,none⟩=some (.int .i64 aT):=(ay fQ.out 0).trans rfl;have Cy:w10.cell? ⟨fP,1,none⟩=some (.int .u32 bY):=(ay fQ.out 1).trans rfl;have Cz:=aj fQ.out 0;have CB:=aj fQ.out 1))
    go_ret;exact⟨by rfl,by repeat ((with_reducible exact HB.out))⟩
   .rw[if_neg c9]at H;have PO:decide (a1<0)=false:=decide_eq_false c9;clear c9;by_cases c12:a1>1048576
    .rw[if_pos c12]at H;have Et:decide (1048576<a1)=true:=decide_eq_true c12;clear c12;obtain rfl:=af H;go_enter cx,cm
     go_wp2_with (first|((with_reducible refine bP (N:=2) rfl ?_);refine bU ?hg (N:=2) ?hd (cs:= #[.int .i64 aT,.int .u32 bY]) (t:=24) ?hr ?_;(case hd=>rfl);(case hg=>rfl);(case hr=>(go_simp;done));intro fP hg w13 dz hb;have dB:=Y1 (aU (by repeat ((with_reducible exact HB.out))) hb);have dN:=Y1 (dz);have fD:=Y1 ((by rw[hg];exact(aC (by repeat ((with_reducible exact HB.out)))):w.heap.size<=fP));have iC:=Y1 ((by rw[hg];exact(aC (by repeat ((with_reducible exact HB.out)))):w.heap.size<=fP));clear HB;have HB:=dB;have fQ:=dN;have Ba:=fD;have Bb:=iC;clear dB dN fD iC;clear hb dz hg;have TV:w13.cell? ⟨fP,0,none⟩=some (.int .i64 aT):=(ay fQ.out 0).trans rfl;have TW:w13.cell? ⟨fP,1,none⟩=some (.int .u32 bY):=(ay fQ.out 1).trans rfl;have TY:=aj fQ.out 0;have T9:=aj fQ.out 1))
     go_ret;exact⟨by rfl,by repeat ((with_reducible exact HB.out))⟩
    .rw[if_neg c12]at H;have Et:decide (1048576<a1)=false:=decide_eq_false c12;clear c12;by_cases c15:aT=1
     .rw[if_pos c15]at H;have Jt:(aT==1)=true:=beq_iff_eq.mpr c15;have acD:(aT !=1)=false:=bne_eq_false_iff_eq.mpr c15;clear c15;obtain rfl:=af H;go_enter cx,cm
      go_wp2_with (first|((with_reducible refine bP (N:=2) rfl ?_);refine bU ?hg (N:=2) ?hd (cs:= #[.int .i64 aT,.int .u32 bY]) (t:=24) ?hr ?_;(case hd=>rfl);(case hg=>rfl);(case hr=>(go_simp;done));intro fP hg w16 dz hb;have dB:=Y1 (aU (by repeat ((with_reducible exact HB.out))) hb);have dN:=Y1 (dz);have fD:=Y1 ((by rw[hg];exact(aC (by repeat ((with_reducible exact HB.out)))):w.heap.size<=fP));have iC:=Y1 ((by rw[hg];exact(aC (by repeat ((with_reducible exact HB.out)))):w.heap.size<=fP));clear HB;have HB:=dB;have fQ:=dN;have Ba:=fD;have Bb:=iC;clear dB dN fD iC;clear hb dz hg;have TR:w16.cell? ⟨fP,0,none⟩=some (.int .i64 aT):=(ay fQ.out 0).trans rfl;have TS:w16.cell? ⟨fP,1,none⟩=some (.int .u32 bY):=(ay fQ.out 1).trans rfl;have TT:=aj fQ.out 0;have TU:=aj fQ.out 1))
      go_ret;exact⟨by rfl,by repeat ((with_reducible exact HB.out))⟩
     .rw[if_neg c15]at H;have Jt:(aT==1)=false:=beq_eq_false_iff_ne.mpr c15;have acD:(aT !=1)=true:=bne_iff_ne.mpr c15;by_cases c18:aT=3
      .rw[if_pos c18]at H;have Po:(aT==3)=true:=beq_iff_eq.mpr c18;have acE:(aT !=3)=false:=bne_eq_false_iff_eq.mpr c18;clear c18;obtain rfl:=af H;go_enter cx,cm
       go_wp2_with (first|((with_reducible refine bP (N:=2) rfl ?_);refine bU ?hg (N:=2) ?hd (cs:= #[.int .i64 aT,.int .u32 bY]) (t:=24) ?hr ?_;(case hd=>rfl);(case hg=>rfl);(case hr=>(go_simp;done));intro fP hg w19 dz hb;have dB:=Y1 (aU (by repeat ((with_reducible exact HB.out))) hb);have dN:=Y1 (dz);have fD:=Y1 ((by rw[hg];exact(aC (by repeat ((with_reducible exact HB.out)))):w.heap.size<=fP));have iC:=Y1 ((by rw[hg];exact(aC (by repeat ((with_reducible exact HB.out)))):w.heap.size<=fP));clear HB;have HB:=dB;have fQ:=dN;have Ba:=fD;have Bb:=iC;clear dB dN fD iC;clear hb dz hg;have aex:w19.cell? ⟨fP,0,none⟩=some (.int .i64 aT):=(ay fQ.out 0).trans rfl;have aey:w19.cell? ⟨fP,1,none⟩=some (.int .u32 bY):=(ay fQ.out 1).trans rfl;have aez:=aj fQ.out 0;have aeA:=aj fQ.out 1))
       go_ret;exact⟨by rfl,by repeat ((with_reducible exact HB.out))⟩
      .rw[if_neg c18]at H;have Po:(aT==3)=false:=beq_eq_false_iff_ne.mpr c18;have acE:(aT !=3)=true:=bne_iff_ne.mpr c18;obtain rfl:=af H;go_enter cx,cm
       go_wp2_with (first|((with_reducible refine bP (N:=2) rfl ?_);refine bU ?hg (N:=2) ?hd (cs:= #[.int .i64 aT,.int .u32 bY]) (t:=24) ?hr ?_;(case hd=>rfl);(case hg=>rfl);(case hr=>(go_simp;done));intro fP hg w21 dz hb;have dB:=Y1 (aU (by repeat ((with_reducible exact HB.out))) hb);have dN:=Y1 (dz);have fD:=Y1 ((by rw[hg];exact(aC (by repeat ((with_reducible exact HB.out)))):w.heap.size<=fP));have iC:=Y1 ((by rw[hg];exact(aC (by repeat ((with_reducible exact HB.out)))):w.heap.size<=fP));clear HB;have HB:=dB;have fQ:=dN;have Ba:=fD;have Bb:=iC;clear dB dN fD iC;clear hb dz hg;have aeB:w21.cell? ⟨fP,0,none⟩=some (.int .i64 aT):=(ay fQ.out 0).trans rfl;have aeC:w21.cell? ⟨fP,1,none⟩=some (.int .u32 bY):=(ay fQ.out 1).trans rfl;have aeD:=aj fQ.out 0;have aeE:=aj fQ.out 1))
       go_ret;exact⟨by rfl,by repeat ((with_reducible exact HB.out))⟩
def kM.f(aT:Int)(bY:Int)(jO:Int):Option (Int×Int):=some (cD .or .u64 (aa.wrap ((aa.wrap (aT))*4294967296)) (aa.wrap (bY)),aa.wrap (jO))
theorem kM.calls(aT:Int)(bY:Int)(jO:Int)(r1:Int)(r2:Int)(w:aE)(h:kM.f aT bY jO=some (r1,r2)):
 cF ab 206 #[.agg #[.int .u32 aT,.int .u32 bY,.int .u32 jO]] w fun e w'=>e=.returned (.agg #[.int .u64 r1,.int .u64 r2])∧cH w.heap.size w w':=by
 have Yw:=bk;have acF:=cI;have HB:=Y1 (ar w.heap.size w);have H:=h;clear h;unfold kM.f at H;simp only[ae,al]at H;obtain⟨rfl,rfl⟩:=H;go_enter func206,ntmps206
 go_wp2_with (first|((with_reducible refine bP (N:=1) rfl ?_);refine bU ?hg (N:=1) ?hd (cs:= #[.int .u32 aT,.int .u32 bY,.int .u32 jO]) (t:=46) ?hr ?_;(case hd=>rfl);(case hg=>rfl);(case hr=>(go_simp;done));intro rO hg w2 dz hb;have dB:=Y1 (aU (by repeat ((with_reducible exact HB.out))) hb);have dN:=Y1 (dz);have fD:=Y1 ((by rw[hg];exact(aC (by repeat ((with_reducible exact HB.out)))):w.heap.size<=rO));have iC:=Y1 ((by rw[hg];exact(aC (by repeat ((with_reducible exact HB.out)))):w.heap.size<=rO));clear HB;have HB:=dB;have qp:=dN;have ahf:=fD;have ahg:=iC;clear dB dN fD iC;clear hb dz hg)|((with_reducible refine bP (N:=2) rfl ?_);refine bU ?hg (N:=2) ?hd (cs:= #[.int .u64 0,.int .u64 0]) (t:=283) ?hr ?_;(case hd=>rfl);(case hg=>rfl);(case hr=>(go_simp;done));intro yH hg w3 dz hb;have dB:=Y1 (bT (g:=rO) (o:=.cells #[.int .u32 aT,.int .u32 bY,.int .u32 jO] 46 (0,0)) (by exact qp.out) hb);have dN:=Y1 (aU (by repeat ((with_reducible exact HB.out))) hb);have fD:=Y1 (dz);have iC:=Y1 ((by rw[hg];exact(aC (by repeat ((with_reducible exact HB.out)))):w.heap.size<=yH));have JY:=Y1 ((by rw[hg];exact(aC (by repeat ((with_reducible exact HB.out)))):w.heap.size<=yH));have Xb:=Y1 ((by rw[hg];exact dv (jd (g:=rO) (o:=.cells #[.int .u32 aT,.int .u32 bY,.int .u32 jO] 46 (0,0)) (by exact qp.out)):rO≠yH));have Xc:=Y1 ((by rw[hg];exact dy (jd (g:=rO) (o:=.cells #[.int .u32 aT,.int .u32 bY,.int .u32 jO] 46 (0,0)) (by exact qp.out)):yH≠rO));clear qp;clear HB;have qp:=dB;have HB:=dN;have EF:=fD;have ahh:=iC;have acG:=JY;have Ll:=Xb;have Lm:=Xc;clear dB dN fD iC JY Xb Xc;clear hb dz hg;have afB:=Ll.out;have afC:=Lm.out;have yh:w3.cell? ⟨rO,0,none⟩=some (.int .u32 aT):=(ay qp.out 0).trans rfl;have yj:w3.cell? ⟨rO,1,none⟩=some (.int .u32 bY):=(ay qp.out 1).trans rfl;have Pp:w3.cell? ⟨rO,2,none⟩=some (.int .u32 jO):=(ay qp.out 2).trans rfl;have yt:=aj qp.out 0;have yu:=aj qp.out 1;have Pq:=aj qp.out 2;have YO:w3.cell? ⟨yH,0,none⟩=some (.int .u64 0):=(ay EF.out 0).trans rfl;have YP:w3.cell? ⟨yH,1,none⟩=some (.int .u64 0):=(ay EF.out 1).trans rfl;have YQ:=aj EF.out 0;have YR:=aj EF.out 1))
 refine bodyPost_ret (results_cell_row rfl _ _ yH 283 #[.int .u64 (cD .or .u64 (aa.wrap ((aa.wrap (aT))*4294967296)) (aa.wrap (bY))),.int .u64 (aa.wrap (jO))] (0,0) _ rfl (by refine iW (cs:= #[.int .u64 (cD .or .u64 (aa.wrap ((aa.wrap (aT))*4294967296)) (aa.wrap (bY))),.int .u64 0]) ?_ 1 _ rfl;refine iW (cs:= #[.int .u64 0,.int .u64 0]) ?_ 0 _ rfl;exact EF.out) cI rfl (by kernel_rfl)) rfl ?_;exact⟨by rfl,by repeat ((with_reducible first|exact HB.out|refine jv ?_ acG.out))⟩
def iJ.f(aT:Int)(bY:Int):Option (Int×Int×Int):=some ((aT/4294967296)%4294967296,(aT)%4294967296,(bY)%4294967296)
theorem iJ.calls(aT:Int)(bY:Int)(r1:Int)(r2:Int)(r3:Int)(w:aE)(h:iJ.f aT bY=some (r1,r2,r3)):
 cF ab 277 #[.agg #[.int .u64 aT,.int .u64 bY]] w fun e w'=>e=.returned (.agg #[.int .u32 r1,.int .u32 r2,.int .u32 r3])∧cH w.heap.size w w':=by
 have acF:=cI;have Yw:=bk;have HB:=Y1 (ar w.heap.size w);have H:=h;clear h;unfold iJ.f at H;simp only[ae,al]at H;obtain⟨rfl,rfl,rfl⟩:=H;go_enter func277,ntmps277
 go_wp2_with (first|((with_reducible refine bP (N:=1) rfl ?_);refine bU ?hg (N:=1) ?hd (cs:= #[.int .u64 aT,.int .u64 bY]) (t:=283) ?hr ?_;(case hd=>rfl);(case hg=>rfl);(case hr=>(go_simp;done));intro um hg w2 dz hb;have dB:=Y1 (aU (by repeat ((with_reducible exact HB.out))) hb);have dN:=Y1 (dz);have fD:=Y1 ((by rw[hg];exact(aC (by repeat ((with_reducible exact HB.out)))):w.heap.size<=um));have iC:=Y1 ((by rw[hg];exact(aC (by repeat ((with_reducible exact HB.out)))):w.heap.size<=um));clear HB;have HB:=dB;have uq:=dN;have ahi:=fD;have ahj:=iC;clear dB dN fD iC;clear hb dz hg)|((with_reducible refine bP (N:=2) rfl ?_);refine bU ?hg (N:=2) ?hd (cs:= #[.int .u32 0,.int .u32 0,.int .u32 0]) (t:=46) ?hr ?_;(case hd=>rfl);(case hg=>rfl);(case hr=>(go_simp;done));intro vY hg w3 dz hb;have dB:=Y1 (bT (g:=um) (o:=.cells #[.int .u64 aT,.int .u64 bY] 283 (0,0)) (by exact uq.out) hb);have dN:=Y1 (aU (by repeat ((with_reducible exact HB.out))) hb);have fD:=Y1 (dz);have iC:=Y1 ((by rw[hg];exact(aC (by repeat ((with_reducible exact HB.out)))):w.heap.size<=vY));have JY:=Y1 ((by rw[hg];exact(aC (by repeat ((with_reducible exact HB.out)))):w.heap.size<=vY));have Xb:=Y1 ((by rw[hg];exact dv (jd (g:=um) (o:=.cells #[.int .u64 aT,.int .u64 bY] 283 (0,0)) (by exact uq.out)):um≠vY));have Xc:=Y1 ((by rw[hg];exact dy (jd (g:=um) (o:=.cells #[.int .u64 aT,.int .u64 bY] 283 (0,0)) (by exact uq.out)):vY≠um));clear uq;clear HB;have uq:=dB;have HB:=dN;have yI:=fD;have ahk:=iC;have acH:=JY;have Lp:=Xb;have Lr:=Xc;clear dB dN fD iC JY Xb Xc;clear hb dz hg;have afB:=Lp.out;have afC:=Lr.out;have yh:w3.cell? ⟨um,0,none⟩=some (.int .u64 aT):=(ay uq.out 0).trans rfl;have yj:w3.cell? ⟨um,1,none⟩=some (.int .u64 bY):=(ay uq.out 1).trans rfl;have yt:=aj uq.out 0;have yu:=aj uq.out 1;have YO:w3.cell? ⟨vY,0,none⟩=some (.int .u32 0):=(ay yI.out 0).trans rfl;have YP:w3.cell? ⟨vY,1,none⟩=some (.int .u32 0):=(ay yI.out 1).trans rfl;have afD:w3.cell? ⟨vY,2,none⟩=some (.int .u32 0):=(ay yI.out 2).trans rfl;have YQ:=aj yI.out 0;have YR:=aj yI.out 1;have afE:=aj yI.out 2))
 refine bodyPost_ret (results_cell_row rfl _ _ vY 46 #[.int .u32 ((aT/4294967296)%4294967296),.int .u32 ((aT)%4294967296),.int .u32 ((bY)%4294967296)] (0,0) _ rfl (by refine iW (cs:= #[.int .u32 ((aT/4294967296)%4294967296),.int .u32 ((aT)%4294967296),.int .u32 0]) ?_ 2 _ rfl;refine iW (cs:= #[.int .u32 ((aT/4294967296)%4294967296),.int .u32 0,.int .u32 0]) ?_ 1 _ rfl;refine iW (cs:= #[.int .u32 0,.int .u32 0,.int .u32 0]) ?_ 0 _ rfl;exact yI.out) bk rfl (by kernel_rfl)) rfl ?_;exact⟨by rfl,by repeat ((with_reducible first|exact HB.out|refine jv ?_ acH.out))⟩
end
end Go.Proofs.YtlhhcnknclnlaaaGreatDoor.iH
namespace Go.Proofs.YtlhhcnknclnlaaaGreatDoor.Top
open Go Go.WideShapes Go.RowKit Go.Proofs.ah.aN
variable {m q:Nat}{w:aE}
theorem eU.keys{k:Nat}{f:Lit->Option eo}(h:eU w k m q f)(K:et ab k)(hself:∀l,dj ab k l->l.sameKey l=true):
 ∃(D:DataW eo) (l:List Lit),w.ownsMap ab k RV m q D∧Maps.IsMap D∧(∀kl z,D.atKey kl z=match f kl with|some v=>.held v|none=>z)∧Maps.size D=l.length∧l.Nodup∧∀x,x∈l↔f x≠none:=by
 obtain⟨D,h1,h2,h3⟩:=h;obtain⟨es,rfl,hp,hk⟩:=h1.entries K;have hks:∀p∈es,dj ab k p.1:=by
  obtain⟨es',clock,hb,F,hs,hD⟩:=h1;intro p hp';injection hD with hD;rw[hD]at hp';exact Maps.fit_keys F p ((sorted_perm _).mem_iff.1 hp')
 refine⟨.map es,es.map (·.1),h1,h2,h3,by simp[Maps.size_eq],cz.2 hp,fun x=>?_⟩;have:=B_ h3 x;rw[Maps.has_eq]at this;constructor
 .intro hx hf;rw[hf]at this;obtain⟨p,hp',rfl⟩:=ax.1 hx;have h4:es.any (fun y=>y.1.sameKey p.1)=true:=dT.2 ⟨p,hp',hself _ (hks p hp')⟩;rw[h4]at this;cases this
 .intro hf;obtain⟨v,hv⟩:=Option.ne_none_iff_exists'.1 hf;rw[hv]at this;obtain⟨p,hp',h4⟩:=dT.1 this;exact ax.2 ⟨p,hp',Classical.byContradiction fun hne=>by rw[Maps.sameKey_ne hne]at h4;cases h4⟩
theorem Qa{α:Type}(l L:List α)(h1:l.Nodup)(h2:L.Nodup)(h:∀x,x∈l↔x∈L):l.length=L.length:=
 Nat.le_antisymm (tC l L h1 fun x hx=>(h x).1 hx) (tC L l h2 fun x hx=>(h x).2 hx)
theorem eU.len{w:aE}{k e t m q:Nat}{f:Lit->Option eo}(h:eU w k m q f)(K:et ab k)(hself:∀l,dj ab k l->l.sameKey l=true)(ht:ab.underlying t=some (.map k e))(L:List Lit)(hn:L.Nodup)(hL:∀x,x∈L↔f x≠none)(ty:eI):
 (Builtin.len_ #[t] ty #[.map (some m)]).run ab w=.ok (.int .i64 L.length) w:=by
 obtain⟨D,l,h1,h2,h3,h4,h5,h6⟩:=h.keys K hself;rw[h1.len ht ty,h4,Qa l L h5 hn fun x=>(h6 x).trans (hL x).symm]
theorem eU.clear{k e t:Nat}{f:Lit->Option eo}(h:eU w k m q f)(ht:ab.underlying t=some (.map k e))(ty:eI):
 ∃w',(Builtin.clear_ #[t] ty #[.map (some m)]).run ab w=.ok (.tuple #[]) w'∧eU w' k m 0 (fun _=>none)∧w.mapTurned w' m:=by
 obtain⟨D,⟨es,clock,hb,F,hs,hD⟩,h2,h3⟩:=h;refine⟨cA w m (.map #[] clock),?_,⟨.map [],⟨#[],clock,?_,⟨by simp,?_,by simp⟩,by simp,by simp⟩,Maps.isMap_empty,fun _ _=>rfl⟩,⟨es,clock,#[],clock,hb,rfl⟩⟩
 .simp[Builtin.clear_,run_underlying ht w,getObj,setObj,Sem.run,hb,cA,go_sem]
 .have hlt:=(cd.1 hb).1;simp[cA,hlt]
 .exact⟨by simp,by simp⟩
def pO(M:List Rc):Lit->Option eo
 | .int .u64 k=>(look M k).map fun v=>.int .u64 v
 |_=>none
def nU(M:List Rc):Prop:=(M.map (·.1)).Nodup
def pz(M:List Rc):List Lit:=M.map fun r=>.int .u64 r.1
theorem nH:et ab 36:=Maps.int_keyed bb
theorem Hz(l:Lit)(h:dj ab 36 l):l.sameKey l=true:=by
 obtain⟨v,hv⟩:=h;obtain⟨x,_,rfl,_⟩:=dt bb hv;simp[Lit.sameKey]
theorem YS(w:aE):(zeroValue 36).run ab w=.ok (.int .u64 0) w:=by kernel_rfl
theorem YT{x:Int}(h:0<=x∧x<18446744073709551616):(Lit.int .u64 x).wf=true:=by
 have h1:aa.min=0:=rfl;have h2:aa.max=18446744073709551615:=rfl;simp[Lit.wf,h1,h2];omega
variable {M:List Rc}{k k' v v0:Int}
theorem qR:look M k=none↔∀r∈M,r.1≠k:=by
 unfold look;simp
theorem qU(h:look M k=some v):(k,v)∈M:=by
 unfold look at h;obtain⟨r,h1,h2⟩:=c_.1 h;have h3:=List.find?_some h1;have h4:=List.mem_of_find?_eq_some h1;simp at h3;subst h3 h2;exact h4
theorem uw(hM:nU M){r:Rc}(h:r∈M):look M r.1=some r.2:=by
 induction M with
 |nil=>cases h
 |cons x M ih=>
  unfold nU at hM ih;rw[ao,List.nodup_cons]at hM;unfold look at ih⊢;rcases List.mem_cons.1 h with rfl|h
  .simp
  .have hne:x.1≠r.1:=fun e=>hM.1 (e▸ax.2 ⟨r,h,rfl⟩)
   rw[an (by simpa using hne)];exact ih hM.2 h
theorem qV(M:List Rc)(x:Lit):x∈pz M↔pO M x≠none:=by
 unfold pz pO;constructor
 .intro h;obtain⟨r,hr,rfl⟩:=ax.1 h;intro h0;simp only[da]at h0;exact qR.1 h0 r hr rfl
 .intro h
  split at h
  .rename_i k
   cases hk:look M k with
   |none=>rw[hk]at h;exact absurd rfl h
   |some v=>exact ax.2 ⟨_,qU hk,rfl⟩
  .exact absurd rfl h
theorem EG(h:nU M):(pz M).Nodup:=by
 unfold pz;have:(M.map (·.1)).Pairwise (· ≠ ·):=h;rw[cz]at this;exact cz.2 (this.imp fun h e=>h (by injection e))
theorem EH:pO []=fun _=>none:=by
 funext x
 unfold pO look
 split<;>rfl
def sF(M:List Rc)(k v:Int):List Rc:=M.map fun r=>if r.1=k then(k,v)else r
theorem Bc(M:List Rc)(k v:Int):(sF M k v).map (·.1)=M.map (·.1):=by
 unfold sF;rw[List.map_map];refine List.map_congr_left fun r _=>?_
 simp only[Function.comp]
 split
 .subst_vars;rfl
 .rfl
theorem qw(h:look M k=some v0):look (sF M k v) k=some v:=by
 induction M with
 |nil=>cases h
 |cons r M ih=>
  unfold look sF at ih⊢;unfold look at h;rw[ao];by_cases e:r.1=k
  .subst e;simp
  .rw[if_neg e,an (by simpa using e)];exact ih (by rwa [an (by simpa using e)]at h)
theorem pE(h:k'≠k):look (sF M k v) k'=look M k':=by
 induction M with
 |nil=>rfl
 |cons r M ih=>
  unfold look sF at ih⊢;rw[ao];by_cases e:r.1=k
  .rw[if_pos e,an (by simpa using fun e=>h e.symm),an (by simp;omega)];exact ih
  .rw[if_neg e];by_cases e':r.1=k'
   .rw[dd (by simpa using e'),dd (by simpa using e')]
   .rw[an (by simpa using e'),an (by simpa using e')];exact ih
theorem EI(h:look M k=none):look (M++[(k,v)]) k'=if k'=k then some v else look M k':=by
 unfold look at*;rw[List.find?_append]
 split
 .subst_vars
  simp only[da]at h;rw[h];simp
 .cases hf:M.find? fun r=>r.1==k' with
  |some r=>simp
  |none=>simp;omega
theorem Qb(h:look M k=some v0):upd (pO M) (.int .u64 k) (some (.int .u64 v))=pO (sF M k v):=by
 funext x
 by_cases e:x=.int .u64 k
 .subst e;rw[upd_same];unfold pO;simp only;rw[qw h];rfl
 .rw[aM _ _ e];unfold pO
  split
  .rw[pE fun e'=>e (by rw[e'])]
  .rfl
theorem Qc(h:look M k=none):upd (pO M) (.int .u64 k) (some (.int .u64 v))=pO (M++[(k,v)]):=by
 funext x
 by_cases e:x=.int .u64 k
 .subst e;rw[upd_same];unfold pO;simp only;rw[EI h,if_pos rfl];rfl
 .rw[aM _ _ e];unfold pO
  split
  .rename_i k'
   rw[EI h,if_neg fun e'=>e (by rw[e'])]
  .rfl
structure lD (w:aE) (m:Nat) (M:List Rc):Prop where
 at_:eU w 36 m M.length (pO M)
 mR:nU M
 wf:∀r∈M,Wf r
theorem lD.keep{S:Nat->Prop}{w w':aE}{m:Nat}{M:List Rc}(h:lD w m M)(hk:Keeps S w w')(hs:¬S m):lD w' m M:=⟨h.at_.keep hk hs,h.mR,h.wf⟩
theorem lD.lt{w:aE}{m:Nat}{M:List Rc}(h:lD w m M):m<w.heap.size:=h.at_.lt
theorem lD.made(w:aE):lD (w.alloc (.map #[] 0)) w.heap.size []:=⟨by rw[EH];exact eU.made w 36,dp,fun _ h=>by cases h⟩
theorem lD.look{w:aE}{m:Nat}{M:List Rc}(h:lD w m M){k:Int}(hk:0<=k∧k<18446744073709551616):
 (Instr.lookup 314 (.map (some m)) (.int .u64 k) true).run ab w=.ok (.tuple #[.int .u64 ((Top.look M k).getD 0),.bool (Top.look M k).isSome]) w:=by
 rw[h.at_.look_ok nH a_ (YS w) (cU bb (YT hk))];unfold pO;dsimp only;cases Top.look M k<;>rfl
theorem lD.len{w:aE}{m:Nat}{M:List Rc}(h:lD w m M)(ty:eI):(Builtin.len_ #[314] ty #[.map (some m)]).run ab w=.ok (.int .i64 M.length) w:=by
 rw[h.at_.len nH Hz a_ (pz M) (EG h.mR) (qV M) ty];simp[pz]
theorem lD.clear{w:aE}{m:Nat}{M:List Rc}(h:lD w m M)(ty:eI):∃w',(Builtin.clear_ #[314] ty #[.map (some m)]).run ab w=.ok (.tuple #[]) w'∧lD w' m []∧w.mapTurned w' m:=by
 obtain⟨w',h1,h2,h3⟩:=h.at_.clear a_ ty;exact⟨w',h1,⟨by rw[EH];exact h2,dp,fun _ h=>by cases h⟩,h3⟩
theorem lD.old(h:lD w m M)(hM:M.length<1000000)(hk:Wf (k,v))(h0:Top.look M k=some v0):
 ∃w',(Instr.mapUpdate 314 (.map (some m)) (.int .u64 k) (.int .u64 v)).run ab w=.ok () w'∧lD w' m (sF M k v)∧w.mapTurned w' m:=by
 obtain⟨w',h1,h2,h3⟩:=h.at_.store nH a_ (by unfold maxLen;omega) (cU bb (YT hk.1)) (by trivial) (.int .u64 v);rw[Qb h0]at h2;have hn:nU (sF M k v):=by unfold nU;rw[Bc];exact h.mR
 refine⟨w',h1,⟨?_,hn,fun r hr=>?_⟩,h3⟩
 .have:=h2.tight nH Hz (pz (sF M k v)) fun x hx=>(qV _ x).2 hx
  simpa[pz]using this
 .obtain⟨y,hy,rfl⟩:=ax.1 hr
  split
  .exact hk
  .exact h.wf y hy
theorem lD.new(h:lD w m M)(hM:M.length<1000000)(hk:Wf (k,v))(h0:Top.look M k=none):
 ∃w',(Instr.mapUpdate 314 (.map (some m)) (.int .u64 k) (.int .u64 v)).run ab w=.ok () w'∧lD w' m (M++[(k,v)])∧w.mapTurned w' m:=by
 obtain⟨w',h1,h2,h3⟩:=h.at_.store nH a_ (by unfold maxLen;omega) (cU bb (YT hk.1)) (by trivial) (.int .u64 v);rw[Qc h0]at h2;have hn:nU (M++[(k,v)]):=by
  unfold nU;rw[df,dC];refine⟨h.mR,by simp,fun a ha b hb e=>?_⟩;obtain⟨r,hr,rfl⟩:=ax.1 ha;simp at hb;exact qR.1 h0 r hr (e.trans hb)
 refine⟨w',h1,⟨?_,hn,fun r hr=>?_⟩,h3⟩
 .have:=h2.tight nH Hz (pz (M++[(k,v)])) fun x hx=>(qV _ x).2 hx
  simpa[pz]using this
 .rcases dg.1 hr with hr|hr
  .exact h.wf r hr
  .simp at hr;subst hr;exact hk
structure wK (w:aE) (m r:Nat) (M l:List Rc) (cnt:Nat):Prop where
 rng:∃(D:DataW eo) (q:Nat) (left:Lit->Bool),w.ranges ab 36 RV m r q D left cnt∧(∀kl z,D.atKey kl z=match pO M kl with|some v=>.held v|none=>z)∧(∀kl,left kl=true->kl∉pz l)∧∀x∈M,left (.int .u64 x.1)=false->x∈l
 sub:∀x∈l,x∈M
 mR:nU l
theorem nU.nodup(h:nU M):M.Nodup:=by
 unfold nU at h;have:(M.map (·.1)).Pairwise (· ≠ ·):=h;rw[cz]at this;exact this.imp fun h e=>h (by rw[e])
theorem lD.range{w:aE}{m:Nat}{M:List Rc}(h:lD w m M):
 ∃w' cnt,(Instr.range 314 (.map (some m))).run ab w=.ok (.pointer (some ⟨w.heap.size,0,none⟩)) w'∧wK w' m w.heap.size M [] cnt∧w.grownBy w' none∧w'.heap.size=w.heap.size+1:=by
 obtain⟨D,h1,h2,h3⟩:=h.at_;obtain⟨w',r1,r2,r3,r4⟩:=h1.range nH a_;refine⟨w',_,r1,⟨⟨D,_,_,r2,h3,fun _ _ h=>(by cases h),fun x hx hl=>?_⟩,fun _ h=>(by cases h),dp⟩,r3,r4⟩;rw[B_ h3]at hl;have:=(qV M (.int .u64 x.1)).1 (ax.2 ⟨x,hx,rfl⟩);cases hm:pO M (.int .u64 x.1)with
 |none=>exact absurd hm this
 |some v=>rw[hm]at hl;cases hl
theorem wK.next{w:aE}{m r:Nat}{M l:List Rc}{cnt:Nat}(h:wK w m r M l cnt)(hM:nU M)(ty:eI):
 (l.Perm M∧(Instr.next (.pointer (some ⟨r,0,none⟩)) false ty).run ab w=.ok (.tuple #[.bool false]) w)∨
 ∃(x:Rc) (w':aE) (cnt':Nat),(Instr.next (.pointer (some ⟨r,0,none⟩)) false ty).run ab w=.ok (.tuple #[.bool true,.int .u64 x.1,.int .u64 x.2]) w'∧wK w' m r M (l++[x]) cnt'∧cnt'<cnt∧w.grownBy w' (some r)∧w'.heap.size=w.heap.size∧
  (Instr.entry (.pointer (some ⟨r,0,none⟩))).run ab w'=.ok (.tuple #[.int .u64 x.1,.int .u64 x.2]) w':=by
 obtain⟨⟨D,q,left,hr,hD,hl,hd⟩,hs,hn⟩:=h;rcases hr.next nH ty with⟨h0,hl0,hrun⟩|⟨key,v,kl,y,w',cnt',hkey,hlk,hv,hat,hrun,hrg,hlt,hgr,hsz,hen⟩
 .refine .inl ⟨(List.perm_ext_iff_of_nodup hn.nodup hM.nodup).2 fun x=>⟨hs x,fun hx=>hd x hx (hl0 _)⟩,hrun⟩
 .obtain⟨x,rfl,rfl,hwx⟩:=dt bb hkey;simp only[RV,ae]at hv;subst hv;have hz:=(hD (.int .u64 x) (.held (.bool false))).symm.trans (hat _);cases hm:pO M (.int .u64 x)with
  |none=>
   exfalso;have h1:=(hD (.int .u64 x) (.held (.bool true))).symm.trans (hat _);rw[hm]at hz h1;simp only at hz h1;rw[<-hz]at h1;injection h1 with h1;injection h1 with h1;cases h1
  |some u=>
   rw[hm]at hz;injection hz with hz;subst hz;unfold pO at hm;simp only at hm;obtain⟨c,hc,rfl⟩:=c_.1 hm;have hmem:=qU hc;refine .inr ⟨(x,c),w',cnt',hrun,⟨⟨D,q,_,hrg,hD,fun kl hkl hin=>?_,fun z hz hlz=>?_⟩,fun z hz=>?_,?_⟩,hlt,hgr,hsz,hen⟩
   .simp only[Bool.and_eq_true,Bool.not_eq_true']at hkl;unfold pz at hin;rw[df,dg]at hin;rcases hin with hin|hin
    .exact hl kl hkl.1 hin
    .simp at hin;subst hin;simp[Lit.sameKey]at hkl
   .by_cases e:z.1=x
    .subst e;have:=uw hM hz;rw[this]at hc;injection hc with hc;subst hc;simp
    .refine List.mem_append_left _ (hd z hz ?_);simpa[Lit.sameKey,e]using hlz
   .rcases dg.1 hz with hz|hz
    .exact hs z hz
    .simp at hz;subst hz;exact hmem
   .unfold nU;rw[df,dC];refine⟨hn,by simp,fun a ha b hb e=>?_⟩;obtain⟨z,hz,rfl⟩:=ax.1 ha;simp at hb;refine hl _ hlk (ax.2 ⟨z,hz,?_⟩);rw[e,hb]
theorem wK.keep{S:Nat->Prop}{w':aE}{r cnt:Nat}{l:List Rc}(h:wK w m r M l cnt)(hk:Keeps S w w')(hm:¬S m)(hr:¬S r):wK w' m r M l cnt:=by
 obtain⟨⟨D,q,left,⟨es,clock,since,seen,c0,h1,h2,h3,h4,h5,h6⟩,h7⟩,hs,hn⟩:=h;exact⟨⟨D,q,left,⟨es,clock,since,seen,c0,(hk.at_ (cd.1 h1).1 hm).trans h1,h2,h3,h4,(hk.at_ (cd.1 h5).1 hr).trans h5,h6⟩,h7⟩,hs,hn⟩
end Go.Proofs.YtlhhcnknclnlaaaGreatDoor.Top
namespace Go.Proofs.YtlhhcnknclnlaaaGreatDoor.Top
open Go Go.WideShapes Go.RowKit Go.Proofs.YtlhhcnknclnlaaaGreatDoor.iH Go.Proofs.YtlhhcnknclnlaaaGreatDoor.Oct Go.Proofs.ah.aN Go.Proofs.ah.bA
theorem acI(w:aE)(x y:Int)(hx:0<=x)(hy:0<=y)(h:x+y<18446744073709551616):cF ab 258 #[.int .i64 1,.int .u64 x,.int .u64 y] w fun e w'=>e=.returned (.int .u64 (x+y))∧w'=w:=by
 have E:Sem.run ab (callFunc 276 #[.int .u64 x,.int .u64 y,.int .u64 0]) w=.ok (.value (.tuple #[.int .u64 (x+y),.int .u64 0])) w:=by
  rw[run_callFunc_extern func276 (by kernel_rfl) (by kernel_rfl) (by kernel_rfl) (e:=add64Entry) (by kernel_rfl),run_add64 x y 0 hx hy (by omega) (by omega)];rw[show(x+y+0)%18446744073709551616=x+y by omega,show(x+y+0)/18446744073709551616=0 by omega];rfl
 go_enter func258,ntmps258
 go_wp2_with fail
 go_ret;exact⟨rfl,rfl⟩
end Go.Proofs.YtlhhcnknclnlaaaGreatDoor.Top
namespace Go.Proofs.YtlhhcnknclnlaaaGreatDoor.Top
open Go Go.RowKit Go.Proofs.YtlhhcnknclnlaaaGreatDoor.iH Go.Proofs.YtlhhcnknclnlaaaGreatDoor.Oct Go.Proofs.ah.aN Go.Proofs.ah.bA Go.Proofs.ah.dx
def yJ(e:jB):List Int:=le 4 e.f0++(le 4 e.f1++le 4 e.f2)
def kG(n:Int)(es:List jB):List Int:=le 4 n++es.flatMap yJ
theorem H_(e:jB):(yJ e).length=12:=by simp[yJ,bB]
theorem yK(es:List jB):(es.flatMap yJ).length=12*es.length:=by
 induction es with
 |nil=>rfl
 |cons e es ih=>rw[dE,ai,H_,ih,List.length_cons];omega
theorem EJ(n:Int)(es:List jB):(kG n es).length=4+12*es.length:=by unfold kG;rw[ai,bB,yK]
theorem yL(n:Int)(es:List jB):Bytes (kG n es):=by
 refine(iO 4 n).append fun x hx=>?_
 obtain⟨e,_,he⟩:=List.mem_flatMap.1 hx;exact((iO 4 e.f0).append ((iO 4 e.f1).append (iO 4 e.f2))) x he
theorem JZ(j:Nat)(hj:j<8):aa.wrap (wrap64 (8*(j:Int)))=((8*j:Nat):Int):=by
 rw[dW (by omega) (by omega),u64_in (by omega) (by omega)];omega
theorem Qd(j:Nat):(2:Int)^(8*j)=256^j:=by rw[Int.pow_mul];rfl
theorem EK(j:Nat)(hj:j<100000):wrap64 ((j:Int)+1)=((j+1:Nat):Int):=by rw[dW (by omega) (by omega)];omega
variable {a n v x4:Int}
theorem Un(d:Nat):∀(k j:Nat),j+d=4->bI.l0 (k+d+1) 4 v (le j v) (j:Int)=some (le 4 v):=by
 induction d with
 |zero=>
  intro k j h;obtain rfl:j=4:=by omega
  simp only[bI.l0];rw[if_neg (by decide)]
 |succ d ih=>
  intro k j h;rw[show k+(d+1)+1=(k+d+1)+1 by omega];simp only[bI.l0];have e:(shr .u64 v (aa.wrap (wrap64 (8*(j:Int)))))%256=v/256^j%256:=by
   rw[JZ j (by omega)];unfold shr;rw[aw,eh (by show 8*j<=64;omega),Qd]
  rw[if_pos (by omega),if_pos (by omega),if_pos (by rw[JZ j (by omega)];omega),if_pos (by rw[bB];omega),e,<-le_succ,EK j (by omega)];exact ih k (j+1) (by omega)
theorem Uo(k:Nat)(hk:5<=k)(v:Int):bI.f k [] 4 v=some (le 4 v):=by
 obtain⟨m,rfl⟩:∃m,k=m+4+1:=⟨k-5,by omega⟩
 unfold bI.f;simp only[az,List.nil_append,List.length_nil];rw[if_pos (by decide)];exact Un 4 m 0 rfl
variable {es:List jB}{o:List Int}
theorem Uq{all:List Int}{x7:Int}(h0:0<=x7)(h3:x7<all.length)(hv:rd all x7=v)(ho:o.length<1000000)(d:Nat):∀(k j:Nat),j+d=4->
 aA.l2 (k+d+1) (o++le j v) x4 all x7 (j:Int) n es=aA.l1 k (o++le 4 v) x4 all (wrap64 (x7+1)) n es:=by
 induction d with
 |zero=>
  intro k j h;obtain rfl:j=4:=by omega
  simp only[aA.l2];rw[if_neg (by decide)]
 |succ d ih=>
  intro k j h;rw[show k+(d+1)+1=(k+d+1)+1 by omega];simp only[aA.l2];have e:(shr .u32 (rd all x7) (aa.wrap (wrap64 (8*(j:Int)))))%256=v/256^j%256:=by
   rw[JZ j (by omega),hv];unfold shr;rw[aw,eh (by show 8*j<=32;omega),Qd]
  rw[if_pos (by omega),if_pos h0,if_pos h3,if_pos (by rw[JZ j (by omega)];omega),if_pos (by rw[ai,bB];omega),e,bt,<-le_succ,EK j (by omega)];exact ih k (j+1) (by omega)
theorem enc1{b c:Int}(ho:o.length<900000)(k:Nat):
 aA.l1 (k+19) o x4 [a,b,c] 0 n es=aA.l0 k (o++(le 4 a++(le 4 b++le 4 c))) (wrap64 (x4+1)) n es:=by
 have g:∀(o:List Int) (x7 v:Int) (k:Nat),0<=x7->x7<3->rd [a,b,c] x7=v->o.length<1000000->aA.l1 (k+6) o x4 [a,b,c] x7 n es=aA.l1 k (o++le 4 v) x4 [a,b,c] (wrap64 (x7+1)) n es:=by
  intro o x7 v k h0 h3 hv ho;rw[aA.l1,if_pos h3];have:=Uq (o:=o) (all:=[a,b,c]) (x4:=x4) (x7:=x7) (n:=n) (es:=es) h0 (by simpa using h3) hv ho 4 k 0 rfl;simpa[le]using this
 rw[show k+19=(k+13)+6 by omega,g o 0 a _ (by omega) (by omega) rfl (by omega),show wrap64 (0+1)=1 from dW (by omega) (by omega),
  show k+13=(k+7)+6 by omega,g _ 1 b _ (by omega) (by omega) rfl (by simp[bB];omega),show wrap64 (1+1)=2 from dW (by omega) (by omega),
  show k+7=(k+1)+6 by omega,g _ 2 c _ (by omega) (by omega) rfl (by simp[bB];omega),show wrap64 (2+1)=3 from dW (by omega) (by omega),aA.l1,if_neg (by decide)]
 simp only[bt]
theorem afF(hm:es.length<=1000)(d:Nat):∀(k i:Nat),i+d=es.length->aA.l0 (k+20*d+1) (le 4 n++(es.take i).flatMap yJ) (i:Int) n es=some (kG n es):=by
 induction d with
 |zero=>
  intro k i h;simp only[aA.l0];rw[if_neg (by omega),de (by omega)];rfl
 |succ d ih=>
  intro k i h;have hi:i<es.length:=by omega
  rw[show k+20*(d+1)+1=(k+20*d+1+19)+1 by omega];simp only[aA.l0];have e:bE es (i:Int)=es[i]:=by unfold bE;rw[aw,cJ,cX hi];rfl
  rw[if_pos (by omega),if_pos (by omega),e,enc1 (by rw[ai,bB,yK,bj];omega),EK i (by omega)];have e2:le 4 n++(es.take i).flatMap yJ++(le 4 es[i].f0++(le 4 es[i].f1++le 4 es[i].f2))=le 4 n++(es.take (i+1)).flatMap yJ:=by
   rw[cC hi,dq,bt];simp[yJ]
  rw[e2];exact ih k (i+1) (by omega)
theorem Ur(h0:0<=n)(h1:n<=1048576)(hm:es.length<=1000)(k:Nat)(hk:20*es.length+10<=k):aA.f k n es=some (kG n es):=by
 unfold aA.f;rw[Uo k (by omega),u64_in h0 (by omega)];simp only[az];obtain⟨m,rfl⟩:∃m,k=m+20*es.length+1:=⟨k-(20*es.length+1),by omega⟩
 have:=afF (n:=n) hm es.length m 0 (by omega);simpa using this
theorem CK{b pre post:List Int}{x:Int}(hb:b=pre++(le 4 x++post))(hB:Bytes b)(h0:0<=x)(h1:x<4294967296)(ha:a=pre.length):cZ.f b a=some x:=by
 unfold cZ.f;have e1:(b.drop a.toNat).take (4:Int).toNat=le 4 x:=by
  subst ha;rw[hb,aw,List.drop_left];exact List.take_left' (bB 4 x)
 rw[Co hB (by omega) (by omega) (by omega) (by rw[ha,hb];simp only[ai,bB];omega),e1,sj];simp only[az];rw[show(256:Int)^4=4294967296 from rfl]
 congr 1
 omega
def Ls(n:Int)(e:jB):Prop:=(0<=e.f0∧e.f0<n)∧(0<=e.f1∧e.f1<n)∧0<=e.f2∧e.f2<4294967296
theorem afG(h0:0<=n)(h1:n<=1048576)(hm:es.length<=1000)(he:∀e∈es,Ls n e)(d:Nat):∀(k i:Nat),i+d=es.length->
 dJ.l0 (k+d+1) (kG n es) n (es.take i++ca d z46) (es.length:Int) (i:Int) 0=some (n,es,0,0):=by
 induction d with
 |zero=>
  intro k i h;simp only[dJ.l0];rw[if_neg (by omega),de (by omega),dW (by omega) (by omega)];simp
 |succ d ih=>
  intro k i h;have hi:i<es.length:=by omega
  obtain⟨⟨a0,a1⟩,⟨b0,b1⟩,c0,c1⟩:=he es[i] (List.getElem_mem hi);have hB:=yL n es;have hg:kG n es=(le 4 n++(es.take i).flatMap yJ)++(yJ es[i]++(es.drop (i+1)).flatMap yJ):=by
   unfold kG;have:es=es.take i++es[i]::es.drop (i+1):=by rw[<-List.drop_eq_getElem_cons hi,List.take_append_drop]
   have e:=congrArg (List.flatMap yJ) this;rw[dq,dE]at e;rw[e,bt]
  have hl:(le 4 n++(es.take i).flatMap yJ).length=4+12*i:=by rw[ai,bB,yK,bj];omega
  have w1:wrap64 (12*(i:Int))=12*i:=dW (by omega) (by omega);have w2:wrap64 (4+12*(i:Int))=4+12*i:=dW (by omega) (by omega);have w3:wrap64 (4+12*(i:Int)+4)=8+12*i:=(dW (by omega) (by omega)).trans (by omega);have w4:wrap64 (4+12*(i:Int)+8)=12+12*i:=(dW (by omega) (by omega)).trans (by omega);have n1:cZ.f (kG n es) (4+12*(i:Int))=some es[i].f0:=CK (pre:=le 4 n++(es.take i).flatMap yJ) (post:=le 4 es[i].f1++le 4 es[i].f2++(es.drop (i+1)).flatMap yJ) (by rw[hg];simp[yJ]) hB a0 (by omega) (by rw[hl];omega);have n2:cZ.f (kG n es) (8+12*(i:Int))=some es[i].f1:=CK (pre:=le 4 n++(es.take i).flatMap yJ++le 4 es[i].f0) (post:=le 4 es[i].f2++(es.drop (i+1)).flatMap yJ) (by rw[hg];simp[yJ]) hB b0 (by omega) (by rw[ai,hl,bB];omega);have n3:cZ.f (kG n es) (12+12*(i:Int))=some es[i].f2:=CK (pre:=le 4 n++(es.take i).flatMap yJ++le 4 es[i].f0++le 4 es[i].f1) (post:=(es.drop (i+1)).flatMap yJ) (by rw[hg];simp[yJ]) hB c0 c1 (by rw[ai,ai,hl,bB,bB];omega);rw[show k+(d+1)+1=(k+d+1)+1 by omega];have hs:(es.take i++ca (d+1) z46).set i (⟨es[i].f0,es[i].f1,es[i].f2⟩:jB)=es.take (i+1)++ca d z46:=by
   rw[cC hi,List.set_append_right _ _ (by rw[bj];omega),bj,show i-min i es.length=0 by omega,List.replicate_succ,List.set_cons_zero,bt];rfl
  have hr:bE (es.take (i+1)++ca d z46) (i:Int)=es[i]:=by
   unfold bE;rw[aw,cJ,List.getElem?_append_left (by rw[bj];omega),List.getElem?_take_of_lt (by omega),cX hi];rfl
  simp only[dJ.l0];rw[w1,w2,w3,w4,n1,n2,n3,if_pos (by omega)];simp only[az,aw];rw[if_pos (by omega),if_pos (by simp only[ai,bj,di];omega),hs,hr,if_neg (by omega),if_neg (by omega),EK i (by omega)];exact ih k (i+1) (by omega)
theorem Us(h0:0<=n)(h1:n<=1048576)(hm:es.length<=1000)(he:∀e∈es,Ls n e)(k:Nat)(hk:es.length+2<=k):dJ.f k (kG n es)=some (n,es,0,0):=by
 have hl:=EJ n es;have hd:((kG n es).length:Int)/12=(es.length:Int):=by omega
 have hw:wrap64 (es.length:Int)=(es.length:Int):=dW (by omega) (by omega);unfold dJ.f;rw[if_pos (by omega),show cZ.f (kG n es) 0=some n from CK (pre:=[]) (post:=es.flatMap yJ) rfl (yL n es) h0 (by omega) rfl];simp only[az];rw[if_neg (by omega),hd,hw,if_neg (by omega),if_pos (by omega),aw,if_pos (by omega),di];obtain⟨m,rfl⟩:∃m,k=m+es.length+1:=⟨k-(es.length+1),by omega⟩
 have:=afG h0 h1 hm he es.length m 0 (by omega);simpa using this
end Go.Proofs.YtlhhcnknclnlaaaGreatDoor.Top
