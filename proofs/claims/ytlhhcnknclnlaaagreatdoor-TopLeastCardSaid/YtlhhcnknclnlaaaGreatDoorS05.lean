/- Parts of the proof. -/
import Derived.Sort.QuietIn
import Derived.Test.YtlhhcnknclnlaaaGreatDoorS00
import Derived.Test.YtlhhcnknclnlaaaGreatDoorS01
import Derived.Test.YtlhhcnknclnlaaaGreatDoorS02
set_option linter.all false
set_option maxRecDepth 100000
set_option maxHeartbeats 16000000
open List renaming setIfInBounds_toArray->aa,set_cons_zero->ab,set_cons_succ->ae,length_cons->ag,length_nil->ai,append_toArray->aw,size_toArray->ax,push_toArray->az,cons_append->ba,nil_append->bb,take_succ_eq_append_getElem->bj,finRange->cq
open Go.Act renaming put->af
open Go.Proofs.Tryz renaming prog->al,underlying251->bt,ntmps228->cx,f183->cy,func228->cA
open Go renaming World->an,KeepsOthers->ca,Value->cd,Addr->cm,CallsIn->cz
open Nat renaming le_trans->ao,le_refl->bz,zero_le->cC
open Array renaming replicate_succ->aq,replicate_zero->ar
open Go.Fence renaming wide->aE
open Go.Value renaming slice->a_
open Or renaming inl->bk
open Go.Proofs.Tryz
namespace Go.Proofs.YtlhhcnknclnlaaaGreatDoor.sG
open Go.RowKit Go.Proofs.YtlhhcnknclnlaaaGreatDoor.iH Go.Proofs.ah.aN Go.Proofs.ah.bA Go.Proofs.ah.dx
section
attribute [local go_sem] gM gN kY lg
def come(m k:Nat):List (Fin m):=(cq m).take k
theorem vk(m:Nat):come m 0=[]:=rfl
variable {Bn Bs k m:Nat}
theorem jK(h:k<m):come m (k+1)=come m k++[⟨k,h⟩]:=by
 unfold come;rw[bj (by simpa using h)];simp
theorem jL(h:k<=m):(come m k).length=k:=by simp[come];omega
def Kp(Bs Bn:Nat)(A B:an):Prop:=(∀v,A.cell? ⟨Bs,0,none⟩=some v->B.cell? ⟨Bs,0,none⟩=some v)∧∀v,A.cell? ⟨Bn,0,none⟩=some v->B.cell? ⟨Bn,0,none⟩=some v
variable {A B:an}
theorem Cn{C:an}(h:Kp Bs Bn A B)(k:Kp Bs Bn B C):Kp Bs Bn A C:=⟨fun v hv=>k.1 v (h.1 v hv),fun v hv=>k.2 v (h.2 v hv)⟩
theorem OX{w:an}(W:an)(l:Nat)(o o':Obj)(_hl:w.heap.size<=l)(h:W.heap[l]? =some o)(hc:o.isCells=false)(_hw:o.isWalk=false):Kp Bs Bn W (W.putObj l o'):=
 ⟨fun v hv=>cell_kept hv (grownBy_putObj' W l o') (fun r e=>by cases e;exact⟨_,h,hc⟩),fun v hv=>cell_kept hv (grownBy_putObj' W l o') (fun r e=>by cases e;exact⟨_,h,hc⟩)⟩
theorem yM(h:Kp Bs Bn A B)(n:Nat):Kp Bs Bn A (B.drewN n):=h
def part(len j:Nat):Nat:=min 4 (len-4*j)
theorem qx(W:an):(sizeOf (al.elem 86)).run al W=.ok 1 W:=by kernel_rfl
theorem J2(ad:cm)(len cap:Nat)(x:Int)(h0:0<=x)(h1:x<=len)(W:an):(Instr.slice 86 (.slice (some ad) len cap) (some (.int .i64 x)) none none).run al W=.ok (sliced (some ad) x.toNat len cap 1) W:=by
 rw[run_slice_l W 86 (some ad) len cap (by kernel_rfl) .i64 x h0 h1,qx];rfl
theorem CO(ad:cm)(len cap:Nat)(j e:Nat)(he:0<e)(h1:4*j+e<=cap)(W:an):(Instr.slice 86 (.slice (some ad) len cap) (some (.int .i64 (4*(j:Int)))) (some (.int .i64 (4*(j:Int)+e))) (some (.int .i64 (4*(j:Int)+e)))).run al W=.ok (.slice (some (ad.add (4*j))) e e) W:=by
 rw[run_slice_lhm W 86 (some ad) len cap (by kernel_rfl) .i64 .i64 .i64 _ _ _ (by omega) (by omega) (by omega) (by omega),qx];simp only[Result.andThen,sliced,show(4*(j:Int)).toNat=4*j by omega,show(4*(j:Int)+e).toNat=4*j+e by omega];rw[if_neg (by omega),show 4*j+e-4*j=e by omega];simp
section
attribute [local go_sem] Oper.semAt_some
theorem Ia(n:Nat)(hn:1<=n)(l Bs Bn cap len m:Nat)(ad:cm)(hlen:len<=4*m)(Xe:4*m<len+4)(hcap:len<=cap)(jh:len<=1000)(J Jx:List (Fin m)->an->Prop)(hJd:∀pre W n,J pre W->J pre (W.drewN n))(hY:∀pre (x:Fin m) W,J pre W->pre.length<m->YieldAt aE (n-1) al l #[.slice (some (ad.add (4*x.1))) (part len x.1) (part len x.1)] W fun e W'=>   (e=.returned (.bool true)∧J (pre++[x]) W'∧Kp Bs Bn W W')∨(e=.returned (.bool false)∧Jx (pre++[x]) W'))(W:an)(pI:W.cell? ⟨Bs,0,none⟩=some (.slice (some ad) len cap))(Sb:W.cell? ⟨Bn,0,none⟩=some (.int .i64 4))(h0:J [] W):
 cz aE n al 254 #[.func (.yield l) #[] #[],.pointer (some ⟨Bs,0,none⟩),.pointer (some ⟨Bn,0,none⟩)] W fun e W'=>(∃v,e=.returned v)∧
  ((∃ys,ys=come m m∧J ys W')∨(∃pre,(∃k,k<=m∧pre=come m k)∧Jx pre W')):=by
 refine callsIn_of_wp func254 rfl trivial ?_ rfl;simp only[ntmps254,ax,ag,ai,Nat.reduceAdd,Nat.reduceSub,aq,ar,az,aw,bb,ba]
 gi_wp2
 gi_loopw [4] (fun i wr=>∃(k:Nat),k<=m∧i=.int .i64 (4*(k:Int))∧J (come m k) wr∧aG (Kp Bs Bn W wr))
  (fun i _=>m-(intOf i/4).toNat)
 case atStart=>exact⟨0,cC _,by simp,by simpa[vk]using h0,⟨fun _ h=>h,fun _ h=>h⟩⟩
 case round=>
  obtain⟨k,hk,rfl,hJs,hnx⟩:=hrel;have hBx:=hnx.out.1 _ pI;have hBy:=hnx.out.2 _ Sb;have HJ:=Y1 hJs;clear hJs;by_cases hlt:k<m
  .have hs1:=J2 ad len cap (4*(k:Int)) (by omega) (by omega);have hpart:0<part len k∧4*k+part len k<=len∧part len k<=4:=by unfold part;omega
   have hs2:=CO ad len cap k (part len k) hpart.1 (by omega);have d1:decide (4*(k:Int)<(len:Int))=true:=decide_eq_true (by omega);have hw2:IntKind.i64.wrap (4*(k:Int)+part len k)=4*(k:Int)+part len k:=IntWalk.i64_in _ (by omega);have hw3:IntKind.i64.wrap (4*(k:Int)+4)=4*(k:Int)+4:=IntWalk.i64_in _ (by omega);have hmin:(if((len-4*k:Nat):Int)<4 then((len-4*k:Nat):Int)else 4)=(part len k:Nat):=by unfold part;split<;>omega
   gi_wp2
   gi_quiet (fail)
   skip
   have hBx3:(wr.drewN nq).cell? ⟨Bs,0,none⟩=some (.slice (some ad) len cap):=hBx;have YU:(wr.drewN nq).cell? ⟨Bn,0,none⟩=some (.int .i64 4):=hBy;have HK:=Y1 (yM hnx.out nq);have R8:=hJd _ _ nq HJ.out;clear hnx HJ hBx hBy;generalize wr.drewN nq=wq at*;obtain⟨fn,tmps,assign,body,hy,hR⟩:=hY _ ⟨k,hlt⟩ wq R8 (by rw[jL hk];exact hlt);dsimp only at hy;have HJQ:=Y1 R8;clear R8 hs1
   gi_wp2
   refine hR.mono ?_;rintro e W3 (⟨rfl,hJ3,hk3⟩|⟨rfl,hJx3⟩)
   .have afH:=hk3.1 _ hBx3;have afI:=hk3.2 _ YU;have R5:=Y1 (Cn HK.out hk3);rw[<-jK hlt]at hJ3;have HJ4:=Y1 hJ3;clear hk3 hJ3 HK
    gi_wp2
    go_roundw
    case rel=>exact⟨k+1,hlt,by first|rfl|(congr 1;omega),HJ4.out,R5⟩
    case measure=>simp[intOf];omega
   .rw[<-jK hlt]at hJx3;have HJx:=Y1 hJx3;clear hJx3
    gi_wp2
    refine bodyPost_ret (results_none rfl _ _ _) rfl ?_;exact⟨⟨_,rfl⟩,.inr ⟨_,⟨k+1,hlt,rfl⟩,HJx.out⟩⟩
  .obtain rfl:k=m:=by omega
   have d1:decide (4*(k:Int)<(len:Int))=false:=decide_eq_false (by omega)
   gi_wp2
   go_end0
   exact⟨⟨_,rfl⟩,.inl ⟨_,rfl,HJ.out⟩⟩
theorem chunk(a:Option cm)(len cap:Nat)(w:an):
 Calls al 236 #[.slice a len cap,.int .i64 4] w fun e w'=>e=.returned (.func (.func 254) #[] #[.pointer (some ⟨w.heap.size,0,none⟩),.pointer (some ⟨w.heap.size+1,0,none⟩)])∧w'=(w.alloc (.cells #[.slice a len cap] 86)).alloc (.cells #[.int .i64 4] 3):=by
 refine(callsIn_wide (n:=0)).1 ?_;refine callsIn_of_wp func236 rfl trivial ?_ rfl;simp only[ntmps236,ax,ag,ai,Nat.reduceAdd,Nat.reduceSub,aq,ar,az,aw,bb,ba];have bN:=(Boxed.new (w.alloc (.cells #[.slice a len cap] 86)) 3 (.int .i64 4)).cell;rw[World.size_alloc]at bN
 gi_wp2
 go_ret;exact⟨rfl,rfl⟩
theorem stops(n:Nat)(hn:1<=n)(Bs Bn cap len m:Nat)(ad:cm)(w:an)(pI:Bs<w.heap.size)(Sb:Bn<w.heap.size)(hlen:len<=4*m)(Xe:4*m<len+4)(hcap:len<=cap)(jh:len<=1000)(hc:w.cell? ⟨Bs,0,none⟩=some (.slice (some ad) len cap))(Xf:w.cell? ⟨Bn,0,none⟩=some (.int .i64 4)):
 SeqStopsK aE n al 254 #[.pointer (some ⟨Bs,0,none⟩),.pointer (some ⟨Bn,0,none⟩)] (fun x:Fin m=> #[a_ (some (ad.add (4*x.1))) (part len x.1) (part len x.1)]) (Kp Bs Bn) (fun ys=>ys=come m m)
  (fun pre=>∃k,k<=m∧pre=come m k) m w:=fun l J Jx W hW hJ _ hY h0=>by
 have hc':=(hW.cell (p:=⟨Bs,0,none⟩) pI).trans hc;have hn':=(hW.cell (p:=⟨Bn,0,none⟩) Sb).trans Xf;exact Ia n hn l Bs Bn cap len m ad hlen Xe hcap jh J Jx (fun pre W1 k h=>hJ pre W1 _ none h ⟨rfl,rfl,rfl,bz _,fun _ _ _=>rfl⟩ (fun r e=>by cases e)) hY W hc' hn' h0
end
end
end Go.Proofs.YtlhhcnknclnlaaaGreatDoor.sG
namespace Go.Proofs.YtlhhcnknclnlaaaGreatDoor.CP
open Go.RowKit Go.Proofs.YtlhhcnknclnlaaaGreatDoor.iH Go.Proofs.ah.aN Go.Proofs.ah.bA Go.Proofs.ah.dx
section
attribute [local go_sem] gM gN kY lg
def come(m k:Nat):List (Fin m):=(cq m).take k
theorem vk(m:Nat):come m 0=[]:=rfl
variable {Bn Bs k m n₀:Nat}
theorem jK(h:k<m):come m (k+1)=come m k++[⟨k,h⟩]:=by
 unfold come;rw[bj (by simpa using h)];simp
theorem jL(h:k<=m):(come m k).length=k:=by simp[come];omega
def Kp(n₀ Bs Bn:Nat)(A B:an):Prop:=Below n₀ A B∧(∀v,A.cell? ⟨Bs,0,none⟩=some v->B.cell? ⟨Bs,0,none⟩=some v)∧∀v,A.cell? ⟨Bn,0,none⟩=some v->B.cell? ⟨Bn,0,none⟩=some v
variable {A B:an}
theorem Cn{C:an}(h:Kp n₀ Bs Bn A B)(k:Kp n₀ Bs Bn B C):Kp n₀ Bs Bn A C:=⟨h.1.trans k.1,fun v hv=>k.2.1 v (h.2.1 v hv),fun v hv=>k.2.2 v (h.2.2 v hv)⟩
theorem OX{w:an}(hn:n₀<=w.heap.size)(W:an)(l:Nat)(o o':Obj)(hl:w.heap.size<=l)(h:W.heap[l]? =some o)(hc:o.isCells=false)(hw:o.isWalk=false):Kp n₀ Bs Bn W (W.putObj l o'):=
 ⟨belowK_b hn W l o o' hl h hc hw,fun v hv=>cell_kept hv (grownBy_putObj' W l o') (fun r e=>by cases e;exact⟨_,h,hc⟩),fun v hv=>cell_kept hv (grownBy_putObj' W l o') (fun r e=>by cases e;exact⟨_,h,hc⟩)⟩
theorem yM(h:Kp n₀ Bs Bn A B)(n:Nat):Kp n₀ Bs Bn A (B.drewN n):=⟨aZ h.1 n,h.2⟩
theorem qx(W:an):(sizeOf (al.elem 40)).run al W=.ok 1 W:=by kernel_rfl
theorem J2(ad:cm)(len cap:Nat)(x:Int)(h0:0<=x)(h1:x<=len)(W:an):(Instr.slice 40 (.slice (some ad) len cap) (some (.int .i64 x)) none none).run al W=.ok (sliced (some ad) x.toNat len cap 1) W:=by
 rw[run_slice_l W 40 (some ad) len cap (by kernel_rfl) .i64 x h0 h1,qx];rfl
theorem CO(ad:cm)(len cap:Nat)(j:Nat)(h1:9*j+9<=cap)(W:an):(Instr.slice 40 (.slice (some ad) len cap) (some (.int .i64 (9*(j:Int)))) (some (.int .i64 (9*(j:Int)+9))) (some (.int .i64 (9*(j:Int)+9)))).run al W=.ok (.slice (some (ad.add (9*j))) 9 9) W:=by
 rw[run_slice_lhm W 40 (some ad) len cap (by kernel_rfl) .i64 .i64 .i64 _ _ _ (by omega) (by omega) (by omega) (by omega),qx];simp only[Result.andThen,sliced,show(9*(j:Int)).toNat=9*j by omega,show(9*(j:Int)+9).toNat=9*j+9 by omega];rw[if_neg (by omega),show 9*j+9-9*j=9 by omega];simp
section
attribute [local go_sem] Oper.semAt_some
theorem Ia(n:Nat)(hn:1<=n)(l Bs Bn n₀ cap len m:Nat)(ad:cm)(hlen:len=9*m)(hcap:len<=cap)(jh:len<=140737488351232)(J Jx:List (Fin m)->an->Prop)(hJd:∀pre W n,J pre W->J pre (W.drewN n))(hY:∀pre (x:Fin m) W,J pre W->pre.length<m->YieldAt aE (n-1) al l #[.slice (some (ad.add (9*x.1))) 9 9] W fun e W'=>   (e=.returned (.bool true)∧J (pre++[x]) W'∧Kp n₀ Bs Bn W W')∨(e=.returned (.bool false)∧Jx (pre++[x]) W'))(W:an)(pI:W.cell? ⟨Bs,0,none⟩=some (.slice (some ad) len cap))(Sb:W.cell? ⟨Bn,0,none⟩=some (.int .i64 9))(h0:J [] W):
 cz aE n al 228 #[.func (.yield l) #[] #[],.pointer (some ⟨Bs,0,none⟩),.pointer (some ⟨Bn,0,none⟩)] W fun e W'=>(∃v,e=.returned v)∧
  ((∃ys,ys=come m m∧J ys W')∨(∃pre,(∃k,k<=m∧pre=come m k)∧Jx pre W')):=by
 refine callsIn_of_wp cA rfl trivial ?_ rfl;simp only[cx,ax,ag,ai,Nat.reduceAdd,Nat.reduceSub,aq,ar,az,aw,bb,ba]
 gi_wp2
 gi_loopw [4] (fun i wr=>∃(k:Nat),k<=m∧i=.int .i64 (9*(k:Int))∧J (come m k) wr∧aG (Kp n₀ Bs Bn W wr))
  (fun i _=>m-(intOf i/9).toNat)
 case atStart=>exact⟨0,cC _,by simp,by simpa[vk]using h0,⟨Below.refl _ _,fun _ h=>h,fun _ h=>h⟩⟩
 case round=>
  obtain⟨k,hk,rfl,hJs,hnx⟩:=hrel;have hBx:=hnx.out.2.1 _ pI;have hBy:=hnx.out.2.2 _ Sb;have HJ:=Y1 hJs;clear hJs;by_cases hlt:k<m
  .have hs1:=J2 ad len cap (9*(k:Int)) (by omega) (by omega);have hs2:=CO ad len cap k (by omega);have d1:decide (9*(k:Int)<(len:Int))=true:=decide_eq_true (by omega);have hw2:IntKind.i64.wrap (9*(k:Int)+9)=9*(k:Int)+9:=IntWalk.i64_in _ (by omega)
   gi_wp2
   gi_quiet (fail)
   have hBx3:(wr.drewN nq).cell? ⟨Bs,0,none⟩=some (.slice (some ad) len cap):=hBx;have YU:(wr.drewN nq).cell? ⟨Bn,0,none⟩=some (.int .i64 9):=hBy;have HK:=Y1 (yM hnx.out nq);have R8:=hJd _ _ nq HJ.out;clear hnx HJ hBx hBy;generalize wr.drewN nq=wq at*;obtain⟨fn,tmps,assign,body,hy,hR⟩:=hY _ ⟨k,hlt⟩ wq R8 (by rw[jL hk];exact hlt);dsimp only at hy;have HJQ:=Y1 R8;clear R8 hs1
   gi_wp2
   refine hR.mono ?_;rintro e W3 (⟨rfl,hJ3,hk3⟩|⟨rfl,hJx3⟩)
   .have afH:=hk3.2.1 _ hBx3;have afI:=hk3.2.2 _ YU;have R5:=Y1 (Cn HK.out hk3);rw[<-jK hlt]at hJ3;have HJ4:=Y1 hJ3;clear hk3 hJ3 HK
    gi_wp2
    go_roundw
    case rel=>exact⟨k+1,hlt,by first|rfl|(congr 1;omega),HJ4.out,R5⟩
    case measure=>simp[intOf];omega
   .rw[<-jK hlt]at hJx3;have HJx:=Y1 hJx3;clear hJx3
    gi_wp2
    refine bodyPost_ret (results_none rfl _ _ _) rfl ?_;exact⟨⟨_,rfl⟩,.inr ⟨_,⟨k+1,hlt,rfl⟩,HJx.out⟩⟩
  .obtain rfl:k=m:=by omega
   have d1:decide (9*(k:Int)<(len:Int))=false:=decide_eq_false (by omega)
   gi_wp2
   go_end0
   exact⟨⟨_,rfl⟩,.inl ⟨_,rfl,HJ.out⟩⟩
theorem YV(n:Nat)(l Bs Bn c:Nat)(A:Option cm)(J:an->Prop)(W:an)(pI:W.cell? ⟨Bs,0,none⟩=some (.slice A 0 c))(h0:J W):
 cz aE n al 228 #[.func (.yield l) #[] #[],.pointer (some ⟨Bs,0,none⟩),.pointer (some ⟨Bn,0,none⟩)] W fun e W'=>(∃v,e=.returned v)∧J W':=by
 refine callsIn_of_wp cA rfl trivial ?_ rfl;simp only[cx,ax,ag,ai,Nat.reduceAdd,Nat.reduceSub,aq,ar,az,aw,bb,ba]
 gi_wp2
 gi_loopw [4] (fun i wr=>i=.int .i64 0∧aG (J wr)∧wr.cell? ⟨Bs,0,none⟩=some (.slice A 0 c)) (fun _ _=>0)
 case atStart=>exact⟨rfl,⟨h0⟩,pI⟩
 case round=>
  obtain⟨rfl,hJs,hB⟩:=hrel
  gi_wp2
  go_end0
  exact⟨⟨_,rfl⟩,hJs.out⟩
theorem chunk(n:Nat)(a:Option cm)(len cap:Nat)(w:an):
 cz aE n al 200 #[.slice a len cap,.int .i64 9] w fun e w'=>e=.returned (.func (.func 228) #[] #[.pointer (some ⟨w.heap.size,0,none⟩),.pointer (some ⟨w.heap.size+1,0,none⟩)])∧w'=(w.alloc (.cells #[.slice a len cap] 40)).alloc (.cells #[.int .i64 9] 3):=by
 refine callsIn_of_wp func200 rfl trivial ?_ rfl;simp only[ntmps200,ax,ag,ai,Nat.reduceAdd,Nat.reduceSub,aq,ar,az,aw,bb,ba];have bN:=(Boxed.new (w.alloc (.cells #[.slice a len cap] 40)) 3 (.int .i64 9)).cell;rw[World.size_alloc]at bN
 gi_wp2
 go_ret;exact⟨rfl,rfl⟩
theorem stops(n:Nat)(hn:1<=n)(Bs Bn n₀ cap m:Nat)(A:Option cm)(zs:List Int)(w:an)(pI:Bs<w.heap.size)(Sb:Bn<w.heap.size)(jh:zs.length<=140737488351232)(hm:zs.length=9*m)(hcap:zs.length<=cap)(hc:w.cell? ⟨Bs,0,none⟩=some (.slice A zs.length cap))(hn9:w.cell? ⟨Bn,0,none⟩=some (.int .i64 9))(hC:Kd.C (Kd.int .u8) w A zs.length zs):
 SeqStopsK aE n al 228 #[.pointer (some ⟨Bs,0,none⟩),.pointer (some ⟨Bn,0,none⟩)] (fun x:Fin m=> #[a_ (A.map (·.add (9*x.1))) 9 9]) (Kp n₀ Bs Bn) (fun ys=>ys=come m m)
  (fun pre=>∃k,k<=m∧pre=come m k) m w:=fun l J Jx W hW hJ _ hY h0=>by
 have hc':=(hW.cell (p:=⟨Bs,0,none⟩) pI).trans hc;have hn':=(hW.cell (p:=⟨Bn,0,none⟩) Sb).trans hn9;by_cases hz:0<zs.length
 .obtain⟨ad,rfl,_⟩:=hC.2.2 hz;exact Ia n hn l Bs Bn n₀ cap zs.length m ad hm hcap jh J Jx (fun pre W1 k h=>hJ pre W1 _ none h ⟨rfl,rfl,rfl,bz _,fun _ _ _=>rfl⟩ (fun r e=>by cases e)) hY W hc' hn' h0
 .have hz0:zs=[]:=List.eq_nil_of_length_eq_zero (by omega);subst hz0;obtain rfl:m=0:=by simp at hm;omega
  exact(YV n l Bs Bn cap A (J []) W hc' h0).mono fun e W' ⟨he,hj⟩=>⟨he,.inl ⟨_,rfl,hj⟩⟩
end
end
end Go.Proofs.YtlhhcnknclnlaaaGreatDoor.CP
namespace Go.Proofs.YtlhhcnknclnlaaaGreatDoor.Dec
open Go Go.RowKit Go.Proofs.YtlhhcnknclnlaaaGreatDoor.iH Go.Proofs.YtlhhcnknclnlaaaGreatDoor.Oct
def Xg(body:List Int)(j:Nat):Int×Bool:=(num ((body.drop (9*j)).take 8),body.getD (9*j+8) 0==1)
def CS(body:List Int)(m:Nat):List (Int×Bool):=(List.range m).map (Xg body)
theorem Ib:(al.info? 36).map (fun i=>(i.zero,i.size,i.bytes))=some (some (.int .u64 0),1,8):=by kernel_rfl
theorem acJ:(al.info? 4).map (fun i=>(i.zero,i.size,i.bytes))=some (some (.bool false),1,1):=by kernel_rfl
theorem vZ(body:List Int)(m:Nat):(CS body m).length=m:=by simp[CS]
end Go.Proofs.YtlhhcnknclnlaaaGreatDoor.Dec
namespace Go.Proofs.YtlhhcnknclnlaaaGreatDoor.Dec
open Go Go.RowKit Go.Proofs.YtlhhcnknclnlaaaGreatDoor.iH Go.Proofs.YtlhhcnknclnlaaaGreatDoor.RgI Go.Proofs.YtlhhcnknclnlaaaGreatDoor.HX Go.Proofs.ah.aN Go.Proofs.ah.bA Go.Proofs.ah.dx
def oU.T15:Bool×List (List Nat×List Nat):=(true,[([],[]),([0],[0]),([],[]),([2],[2]),([1,3],[1,3]),([],[]),([5],[5]),([],[]),([7],[7]),([8],[8]),([9],[9]),([10],[10]),([6,11,4],[6,11]),([0,1,2,3,4,5,6],[]),([13,4,12,0,1,2,3,4,5,6],[4,13]),([0,1,2,3,4,5,6,7,8,9,10,11,12,13,14],[]),([15,12,14,0,1,2,3,4,5,6,7,8,9,10,11,12,13,14],[12,15])])
def oU.B15:List Nat:=[0,1,0,4,15,0,32,0,128,384,896,1920,4095,127,16383,32767,65535]
theorem oU.acK:mh .any (opsOf cy 15)=oU.T15:=by kernel_rfl
theorem oU.YW:qM oU.T15.2 oU.B15=true:=by kernel_rfl
variable {W:an}
theorem ku{w1:an}{row:Option Nat}(hg:W.grownBy w1 row)(hr:∀k,row=some k->∃c t,W.heap[k]? =some (.cells c t (0,0))):ca W w1:=
 ⟨hg.size,fun k o hk ho=>(hg.block k (jd hk) (fun e=>by
  obtain⟨c,t,hc⟩:=hr k e.symm;rw[hc]at hk;injection hk with hk;subst hk;cases ho)).trans hk⟩
variable {α:Type}
theorem qW{β:Type}{d:Kd α}{d':Kd β}{e e' b b':Nat}{ok ok':Nat->Prop}{v v':cd}{xs:List α}{ys:List β}(h:d.R e W b ok v xs)(h':d'.R e' W b' ok' v' ys)(hne:e≠e'):∀k,v.ownBlock=some k->some k≠v'.ownBlock:=by
 intro k hk hk';obtain⟨c,hc⟩:=Kd.jR h k hk;obtain⟨c',hc'⟩:=Kd.jR h' k hk'.symm;rw[hc]at hc';injection hc' with hc';injection hc' with _ hc';exact hne hc'
theorem mg(d:Kd α){base:Nat}{ok:Nat->Prop}{x:α}{u:cd}(hs:d.sz=1)(h:d.M W base ok x [u]):gZ (d.M W base ok) d.sz [x] [u]:=by
 rw[hs];exact gZ.snoc (gZ.none _ _) h rfl
structure Stp (n1 C:Nat) (W W':an):Prop where
 os:W'.os=W.os
 tape:W'.tape=W.tape
 output:W'.output=W.output
 block:∀k,k<n1->k≠C->W'.heap[k]? =W.heap[k]?
 others:ca W W'
theorem Stp.trans{n1 C:Nat}{X Y Z:an}(h:Stp n1 C X Y)(k:Stp n1 C Y Z):Stp n1 C X Z:=⟨k.os.trans h.os,k.tape.trans h.tape,k.output.trans h.output,fun i a b=>(k.block i a b).trans (h.block i a b),h.others.trans k.others⟩
variable {n1:Nat}
theorem Stp.of_below{C:Nat}{W':an}(h:Below n1 W W')(k:ca W W'):Stp n1 C W W':=⟨h.os,h.tape,h.output,fun i a _=>h.block i a,k⟩
theorem Stp.set(n1 C i:Nat)(v:cd)(W:an):Stp n1 C W (W.setCell ⟨C,i,none⟩ v):=⟨rfl,rfl,rfl,fun k _ h=>Below.heap_setCell W ⟨C,i,none⟩ v k h,KeepsOthers.setCell _ _ _⟩
theorem oU.grow{Q:Exit->Act->an->Prop}{C:Nat}{v0 v1:cd}{vs:List Int}{bs:List Bool}{x y:Int}{ad:cm}{x0 x1 x2 x3 x4 x6 x7 x8 x9 x10 x11 x12 x13 X_ R7 x18 x19 x20 x21 x22 x23 x24 x25 x26 x27 x28 x29 x30 x31 x32 x33 x34 x35 x36 x37 x38 x39 x40 x41 x42 x43 x44 x45 x46 x47 x48 x49 x50 x51 x52 x53 x54 x55 x56 x57 x58 x59 x60 x61 x62 x63 x64 x65 x66 x67 x68 x69 x70 x71 x72 x73 x74 x75 x76 x77 x78 x79 x80 x81 x82 x83 x84 x85 x86 x87 x88 x89 x90 x91 x92 x93 x94 x95 x96 x97 x98 x99 x100 x101 x102 x103 x104 x105 afJ x107 afK afL afM afN x112 x113:cd}(hP:∀c a a' w,Q (.panic c) a w->Q (.panic c) a' w)(hn:n1<=W.heap.size)(hC:C<n1)(dz:W.heap[C]? =some (.cells #[v0,v1] 253 (0,0)))(hv:ad.block<n1)(hy:W.cell? (ad.add 8)=some (.int .u8 y))(h0:Kd.R (Kd.int .u64) 36 W n1 (fun _=>True) v0 vs)(h1:Kd.R Kd.bool 4 W n1 (fun _=>True) v1 bs)(hl:vs.length<=10000000)(hl1:bs.length<=10000000)(hQ:∀a' W' v0' v1',W'.heap[C]? =some (.cells #[v0',v1'] 253 (0,0))->Kd.R (Kd.int .u64) 36 W' n1 (fun _=>True) v0' (vs++[x])->Kd.R Kd.bool 4 W' n1 (fun _=>True) v1' (bs++[y==1])->Stp n1 C W W'->Q .normal a' W'):
 aK al .any (opsOf cy 15) Q (Below n1 W) [14,16] 17 #[false,false,false,false,false,false,false,false,false,false,false,false,false,false,false,false,false] {tmps:= #[x0,x1,x2,x3,x4,.pointer (some ⟨C,0,none⟩),x6,x7,x8,x9,x10,x11,x12,x13,.slice (some ad) 9 9,.int .u64 x,X_,R7,x18,x19,x20,x21,x22,x23,x24,x25,x26,x27,x28,x29,x30,x31,x32,x33,x34,x35,x36,x37,x38,x39,x40,x41,x42,x43,x44,x45,x46,x47,x48,x49,x50,x51,x52,x53,x54,x55,x56,x57,x58,x59,x60,x61,x62,x63,x64,x65,x66,x67,x68,x69,x70,x71,x72,x73,x74,x75,x76,x77,x78,x79,x80,x81,x82,x83,x84,x85,x86,x87,x88,x89,x90,x91,x92,x93,x94,x95,x96,x97,x98,x99,x100,x101,x102,x103,x104,x105,afJ,x107,afK,afL,afM,afN,x112,x113],defers:=[]} W.drew:=by
 have HL:=Y2 hl hl1;have HQ:=Y1 hQ;have BX:=Y1 dz;have HY:=Y1 hy;have KO:aG (ca W W.drew):=⟨⟨bz _,fun _ _ h _=>h⟩⟩
 have O0:aG (Kd.R (Kd.int .u64) 36 W.drew n1 (fun _=>True) v0 vs):=⟨h0⟩
 have O1:aG (Kd.R Kd.bool 4 W.drew n1 (fun _=>True) v1 bs):=⟨h1⟩
 have hHeld:Below n1 W W.drew:=⟨rfl,rfl,rfl,bz _,fun _ _=>rfl⟩
 clear hl hl1 hQ dz hy h0 h1;simp only[opsOf,cy,Option.bind_some,Option.getD_some,qb,Nat.reduceBEq,Bool.false_eq_true,if_false,if_true,beq_self_eq_true];refine Aj oU.acK oU.YW (fun sH HW_=>?_);refine mU (i:=0) (N:=some 80) (v:=?_) (a':=?_) #[true,false,false,false,false,false,false,false,false,false,false,false,false,false,false,false,false] rfl rfl (jU sH.out (by kernel_rfl)) (fun _ _ _ h=>hP _ _ _ _ h) (bk ⟨by rfl,?_⟩) ?_ ?_
 rotate_left
 .intro w';go_simp
  with_reducible rfl
 rotate_left
 .simp only[af,aa,ab,ae,gK];rfl
 refine vH (i:=1) (N:=some 81) (v:=?_) (a':=?_) #[true,true,false,false,false,false,false,false,false,false,false,false,false,false,false,false,false] rfl rfl (tN sH.out HW_.out (by kernel_rfl)) (fun _ _ _ h=>hP _ _ _ _ h) (bk ⟨by rfl,?_⟩) hHeld ?_ ?_
 rotate_left
 .rintro w' s0;have hbx:=(s0.block C hC).trans BX.out;have b0:=(ay hbx 0).trans rfl;have b1:=(ay hbx 1).trans rfl;go_simp
  (try with_reducible rfl)
 rotate_left
 .simp only[af,aa,ab,ae,gK];rfl
 refine mU (i:=2) (N:=some 82) (v:=?_) (a':=?_) #[true,true,true,false,false,false,false,false,false,false,false,false,false,false,false,false,false] rfl rfl (jU sH.out (by kernel_rfl)) (fun _ _ _ h=>hP _ _ _ _ h) (bk ⟨by rfl,?_⟩) ?_ ?_
 rotate_left
 .intro w';go_simp
  with_reducible rfl
 rotate_left
 .simp only[af,aa,ab,ae,gK];rfl
 refine mU (i:=5) (N:=some 85) (v:=?_) (a':=?_) #[true,true,true,false,false,true,false,false,false,false,false,false,false,false,false,false,false] rfl rfl (jU sH.out (by kernel_rfl)) (fun _ _ _ h=>hP _ _ _ _ h) (bk ⟨by rfl,?_⟩) ?_ ?_
 rotate_left
 .intro w';go_simp
  with_reducible rfl
 rotate_left
 .simp only[af,aa,ab,ae,gK];rfl
 refine vH (i:=6) (N:=some 86) (v:=?_) (a':=?_) #[true,true,true,false,false,true,true,false,false,false,false,false,false,false,false,false,false] rfl rfl (tN sH.out HW_.out (by kernel_rfl)) (fun _ _ _ h=>hP _ _ _ _ h) (bk ⟨by rfl,?_⟩) hHeld ?_ ?_
 rotate_left
 .rintro w' s0;have hbx:=(s0.block C hC).trans BX.out;have b0:=(ay hbx 0).trans rfl;have b1:=(ay hbx 1).trans rfl;go_simp
  (try with_reducible rfl)
 rotate_left
 .simp only[af,aa,ab,ae,gK];rfl
 refine mU (i:=7) (N:=some 87) (v:=?_) (a':=?_) #[true,true,true,false,false,true,true,true,false,false,false,false,false,false,false,false,false] rfl rfl (jU sH.out (by kernel_rfl)) (fun _ _ _ h=>hP _ _ _ _ h) (bk ⟨by rfl,?_⟩) ?_ ?_
 rotate_left
 .intro w';go_simp
  with_reducible rfl
 rotate_left
 .simp only[af,aa,ab,ae,gK];rfl
 refine mU (i:=8) (N:=some 88) (v:=?_) (a':=?_) #[true,true,true,false,false,true,true,true,true,false,false,false,false,false,false,false,false] rfl rfl (jU sH.out (by kernel_rfl)) (fun _ _ _ h=>hP _ _ _ _ h) (bk ⟨by rfl,?_⟩) ?_ ?_
 rotate_left
 .intro w';go_simp
  with_reducible rfl
 rotate_left
 .simp only[af,aa,ab,ae,gK];rfl
 refine vH (i:=9) (N:=some 89) (v:=?_) (a':=?_) #[true,true,true,false,false,true,true,true,true,true,false,false,false,false,false,false,false] rfl rfl (tN sH.out HW_.out (by kernel_rfl)) (fun _ _ _ h=>hP _ _ _ _ h) (bk ⟨by rfl,?_⟩) hHeld ?_ ?_
 rotate_left
 .rintro w' s0;have hyy:w'.cell? ⟨ad.block,ad.off+8,none⟩=some (.int .u8 y):=(World.cell?_of_block (a:=ad.add 8) (s0.block _ (by rw[add_block];exact hv))).trans HY.out;go_simp
  (try with_reducible rfl)
 rotate_left
 .simp only[af,aa,ab,ae,gK];rfl
 refine mU (i:=10) (N:=some 90) (v:=?_) (a':=?_) #[true,true,true,false,false,true,true,true,true,true,true,false,false,false,false,false,false] rfl rfl (jU sH.out (by kernel_rfl)) (fun _ _ _ h=>hP _ _ _ _ h) (bk ⟨by rfl,?_⟩) ?_ ?_
 rotate_left
 .intro w';go_simp
  with_reducible rfl
 rotate_left
 .simp only[af,aa,ab,ae,gK];rfl
 refine aaX (σ:=cd×cd×cd) 4 #[true,true,true,true,true,true,true,true,true,true,true,true,false,true,false,false,false] (fun s_=>[(83,s_.1),(84,s_.2.1),(91,s_.2.2),(93,.pointer (some ⟨C,0,none⟩))]) (fun s_ w'=>Below n1 W w'∧aG (Kd.R (Kd.int .u64) 36 w' n1 (fun _=>True) s_.2.1 (vs++[x]))∧aG (Kd.R Kd.bool 4 w' n1 (fun _=>True) v1 bs)∧(∃AR cR,s_.2.2=.slice AR 1 cR∧aG (Kd.R Kd.bool 4 w' n1 (fun _=>True) (.slice AR 1 cR) [y==1]))∧aG (ca W w')) ?_ ?_
 rotate_left
 .intro Qe;refine aaW (i:=3) (j:=11) (Ni:=some 83) (Nj:=some 91) #[true,true,true,true,false,true,true,true,true,true,true,false,false,false,false,false,false] #[true,true,true,false,false,true,true,true,true,true,true,true,false,false,false,false,false] rfl rfl rfl rfl (Oh sH.out (by kernel_rfl)) (by decide) (by decide) (fun K hK=>?_) (fun K hK=>?_)
  .skip
   refine Kd.l7 (Kd.int .u64) (w0:=W) n1 36 ?hg (N:=83) ?hd (xs:=[x]) (inner:=[.int .u64 x]) (ok:=fun _=>True) (lX:=fun _=>False) ?hr ?hp (fun _ hk=>trivial) trivial hHeld (ao hn hHeld.size) (by simp) ?_;(case hd=>rfl);(case hg=>rfl);(case hr=>first|(go_simp;done)|(go_simp;rfl));(case hp=>exact mg (Kd.int .u64) rfl rfl);intro p w5 YX hb hg hnew;obtain⟨AP,cP,rfl⟩:=Kd.dV YX;have OP:=Y1 YX;have KO:=Y1 (KO.out.trans (ku hg (fun k e=>by cases e)));have O0:=Y1 (Kd.eu O0.out (HX.eX hg));have O1:=Y1 (Kd.eu O1.out (HX.eX hg));refine hK.out _ _ hb (fun hHeld=>?_);clear YX hb hg hnew;clear hK K;refine og (a':=?_) ?_ ?_
   rotate_left
   .show af _ (some 83) _=_;simp only[af,aa,ab,ae,gK];rfl
   refine aaW (i:=4) (j:=11) (Ni:=some 84) (Nj:=some 91) #[true,true,true,true,true,true,true,true,true,true,true,false,false,false,false,false,false] #[true,true,true,true,false,true,true,true,true,true,true,true,false,false,false,false,false] rfl rfl rfl rfl (Oh sH.out (by kernel_rfl)) (by decide) (by decide) (fun K hK=>?_) (fun K hK=>?_)
   .skip
    refine Kd.iF (Kd.int .u64) (w0:=W) n1 (by rfl) (.tmp 81) (.tmp 83) 251 36 (.int .u64 0) 8 rfl bt Ib rfl (by decide) (by omega) v0 vs [x] _ _ _ (fun _=>True) (fun _=>False) rfl rfl O0.out (X9 OP.out).2.2 (fun _ _ h=>h) (fun _ h=>h.elim) (fun _ _=>trivial) hHeld (ao hn hHeld.size) (by have:=HL.out;(try simp only[ag,ai]);omega) ?_;intro q w5 Xh hb hg hnew;have OQ:=Y1 Xh;have KO:=Y1 (KO.out.trans (ku hg (fun k e=>(Kd.jR O0.out k e).imp fun c hc=>⟨36,hc⟩)));have O1:=Y1 (Kd.jT O1.out rfl hg (qW O0.out O1.out (by decide)));refine hK.out _ _ hb (fun hHeld=>?_);clear Xh hb hg hnew OP O0;clear hK K;refine og (a':=?_) ?_ ?_
    rotate_left
    .show af _ (some 84) _=_;simp only[af,aa,ab,ae,gK];rfl
    refine mU (i:=13) (N:=some 93) (v:=?_) (a':=?_) #[true,true,true,true,true,true,true,true,true,true,true,false,false,true,false,false,false] rfl rfl (jU sH.out (by kernel_rfl)) (fun _ _ _ h=>hP _ _ _ _ h) (bk ⟨by rfl,?_⟩) ?_ ?_
    rotate_left
    .intro w';go_simp
     with_reducible rfl
    rotate_left
    .simp only[af,aa,ab,ae,gK];rfl
    refine NZ (i:=11) (N:=some 91) #[true,true,true,true,true,true,true,true,true,true,true,true,false,true,false,false,false] rfl rfl (pY sH.out (by kernel_rfl)) (by decide) (fun K hK=>?_);refine Kd.l7 Kd.bool (w0:=W) n1 4 ?hg (N:=91) ?hd (xs:=[y==1]) (inner:=[.bool (y==1)]) (ok:=fun _=>True) (lX:=fun _=>False) ?hr ?hp (fun _ hk=>trivial) trivial hHeld (ao hn hHeld.size) (by simp) ?_;(case hd=>rfl);(case hg=>rfl);(case hr=>first|(go_simp;done)|(go_simp;rfl));(case hp=>exact mg Kd.bool rfl rfl);intro r w5 Qf hb hg hnew;obtain⟨AR,cR,rfl⟩:=Kd.dV Qf;have OR:=Y1 Qf;have KO:=Y1 (KO.out.trans (ku hg (fun k e=>by cases e)));have O1:=Y1 (Kd.eu O1.out (HX.eX hg));have OQ:=Y1 (Kd.eu OQ.out (HX.eX hg));refine hK.out _ _ hb (fun hHeld=>?_);clear Qf hb hg hnew;clear hK K;refine og (a':=?_) ?_ ?_
    rotate_left
    .show af _ (some 91) _=_;simp only[af,aa,ab,ae,gK];rfl
    refine og ?_ (Qe (a_ AP [x].length cP,q,a_ AR [y==1].length cR) _ ⟨hHeld,OQ,O1,⟨_,_,rfl,OR⟩,KO⟩);simp only[rY,af,aa,ab,ae,ag,ai]
   .skip
    refine Kd.l7 Kd.bool (w0:=W) n1 4 ?hg (N:=91) ?hd (xs:=[y==1]) (inner:=[.bool (y==1)]) (ok:=fun _=>True) (lX:=fun _=>False) ?hr ?hp (fun _ hk=>trivial) trivial hHeld (ao hn hHeld.size) (by simp) ?_;(case hd=>rfl);(case hg=>rfl);(case hr=>first|(go_simp;done)|(go_simp;rfl));(case hp=>exact mg Kd.bool rfl rfl);intro r w5 Qf hb hg hnew;obtain⟨AR,cR,rfl⟩:=Kd.dV Qf;have OR:=Y1 Qf;have KO:=Y1 (KO.out.trans (ku hg (fun k e=>by cases e)));have O1:=Y1 (Kd.eu O1.out (HX.eX hg));have O0:=Y1 (Kd.eu O0.out (HX.eX hg));have OP:=Y1 (Kd.eu OP.out (HX.eX hg));refine hK.out _ _ hb (fun hHeld=>?_);clear Qf hb hg hnew;clear hK K;refine og (a':=?_) ?_ ?_
    rotate_left
    .show af _ (some 91) _=_;simp only[af,aa,ab,ae,gK];rfl
    refine NZ (i:=4) (N:=some 84) #[true,true,true,true,true,true,true,true,true,true,true,true,false,false,false,false,false] rfl rfl (pY sH.out (by kernel_rfl)) (by decide) (fun K hK=>?_);refine Kd.iF (Kd.int .u64) (w0:=W) n1 (by rfl) (.tmp 81) (.tmp 83) 251 36 (.int .u64 0) 8 rfl bt Ib rfl (by decide) (by omega) v0 vs [x] _ _ _ (fun _=>True) (fun _=>False) rfl rfl O0.out (X9 OP.out).2.2 (fun _ _ h=>h) (fun _ h=>h.elim) (fun _ _=>trivial) hHeld (ao hn hHeld.size) (by have:=HL.out;(try simp only[ag,ai]);omega) ?_;intro q w5 Xh hb hg hnew;have OQ:=Y1 Xh;have KO:=Y1 (KO.out.trans (ku hg (fun k e=>(Kd.jR O0.out k e).imp fun c hc=>⟨36,hc⟩)));have O1:=Y1 (Kd.jT O1.out rfl hg (qW O0.out O1.out (by decide)));have OR:=Y1 (Kd.jT OR.out rfl hg (qW O0.out OR.out (by decide)));refine hK.out _ _ hb (fun hHeld=>?_);clear Xh hb hg hnew OP O0;clear hK K;refine og (a':=?_) ?_ ?_
    rotate_left
    .show af _ (some 84) _=_;simp only[af,aa,ab,ae,gK];rfl
    refine mU (i:=13) (N:=some 93) (v:=?_) (a':=?_) #[true,true,true,true,true,true,true,true,true,true,true,true,false,true,false,false,false] rfl rfl (jU sH.out (by kernel_rfl)) (fun _ _ _ h=>hP _ _ _ _ h) (bk ⟨by rfl,?_⟩) ?_ ?_
    rotate_left
    .intro w';go_simp
     with_reducible rfl
    rotate_left
    .simp only[af,aa,ab,ae,gK];rfl
    refine og ?_ (Qe (a_ AP [x].length cP,q,a_ AR [y==1].length cR) _ ⟨hHeld,OQ,O1,⟨_,_,rfl,OR⟩,KO⟩);simp only[rY,af,aa,ab,ae,ag,ai]
  .skip
   refine Kd.l7 Kd.bool (w0:=W) n1 4 ?hg (N:=91) ?hd (xs:=[y==1]) (inner:=[.bool (y==1)]) (ok:=fun _=>True) (lX:=fun _=>False) ?hr ?hp (fun _ hk=>trivial) trivial hHeld (ao hn hHeld.size) (by simp) ?_;(case hd=>rfl);(case hg=>rfl);(case hr=>first|(go_simp;done)|(go_simp;rfl));(case hp=>exact mg Kd.bool rfl rfl);intro r w5 Qf hb hg hnew;obtain⟨AR,cR,rfl⟩:=Kd.dV Qf;have OR:=Y1 Qf;have KO:=Y1 (KO.out.trans (ku hg (fun k e=>by cases e)));have O1:=Y1 (Kd.eu O1.out (HX.eX hg));have O0:=Y1 (Kd.eu O0.out (HX.eX hg));refine hK.out _ _ hb (fun hHeld=>?_);clear Qf hb hg hnew;clear hK K;refine og (a':=?_) ?_ ?_
   rotate_left
   .show af _ (some 91) _=_;simp only[af,aa,ab,ae,gK];rfl
   refine NZ (i:=3) (N:=some 83) #[true,true,true,true,false,true,true,true,true,true,true,true,false,false,false,false,false] rfl rfl (pY sH.out (by kernel_rfl)) (by decide) (fun K hK=>?_);refine Kd.l7 (Kd.int .u64) (w0:=W) n1 36 ?hg (N:=83) ?hd (xs:=[x]) (inner:=[.int .u64 x]) (ok:=fun _=>True) (lX:=fun _=>False) ?hr ?hp (fun _ hk=>trivial) trivial hHeld (ao hn hHeld.size) (by simp) ?_;(case hd=>rfl);(case hg=>rfl);(case hr=>first|(go_simp;done)|(go_simp;rfl));(case hp=>exact mg (Kd.int .u64) rfl rfl);intro p w5 YX hb hg hnew;obtain⟨AP,cP,rfl⟩:=Kd.dV YX;have OP:=Y1 YX;have KO:=Y1 (KO.out.trans (ku hg (fun k e=>by cases e)));have O0:=Y1 (Kd.eu O0.out (HX.eX hg));have O1:=Y1 (Kd.eu O1.out (HX.eX hg));have OR:=Y1 (Kd.eu OR.out (HX.eX hg));refine hK.out _ _ hb (fun hHeld=>?_);clear YX hb hg hnew;clear hK K;refine og (a':=?_) ?_ ?_
   rotate_left
   .show af _ (some 83) _=_;simp only[af,aa,ab,ae,gK];rfl
   refine NZ (i:=4) (N:=some 84) #[true,true,true,true,true,true,true,true,true,true,true,true,false,false,false,false,false] rfl rfl (pY sH.out (by kernel_rfl)) (by decide) (fun K hK=>?_);refine Kd.iF (Kd.int .u64) (w0:=W) n1 (by rfl) (.tmp 81) (.tmp 83) 251 36 (.int .u64 0) 8 rfl bt Ib rfl (by decide) (by omega) v0 vs [x] _ _ _ (fun _=>True) (fun _=>False) rfl rfl O0.out (X9 OP.out).2.2 (fun _ _ h=>h) (fun _ h=>h.elim) (fun _ _=>trivial) hHeld (ao hn hHeld.size) (by have:=HL.out;(try simp only[ag,ai]);omega) ?_;intro q w5 Xh hb hg hnew;have OQ:=Y1 Xh;have KO:=Y1 (KO.out.trans (ku hg (fun k e=>(Kd.jR O0.out k e).imp fun c hc=>⟨36,hc⟩)));have O1:=Y1 (Kd.jT O1.out rfl hg (qW O0.out O1.out (by decide)));have OR:=Y1 (Kd.jT OR.out rfl hg (qW O0.out OR.out (by decide)));refine hK.out _ _ hb (fun hHeld=>?_);clear Xh hb hg hnew OP O0;clear hK K;refine og (a':=?_) ?_ ?_
   rotate_left
   .show af _ (some 84) _=_;simp only[af,aa,ab,ae,gK];rfl
   refine mU (i:=13) (N:=some 93) (v:=?_) (a':=?_) #[true,true,true,true,true,true,true,true,true,true,true,true,false,true,false,false,false] rfl rfl (jU sH.out (by kernel_rfl)) (fun _ _ _ h=>hP _ _ _ _ h) (bk ⟨by rfl,?_⟩) ?_ ?_
   rotate_left
   .intro w';go_simp
    with_reducible rfl
   rotate_left
   .simp only[af,aa,ab,ae,gK];rfl
   refine og ?_ (Qe (a_ AP [x].length cP,q,a_ AR [y==1].length cR) _ ⟨hHeld,OQ,O1,⟨_,_,rfl,OR⟩,KO⟩);simp only[rY,af,aa,ab,ae,ag,ai]
 clear KO O0 O1 hHeld;rintro⟨p,q,r⟩ w6 ⟨hHeld,OQ,O1,⟨AR,cR,rfl,OR⟩,KO⟩;refine og (a':=?_) ?_ ?_
 rotate_left
 .simp only[rY,af,aa,ab,ae];rfl
 refine NZ (i:=12) (N:=some 92) #[true,true,true,true,true,true,true,true,true,true,true,true,true,true,false,false,false] rfl rfl (pY sH.out (by kernel_rfl)) (by decide) (fun K hK=>?_);refine Kd.iF Kd.bool (w0:=W) n1 (by rfl) (.tmp 86) (.tmp 91) 41 4 (.bool false) 1 rfl underlying41 acJ rfl (by decide) (by omega) v1 bs [y==1] _ _ _ (fun _=>True) (fun _=>False) rfl rfl O1.out (X9 OR.out).2.2 (fun _ _ h=>h) (fun _ h=>h.elim) (fun _ _=>trivial) hHeld (ao hn hHeld.size) (by have:=HL.out;(try simp only[ag,ai]);omega) ?_;intro t w7 hoT hb hg hnew;have OT:=Y1 hoT;have KO:=Y1 (KO.out.trans (ku hg (fun k e=>(Kd.jR O1.out k e).imp fun c hc=>⟨4,hc⟩)));have OQ:=Y1 (Kd.jT OQ.out rfl hg (qW O1.out OQ.out (by decide)));refine hK.out _ _ hb (fun hHeld=>?_);clear hoT hb hg hnew OR O1;clear hK K;refine og (a':=?_) ?_ ?_
 rotate_left
 .show af _ (some 92) _=_;simp only[af,aa,ab,ae,gK];rfl
 obtain⟨AQ,cQ,rfl⟩:=Kd.dV OQ.out;obtain⟨AT,cT,rfl⟩:=Kd.dV OT.out;have Ut:=Y1 ((hHeld.block C hC).trans BX.out);have SP:=Y1 (Stp.of_below (C:=C) hHeld KO.out);have NQ:=Kd.KG OQ.out Ut.out (by decide);have NT:=Kd.KG OT.out Ut.out (by decide);clear BX HY KO hHeld;refine N7 (i:=14) (N:=none) #[true,true,true,true,true,true,true,true,true,true,true,true,true,true,true,false,false] rfl rfl (pY sH.out (by kernel_rfl)) (by decide) (fun K hK=>?_);have hbx:=Ut.out;have b0:=(ay hbx 0).trans rfl;have f0:=aj hbx 0;refine N8 (w1:=w7.setCell ⟨C,0,none⟩ (.slice AQ (vs++[x]).length cQ)) (by rfl) rfl ?_ ?_
 .go_simp
  done
 have acL:=Y1 (iW hbx 0 (.slice AQ (vs++[x]).length cQ) rfl);clear hbx b0 f0 Ut;refine hK.out _ _ ?_;generalize YZ:w7.setCell ⟨C,0,none⟩ (.slice AQ (vs++[x]).length cQ)=w8 at*;clear hK K;refine mU (i:=15) (N:=some 94) (v:=?_) (a':=?_) #[true,true,true,true,true,true,true,true,true,true,true,true,true,true,true,true,false] rfl rfl (jU sH.out (by kernel_rfl)) (fun _ _ _ h=>hP _ _ _ _ h) (bk ⟨by rfl,?_⟩) ?_ ?_
 rotate_left
 .intro w';go_simp
  with_reducible rfl
 rotate_left
 .simp only[af,aa,ab,ae,gK];rfl
 refine N7 (i:=16) (N:=none) #[true,true,true,true,true,true,true,true,true,true,true,true,true,true,true,true,true] rfl rfl (pY sH.out (by kernel_rfl)) (by decide) (fun K hK=>?_);have hbx:=acL.out;have b0:=(ay hbx 1).trans rfl;have f0:=aj hbx 1;refine N8 (w1:=w8.setCell ⟨C,1,none⟩ (.slice AT (bs++[y==1]).length cT)) (by rfl) rfl ?_ ?_
 .go_simp
  done
 have afO:=Y1 (iW hbx 1 (.slice AT (bs++[y==1]).length cT) rfl);clear hbx b0 f0 acL;refine hK.out _ _ ?_;generalize Y0:w8.setCell ⟨C,1,none⟩ (.slice AT (bs++[y==1]).length cT)=w9 at*;clear hK K;refine Wu (Ji sH.out (by kernel_rfl)) ?_;have g:∀{α:Type} {d:Kd α} {e i:Nat} {w w':an} {v u:cd} {l:List α},d.E=[]->w.setCell ⟨C,i,none⟩ u=w'->some C≠v.ownBlock->d.R e w n1 (fun _=>True) v l->d.R e w' n1 (fun _=>True) v l:=fun hE hw hne h=>by subst hw;exact Kd.iA (Kd.vJ (Kd.Oe h hE hne) (p:=⟨C,_,none⟩) (fun k hk=>hk.2) _) (fun _ _=>trivial)
 refine HQ.out _ _ _ _ afO.out (g rfl Y0 NQ (g rfl YZ NQ OQ.out)) (g rfl Y0 NT (g rfl YZ NT OT.out)) ?_;rw[<-Y0,<-YZ];exact(SP.out.trans (Stp.set _ _ _ _ _)).trans (Stp.set _ _ _ _ _)
end Go.Proofs.YtlhhcnknclnlaaaGreatDoor.Dec
namespace Go.Proofs.YtlhhcnknclnlaaaGreatDoor.Dec
open Go Go.RowKit Go.Proofs.YtlhhcnknclnlaaaGreatDoor.iH Go.Proofs.YtlhhcnknclnlaaaGreatDoor.RgI Go.Proofs.YtlhhcnknclnlaaaGreatDoor.Oct Go.Proofs.YtlhhcnknclnlaaaGreatDoor.HX Go.Proofs.ah.aN Go.Proofs.ah.bA Go.Proofs.ah.dx
def J3(ops:Array Oper):Bool:=ops.toList.all fun o=>match o.op with
 | .defer _=>false
 |_=>true
variable {ops:Array Oper}
theorem CU(h:J3 ops=true):∀(i:Nat) (o:Oper) (c:Call),ops[i]? =some o->o.op≠.defer c:=by
 intro i o c hi he;have hm:o∈ops.toList:=by
  rw[<-Array.getElem?_toList]at hi;exact List.mem_of_getElem? hi
 have:=List.all_eq_true.1 h o hm;rw[he]at this;cases this
theorem Lu{P:Program}{Q:Exit->Act->an->Prop}{l n id f k:Nat}{fn:Func}{lits:Array Bool}{a:Act}{w:an}{S:an->Prop}{ds:List Nat}(ho:opsOf fn k=ops)(hn:ops.size=f)(hl:Array.replicate f false=lits)(hnd:J3 ops=true)(hL:¬LetsOut Q)(hm:P.follows .mixedOrders=true)(hS:S w.drew)(h:aK P .any (opsOf fn k) Q S ds f lits a w.drew):(Code.region id ops true).wpIn (aE.inRound l) n P Q a w:=by
 subst hl;subst hn;subst ho;exact Aq hL (CU hnd) hm hS (fun _=>h)
structure nI (n1 C:Nat) (W W':an):Prop where
 os:W'.os=W.os
 tape:W'.tape=W.tape
 output:W'.output=W.output
 size:W.heap.size<=W'.heap.size
 block:∀k,k<n1->k≠C->W'.heap[k]? =W.heap[k]?
theorem nI.refl(n1 C:Nat)(W:an):nI n1 C W W:=⟨rfl,rfl,rfl,bz _,fun _ _ _=>rfl⟩
theorem nI.trans{n1 C:Nat}{X Y Z:an}(h:nI n1 C X Y)(k:nI n1 C Y Z):nI n1 C X Z:=⟨k.os.trans h.os,k.tape.trans h.tape,k.output.trans h.output,ao h.size k.size,fun i a b=>(k.block i a b).trans (h.block i a b)⟩
variable {W W' W0:an}{m n1:Nat}
theorem nI.Qg{C:Nat}(h:Stp n1 C W W'):nI n1 C W W':=⟨h.os,h.tape,h.output,h.others.size,h.block⟩
theorem nI.below{n0 C:Nat}(h:nI n1 C W W')(h1:n0<=n1)(h2:n0<=C):Below n0 W W':=⟨h.os,h.tape,h.output,h.size,fun k hk=>h.block k (by omega) (by omega)⟩
theorem Stp.Lv{C:Nat}(h:Below W.heap.size W W')(hn:n1<=W.heap.size):Stp n1 C W W':=⟨h.os,h.tape,h.output,fun k a _=>h.block k (by omega),⟨h.size,fun k o hk _=>(h.block k (Array.getElem?_eq_some_iff.1 hk).1).trans hk⟩⟩
def Uu(n1 C:Nat)(W0:an)(body:List Int)(m:Nat)(pre:List (Fin m))(W:an):Prop:=
 ∃v0 v1,W.heap[C]? =some (.cells #[v0,v1] 253 (0,0))∧Kd.R (Kd.int .u64) 36 W n1 (fun _=>True) v0 ((pre.map fun i=>Xg body i.1).map Prod.fst)∧Kd.R Kd.bool 4 W n1 (fun _=>True) v1 ((pre.map fun i=>Xg body i.1).map Prod.snd)∧nI n1 C W0 W
variable {body:List Int}
theorem Qh{C:Nat}(hC:C<n1)(hn:n1<=W0.heap.size):OwnFrom n1 (Uu n1 C W0 body m):=by
 rintro pre W W' row ⟨v0,v1,hb,h0,h1,hk⟩ hg hr;have hne:∀{α:Type} {d:Kd α} {e:Nat} {v:cd} {xs:List α},d.R e W n1 (fun _=>True) v xs->∀k,row=some k->some k≠v.ownBlock:=by
  intro α d e v xs h k hk he;obtain⟨o,ho⟩:=(hr k hk).2;obtain⟨c,hc⟩:=Kd.jR h k he.symm;rw[hc]at ho;cases ho.1;cases ho.2
 refine⟨v0,v1,qE hb hg (fun e=>by have:=(hr C e.symm).1;omega),Kd.jT h0 rfl hg (hne h0),Kd.jT h1 rfl hg (hne h1),hk.trans ⟨hg.os,hg.tape,hg.output,hg.size,fun k hk' _=>hg.block k (by have:=hk.size;omega) (fun e=>by have:=(hr k e.symm).1;omega)⟩⟩
theorem Ic{C:Nat}(h:W0.heap[C]? =some (.cells #[.slice none 0 0,.slice none 0 0] 253 (0,0))):Uu n1 C W0 body m [] W0:=
 ⟨_,_,h,Kd.sW _ _ _ _ _,Kd.sW _ _ _ _ _,nI.refl _ _ _⟩
theorem Lx(body:List Int)(m:Nat):(CP.come m m).map (fun i=>Xg body i.1)=CS body m:=by
 apply List.ext_getElem
 .simp[CP.come,CS]
 .intro i h1 h2;simp[CP.come,CS]
end Go.Proofs.YtlhhcnknclnlaaaGreatDoor.Dec
