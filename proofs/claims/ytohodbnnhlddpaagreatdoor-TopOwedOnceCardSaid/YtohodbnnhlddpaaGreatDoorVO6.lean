/- TopOwedOnce, part 6 of 14: rules, lemmas, walks. Conditions: none. -/
import Derived.Test.YtohodbnnhlddpaaGreatDoorVO5
import Derived.Test.YtohodbnnhlddpaaGreatDoorShc
import Derived.Lib.Builder
import Derived.LaidEql
namespace Go.Proofs.YtohodbnnhlddpaaGreatDoor
open Go.RowKit
set_option linter.unusedVariables false
section
variable {mk:Prop}[MK mk]
theorem madePut:(madeCells (Value.agg #[.pointer none,.bool false]).cells (1*2)).toList=[.pointer none,.bool false]:=by kernel_rfl
theorem nodesIt_ok{yv:Value}{X:List Nat}{i D:List Nd->World->Prop}(w:World)(B b o:Nat)(f:Fml)(H:NodesR yv X w.heap.size (De false f) i D)(b4:Blk w B 96 [.pointer (some ⟨b,o,none⟩)])(K:PF (fun b=>b∉X/\b<w.heap.size) w b o f)(C:GF w)(hN:10<=w.heap.size)(hd:dpF f<=5000)(r:i [] w)(hX:∀x∈X,x<w.heap.size):
  Fn Zp 178 [yv,pt B] w fun _ w'=>Keep X w w'/\(i (De false f) w'\/∃M,M<+:De false f/\M≠[]/\D M w'):=by
 have F:∀{c:Nat},w.heap.size<=c->c∉X:=fun h T=>by have:=hX _ T;omega
 have hy:=H.fn;obtain⟨y,rfl⟩:=hy;refine AG Tryz.func178 rfl Tryz.ntmps178 (go ?_);refine Ai (L:=[.func (.yield y) #[] #[]]) rfl (fun R E=>go ?_);have c1:R.cell? ⟨B,0,none⟩=some (.pointer (some ⟨b,o,none⟩)):=(b4.E E.E O).cell rfl;refine go ?_;refine AP (out:=[.pointer (some ⟨b,o,none⟩),.bool false]) rfl U (by rw[madePut];rfl) (fun g N=>?_);refine AS (fun w3 Z=>?_);refine AR (v:=.slice (sm R.heap.size) 1 1) rfl rfl rfl Z.D O (fun u m=>go ?_);refine AS (fun w5 I=>go ?_);refine AR (v:=.func (.func 179) #[] #[pt g.heap.size,pt w.heap.size,pt u.heap.size]) rfl rfl rfl I.D O (fun q z=>go ?_);have z1:=E.size;have z2:=N.size;have z3:=Z.size;have z4:=m.size;have z5:=I.size;have z6:=z.size;have b7:Ext g u:=Z.E.E m.E O;have a2:Ext u q:=I.E.E z.E O;have a1:=b7.trans a2;have a0:=N.E.trans a1;have Q:Ext w q:=E.E.trans a0;have t:Blk q w.heap.size 231 [.func (.yield y) #[] #[]]:=E.D.E a0 O;have n:Blk q R.heap.size 233 [.pointer (some ⟨b,o,none⟩),.bool false]:=N.D.E a1 O;have j:Blk q g.heap.size 234 [.slice (sm R.heap.size) 1 1]:=m.D.E a2 O;have l:Blk q u.heap.size 235 [.func (.func 179) #[] #[pt g.heap.size,pt w.heap.size,pt u.heap.size]]:=z.D;have x4:w.heap.size∉X:=F (Nat.le_refl _);have xp:R.heap.size∉X:=F U;have x3:g.heap.size∉X:=F U;have x5:u.heap.size∉X:=F U;replace C:=C.ext Q;replace K:=K.E Q (fun _ _=>by simp);replace r:=H.ext r Q;clear c1 E N Z m I z
 refine Ah (α:=Nat) (fun k=>[(3,pt g.heap.size),(4,pt u.heap.size)]) (fun k W=>k<=1/\Keep X w W/\(k=1->i [] W)/\(k=0->i (De false f) W)/\GF W/\PF (fun b=>b∉X/\b<w.heap.size) W b o f/\Blk W g.heap.size 234 [.slice (sm R.heap.size) k 1]/\
  Blk W R.heap.size 233 [.pointer (some ⟨b,o,none⟩),.bool false]/\Blk W w.heap.size 231 [.func (.yield y) #[] #[]]/\Blk W u.heap.size 235 [.func (.func 179) #[] #[pt g.heap.size,pt w.heap.size,pt u.heap.size]]) (fun k=>k) 1 ⟨rfl,rfl,trivial⟩
  ⟨by omega,Q.any,fun _=>r,fun h=>by omega,C,K,j,n,t,l⟩ ?_
 clear j n t l C K r;rintro k W fr⟨hk,kW,a9,a8,a7,b5,j,n,t,l⟩;refine go ?_;by_cases b6:k=0
 ·subst b6;refine go ?_;exact BF rfl ⟨kW,.inl (a8 rfl)⟩
 obtain rfl:k=1:=by omega
 refine go ?_;refine Au (cs:=[.pointer (some ⟨b,o,none⟩),.bool false]) rfl rfl Dx (AW rfl) (fun w7 s=>go ?_);have l3:=j.lt;have a4:=j.E s.E O;have z7:=s.size;refine go ?_;refine AR (v:=.slice (sm R.heap.size) 0 1) rfl rfl rfl a4 O (fun p d=>go ?_);have e:=s.D.E d.E Dw;have A:Keep [g.heap.size] W p:=(s.E.mono (fun _ h=>by cases h)).trans d.E (fun _ h _=>h);have b9:w.heap.size≠g.heap.size:=by omega
 have c0:u.heap.size≠g.heap.size:=by omega
 have a6:=n.E A Dw;have G:=t.E A Dw;have P:=l.E A Dw;have S:=a7.E A (fun x T=>by simp at T;omega);have V:=b5.E A (fun x T=>by have:=T.2;simp;omega);have b0:=H.E (a9 rfl) A (fun x T=>by simp at T;omega);have b8:Keep X w p:=kW.trans A (fun x T h=>by simp at T;omega);have e0:p.cell? ⟨W.heap.size,0+0,none⟩=some (.pointer (some ⟨b,o,none⟩)):=e.cell rfl;have e1:p.cell? ⟨W.heap.size,0+1,none⟩=some (.bool false):=e.cell rfl;refine go ?_;refine Az (v1:=[]) (v2:=[pt g.heap.size,pt w.heap.size,pt u.heap.size]) (vs:=[.pointer (some ⟨b,o,none⟩),.bool false,iV 0]) rfl (visit_ok H g.heap.size w.heap.size u.heap.size x4 x5 (dpF f) p b o f false 0 [] (Nat.le_refl _) U V S G P b0 O) rfl ?_;rintro _ w9⟨a,hr⟩;have a5:=d.D.E a x3;have a3:Keep X w w9:=b8.trans a (fun _ h _=>h);rcases hr with⟨rfl,b1⟩|⟨rfl,M,b2,b3,hD⟩
 ·refine go ?_;refine⟨0,⟨rfl,⟨rfl,rfl,trivial⟩,⟨by omega,a3,fun h=>by omega,fun _=>by simpa using b1,S.E a H.glob,V.E a (fun _ h=>h.1),a5,a6.E a xp,G.E a x4,P.E a x5⟩⟩,by omega⟩
 ·refine go ?_;exact fin_ret0 rfl ⟨a3,.inr ⟨M,b2,b3,by simpa using hD⟩⟩
theorem nodes_ok(w:World)(b o:Nat):Fn Zp 131 [.pointer (some ⟨b,o,none⟩)] w fun v w'=>v=.func (.func 178) #[] #[pt w.heap.size]/\New w w' 96 [.pointer (some ⟨b,o,none⟩)]:=by
 refine AG Tryz.func131 rfl Tryz.ntmps131 (go ?_);refine Ai (L:=[.pointer (some ⟨b,o,none⟩)]) rfl (fun R E=>go ?_);exact AB rfl ⟨rfl,E⟩
theorem szL_app:∀l m:LF,szL (l++m)=szL l+szL m
 | [],m=>by simp[szL]
 |f::l,m=>by simp only[List.cons_append,szL,szL_app l m];omega
theorem szL_take{l:LF}{k:Nat}{x:Fml}(h:l[k]?=some x):szL (l.take (k+1))=szL (l.take k)+szF x:=by
 rw[List.take_add_one,h,Option.toList_some,szL_app];simp[szL]
theorem szL_take_le(l:LF)(k:Nat):szL (l.take k)<=szL l:=by
 conv=>rhs;rw[<-List.take_append_drop k l,szL_app]
 omega
theorem dpL_le_iff{n:Nat}:∀{l:LF},dpL l<=n↔∀a∈l,dpF a<=n
 | []=>by simp[dpL]
 |c::l=>by simp only[dpL,List.mem_cons,forall_eq_or_imp,<-dpL_le_iff (l:=l)];omega
abbrev fitsV(D S:Nat):Value:=.func (.func 130) #[] #[pt D,pt S]
theorem fits_ok(g i:Nat)(A:i≠g):∀(D:Nat)(w:World)(b o:Nat)(f:Fml)(S:Nat),D<=1000->S<=1000->PF (fun b=>b≠g) w b o f->Blk w g 3 [iV S]->Blk w i 185 [fitsV g i]->
  Fn Zp 130 [.pointer (some ⟨b,o,none⟩),iV D,pt g,pt i] w fun v w'=>Keep [g] w w'/\((szF f<=S/\dpF f<=D/\v=.bool true/\Blk w' g 3 [iV (S-szF f:Nat)])\/(¬(szF f<=S/\dpF f<=D)/\v=.bool false)):=by
 intro D
 induction D with
 |zero=>
  intro w b o f S Z j K d y;refine AG Tryz.func130 rfl Tryz.ntmps130 (go ?_);refine AR (v:=iV ((S:Int)-1)) rfl rfl rfl d O (fun w1 q=>go ?_);replace d:=q.D;replace y:=y.E q.E EI;replace K:=K.E q.E (fun b u=>by simpa using u);obtain⟨r,z,_,B,L⟩:=K.arg;refine AX (rd 0 11 .done) An Dv (fun H I G=>⟨Ext H,?_,?_⟩)
  ·exact Ew
  have F:∀V,Ext H V->V.cell? ⟨g,0,none⟩=some (iV ((S:Int)-1)):=fun V e=>(Blk.E d (I.trans e) O).cell rfl;have s:∀V,Ext H V->V.cell? ⟨b,o+4,none⟩=some (.slice r f.args.length z):=fun V e=>(I.trans e).cell B O;((apply D_R rfl rfl;(intro W c;refine AL rfl (F W c) ?_;exact AA ⟨rfl,rfl,rfl⟩))<;>(apply D_R rfl rfl;(intro W c;refine Af rfl ?_;exact AA ⟨rfl,rfl,rfl⟩))<;>(apply D_R rfl rfl;(intro W c;refine AM rfl ?_;exact AA ⟨rfl,rfl,rfl⟩))<;>(apply D_R rfl rfl;(intro W c;refine AD rfl ?_;exact AA ⟨rfl,rfl,rfl⟩))<;>(apply D_R rfl rfl;(intro W c;refine AL rfl (s W c) ?_;exact AA ⟨rfl,rfl,rfl⟩))<;>(apply D_R rfl rfl;(intro W c;refine Bt rfl ?_;exact AA ⟨rfl,rfl,rfl⟩))<;>(refine C8 rfl rfl rfl rfl (fun m=>?_) (fun m=>?_)<;>try omega)<;>(apply D_R rfl rfl;(intro W c;refine AI rfl ?_;exact AA ⟨rfl,rfl,rfl⟩))<;>(first|refine A8 rfl rfl rfl rfl ?_|(apply D_R rfl rfl;(intro W c;(refine AN rfl ?_;refine AY rfl ?_);exact AA ⟨rfl,rfl,rfl⟩)))<;>(first|refine A8 rfl rfl rfl rfl ?_|(refine C8 rfl rfl rfl rfl (fun m=>?_) (fun m=>?_)<;>try omega))<;>(apply D_R rfl rfl;(intro W c;((first|refine Am rfl ?_|refine Al rfl ?_);refine AI rfl ?_);exact AA ⟨rfl,rfl,rfl⟩))<;>refine Bq ?_)
  all_goals
   refine go ?_;exact AB rfl ⟨(q.E.trans I.any (fun _ h _=>h)),.inr ⟨by rw[BQ];omega,rfl⟩⟩
 |succ n ih=>
  intro w b o f S Z j K d y;rw[BJ,BQ];refine AG Tryz.func130 rfl Tryz.ntmps130 (go ?_);refine AR (v:=iV ((S:Int)-1)) rfl rfl rfl d O (fun w1 q=>go ?_);replace d:=q.D;replace y:=y.E q.E EI;replace K:=K.E q.E (fun b u=>by simpa using u);obtain⟨r,z,_,B,L⟩:=K.arg;have a7:=Bz f.args;by_cases a6:(S:Int)-1<f.args.length
  ·refine AX (rd 0 11 .done) An Dv (fun H I G=>⟨Ext H,?_,?_⟩)
   ·exact Ew
   have F:∀V,Ext H V->V.cell? ⟨g,0,none⟩=some (iV ((S:Int)-1)):=fun V e=>(Blk.E d (I.trans e) O).cell rfl;have s:∀V,Ext H V->V.cell? ⟨b,o+4,none⟩=some (.slice r f.args.length z):=fun V e=>(I.trans e).cell B O;((apply D_R rfl rfl;(intro W c;refine AL rfl (F W c) ?_;exact AA ⟨rfl,rfl,rfl⟩))<;>(apply D_R rfl rfl;(intro W c;refine Af rfl ?_;exact AA ⟨rfl,rfl,rfl⟩))<;>(apply D_R rfl rfl;(intro W c;refine AM rfl ?_;exact AA ⟨rfl,rfl,rfl⟩))<;>(apply D_R rfl rfl;(intro W c;refine AD rfl ?_;exact AA ⟨rfl,rfl,rfl⟩))<;>(apply D_R rfl rfl;(intro W c;refine AL rfl (s W c) ?_;exact AA ⟨rfl,rfl,rfl⟩))<;>(apply D_R rfl rfl;(intro W c;refine Bt rfl ?_;exact AA ⟨rfl,rfl,rfl⟩))<;>(refine C8 rfl rfl rfl rfl (fun m=>?_) (fun m=>?_)<;>try omega)<;>(apply D_R rfl rfl;(intro W c;refine AI rfl ?_;exact AA ⟨rfl,rfl,rfl⟩))<;>refine A8 rfl rfl rfl rfl (A8 rfl rfl rfl rfl ?_)<;>(apply D_R rfl rfl;(intro W c;(refine Am rfl ?_;refine AI rfl ?_);exact AA ⟨rfl,rfl,rfl⟩))<;>refine Bq ?_)
   all_goals
    refine go ?_;exact AB rfl ⟨(q.E.trans I.any (fun _ h _=>h)),.inr ⟨by omega,rfl⟩⟩
  by_cases a4:(n:Int)+1<1
  ·omega
  refine AX (rd 0 11 .done) An Dv (fun H I G=>⟨Ext H,?_,?_⟩)
  ·exact Ew
  have F:∀V,Ext H V->V.cell? ⟨g,0,none⟩=some (iV ((S:Int)-1)):=fun V e=>(Blk.E d (I.trans e) O).cell rfl;have s:∀V,Ext H V->V.cell? ⟨b,o+4,none⟩=some (.slice r f.args.length z):=fun V e=>(I.trans e).cell B O;((apply D_R rfl rfl;(intro W c;refine AL rfl (F W c) ?_;exact AA ⟨rfl,rfl,rfl⟩))<;>(apply D_R rfl rfl;(intro W c;refine Af rfl ?_;exact AA ⟨rfl,rfl,rfl⟩))<;>(apply D_R rfl rfl;(intro W c;refine AM rfl ?_;exact AA ⟨rfl,rfl,rfl⟩))<;>(apply D_R rfl rfl;(intro W c;refine AD rfl ?_;exact AA ⟨rfl,rfl,rfl⟩))<;>(apply D_R rfl rfl;(intro W c;refine AL rfl (s W c) ?_;exact AA ⟨rfl,rfl,rfl⟩))<;>(apply D_R rfl rfl;(intro W c;refine Bt rfl ?_;exact AA ⟨rfl,rfl,rfl⟩))<;>(refine C8 rfl rfl rfl rfl (fun m=>?_) (fun m=>?_)<;>try omega)<;>(apply D_R rfl rfl;(intro W c;refine AI rfl ?_;exact AA ⟨rfl,rfl,rfl⟩))<;>(apply D_R rfl rfl;(intro W c;(refine AN rfl ?_;refine AY rfl ?_);exact AA ⟨rfl,rfl,rfl⟩))<;>(refine C8 rfl rfl rfl rfl (fun m=>?_) (fun m=>?_)<;>try omega)<;>(apply D_R rfl rfl;(intro W c;(refine Al rfl ?_;refine AI rfl ?_);exact AA ⟨rfl,rfl,rfl⟩))<;>refine Bq ?_)
  refine go ?_;replace d:=d.E I O;replace y:=y.E I O;replace K:=K.E I (fun _ _=>by simp);have k1:Keep [g] w H:=q.E.ext I;clear F s L;replace B:=I.cell B O;refine go ?_;refine Ah (α:=Nat) (fun k=>[(0,.pointer (some ⟨b,o,none⟩)),(1,iV ((n+1:Nat):Int)),(2,pt g),(3,pt i),(25,iV (f.args.length:Int)),(26,iV (k:Int))]) (fun k W=>k<=f.args.length/\Keep [g] w W/\szL (f.args.take k)+1<=S/\dpL (f.args.take k)<=n/\PF (fun b=>b≠g) W b o f/\Blk W g 3 [iV (S-1-szL (f.args.take k):Nat)]/\Blk W i 185 [fitsV g i]) (fun k=>f.args.length-k) 0 ⟨rfl,rfl,rfl,rfl,rfl,rfl,trivial⟩ ⟨by omega,k1,by simp[szL];omega,by simp[dpL],K,by rw[show((S-1-szL (f.args.take 0):Nat):Int)=(S:Int)-1 by simp[szL];omega];exact d,y⟩ ?_;rintro k W fr⟨hk,R,a3,Q,P,N,p⟩;refine go ?_;by_cases a2:k<f.args.length
  ·refine go ?_;obtain⟨x,T⟩:∃x,f.args[k]?=some x:=⟨_,List.getElem?_eq_getElem a2⟩;obtain⟨r,z,_,B,L⟩:=P.arg;obtain⟨E,l,rfl,a1⟩:=L k x T;have b1:=szL_take T;have b0:=szL_take_le f.args (k+1);have a5:=Bi (List.mem_of_getElem? T);refine AX (rd 0 9 (.alt 9 (.read 10 .done) .stop)) An Dv (fun H I G=>⟨Keep [g] H,?_,?_⟩)
   ·exact FK
   have F:∀V,Keep [g] H V->V.cell? ⟨i,0,none⟩=some (fitsV g i):=fun V e=>((p.E I O).E e EI).cell rfl;have s:∀V,Keep [g] H V->V.cell? ⟨b,o+4,none⟩=some (.slice (some ⟨E,l,none⟩) f.args.length z):=fun V e=>e.cell (I.cell B O) (by simpa using P.1);((apply D_R rfl rfl;(intro W c;refine AL rfl (F W c) ?_;exact AA ⟨rfl,rfl,rfl⟩))<;>(apply D_R rfl rfl;(intro W c;refine Af rfl ?_;exact AA ⟨rfl,rfl,rfl⟩))<;>(apply D_R rfl rfl;(intro W c;refine AM rfl ?_;exact AA ⟨rfl,rfl,rfl⟩))<;>(apply D_R rfl rfl;(intro W c;refine AD rfl ?_;exact AA ⟨rfl,rfl,rfl⟩))<;>(apply D_R rfl rfl;(intro W c;refine AL rfl (s W c) ?_;exact AA ⟨rfl,rfl,rfl⟩))<;>(apply D_R rfl rfl;(intro W c;refine AY rfl ?_;exact AA ⟨rfl,rfl,rfl⟩))<;>(apply D_R rfl rfl;(intro W c;refine Cd rfl rfl rfl U ?_;exact AA ⟨rfl,rfl,rfl⟩))<;>(apply D_R rfl rfl;(intro W c;refine AY rfl ?_;exact AA ⟨rfl,rfl,rfl⟩))<;>(apply D_R rfl rfl;(intro W c;refine W_sub rfl rfl D8 ?_;exact AA ⟨rfl,rfl,rfl⟩)))
   refine D_E rfl ?_;refine Az (v1:=[]) (v2:=[pt g,pt i]) (vs:=[.pointer (some ⟨E,l+k*5,none⟩),iV (((n+1:Nat):Int)-1)]) rfl (by rw[show((n+1:Nat):Int)-1=(n:Int) by omega];exact ih H E (l+k*5) x (S-1-szL (f.args.take k)) U U (a1.E I (fun _ _=>by simp)) (N.E I O) (p.E I O)) rfl ?_;rintro _ w4⟨C,hr⟩;refine AA ⟨Keep [g] H,fun _ e=>e,C,?_⟩;have X:Keep [g] w w4:=(R.ext I).trans C (fun _ T _=>T);rcases hr with⟨a9,a0,rfl,M⟩|⟨a8,rfl⟩
   ·refine go ?_;refine⟨k+1,⟨rfl,⟨rfl,rfl,rfl,rfl,rfl,?_,trivial⟩,⟨by omega,X,by omega,?_,(P.E I (fun _ _=>by simp)).E C (fun b u=>by simpa using u),?_,(p.E I O).E C EI⟩⟩,by omega⟩
    ·show iV ((k:Int)+1)=_;rw[Int.natCast_add];rfl
    ·rw[List.take_add_one,T];refine dpL_le_iff.2 fun a t=>?_;rcases List.mem_append.1 t with t|t
     ·exact dpL_le_iff.1 Q a t
     ·obtain rfl:a=x:=by simpa using t
      exact a0
    ·rw[show S-1-szL (f.args.take (k+1))=S-1-szL (f.args.take k)-szF x by omega];exact M
   ·refine go ?_;exact AB rfl ⟨X,.inr ⟨by omega,rfl⟩⟩
  ·refine go ?_;rw[List.take_of_length_le U]at a3 Q N;refine AB rfl ⟨R,.inl ⟨by omega,by omega,rfl,?_⟩⟩;rw[show S-(szL f.args+1)=S-1-szL f.args by omega];exact N
theorem within_ok(w:World)(b o:Nat)(f:Fml)(S D:Nat)(j:S<=1000)(e:D<=1000)(i:PF (fun b=>b<w.heap.size) w b o f):
  Fn Zp 83 [.pointer (some ⟨b,o,none⟩),iV S,iV D] w fun v w'=>v=.bool (decide (szF f<=S)&&decide (dpF f<=D))/\Ext w w':=by
 refine AG Tryz.func83 rfl Tryz.ntmps83 (go ?_);refine Ai (L:=[iV S]) rfl (fun R E=>go ?_);refine AS (fun l N=>go ?_);refine AR (v:=fitsV w.heap.size R.heap.size) rfl rfl rfl N.D O (fun d K=>go ?_);have c:=E.size;have M:=N.size;have y:=K.D;have G:=N.E.E K.E O;have g:Ext w d:=E.E.trans G;have m:=E.D.E G O;refine go ?_;refine Az (v1:=[]) (v2:=[pt w.heap.size,pt R.heap.size]) (vs:=[.pointer (some ⟨b,o,none⟩),iV D]) rfl (fits_ok w.heap.size R.heap.size U D d b o f S e j ((i.E g (fun _ _=>by simp)).mono fun x T=>by omega) m y) rfl ?_;rintro v u⟨a,k⟩
 obtain rfl:v=.bool (decide (szF f<=S)&&decide (dpF f<=D)):=by
  rcases k with⟨X,W,rfl,_⟩|⟨h,rfl⟩
  ·simp[X,W]
  ·simp;exact fun X=>by omega
 refine go ?_;exact AB rfl ⟨rfl,g.E a O⟩
theorem PF.all{ok:Nat->Prop}{w:World}{b o:Nat}{f:Fml}(h:PF ok w b o f):∃a c,f.args.length<=9223372036854775807/\w.cell? ⟨b,o+0,none⟩=some (iV f.op)/\w.cell? ⟨b,o+1,none⟩=some (AK f.name)/\w.cell? ⟨b,o+2,none⟩=some (iV f.val)/\
  w.cell? ⟨b,o+3,none⟩=some (iV f.bound)/\w.cell? ⟨b,o+4,none⟩=some (.slice a f.args.length c)/\∀(k:Nat)(x:Fml),f.args[k]?=some x->∃n l,a=some ⟨n,l,none⟩/\PF ok w n (l+k*5) x:=by
 obtain⟨a,c,X,W,Q⟩:=h.arg;obtain⟨_,d,z,L,V,_⟩:=h.form;exact⟨a,c,X,V 0 _ rfl,V 1 _ rfl,V 2 _ rfl,V 3 _ rfl,W,Q⟩
def shapeX(x:Form)(nm:LU)(v b n:Int):Bool:=decide (x.least<=n)&&decide (n<=x.most)&&decide (0<=v)&&decide (v<=x.val)&&decide (0<=b)&&decide (b<=x.bound)&&if x.named then CH nm else decide (nm=[])
def Dm(f:Fml):Bool:=isOpB f.op&&shapeX (BK f.op) f.name f.val f.bound f.args.length
theorem shapeF_eq(f:Fml)(h:f.args.length<=1000000):Dm f=BX f.op f.name f.val f.bound f.args.length:=by
 unfold Dm;cases hb:isOpB f.op with
 |false=>
  unfold BX;simp only[isOpB,Bool.and_eq_false_iff,decide_eq_false_iff_not]at hb;cases hs:(decide (1<=f.op)&&decide (f.op<=19))
  ·simp
  ·simp at hs;omega
 |true=>
  have X:1<=f.op/\f.op<20:=by simpa[isOpB]using hb
  have y:BK f.op=formsL.getD f.op.toNat zeroForm:=by unfold BK;rw[if_pos hb]
  rw[y];obtain⟨N,p,v,b,args⟩:=f;simp only[Fml.op,Fml.name,Fml.val,Fml.bound,Fml.args]at*
  have F:p.isEmpty=decide (p=[]):=by cases p<;>simp
  have:N=1\/N=2\/N=3\/N=4\/N=5\/N=6\/N=7\/N=8\/N=9\/N=10\/N=11\/N=12\/N=13\/N=14\/N=15\/N=16\/N=17\/N=18\/N=19:=by omega
  rcases this with rfl|rfl|rfl|rfl|rfl|rfl|rfl|rfl|rfl|rfl|rfl|rfl|rfl|rfl|rfl|rfl|rfl|rfl|rfl
  all_goals
   simp[formsL,shapeX,BX,Aq,F];try (congr 1;congr 1;congr 1;congr 1;rw[Bool.eq_iff_iff];simp;omega)
theorem shaped_ok(w:World)(b o:Nat)(f:Fml)(K:PF AV w b o f)(C:GF w)(s:KY w)(M:f.args.length<=1000000):Fn Zp 133 [.pointer (some ⟨b,o,none⟩)] w fun v w'=>v=.bool (Dm f)/\Ext w w':=by
 refine AG Tryz.func133 rfl Tryz.ntmps133 (go ?_);have q:=K.opc;refine go ?_;refine AE (formOf_ok w f.op C) rfl ?_;rintro _ R⟨rfl,t⟩;refine go ?_;refine Au (cs:=Br (BK f.op)) rfl rfl Dx (formC_one _) (fun L N=>go ?_);have l:=t.trans N.E;have d:=N.D;have P:=K.E l (fun _ _=>by simp);obtain⟨j,z,_,m,k,A,E,i,_⟩:=P.all;clear q N K;unfold Dm;generalize BK f.op=x at d⊢;cases hb:isOpB f.op with
 |false=>
  refine AX (rd 0 22 .done) An Dv (fun H I G=>⟨Ext H,?_,?_⟩)
  ·exact Ew
  have h:∀V,Ext H V->V.cell? ⟨R.heap.size,0+0,none⟩=some (iV x.least):=fun V e=>(Blk.E d (I.trans e) O).cell rfl;have X:∀V,Ext H V->V.cell? ⟨R.heap.size,0+1,none⟩=some (iV x.most):=fun V e=>(Blk.E d (I.trans e) O).cell rfl;have r:∀V,Ext H V->V.cell? ⟨R.heap.size,0+2,none⟩=some (iV x.val):=fun V e=>(Blk.E d (I.trans e) O).cell rfl;have Q:∀V,Ext H V->V.cell? ⟨R.heap.size,0+3,none⟩=some (iV x.bound):=fun V e=>(Blk.E d (I.trans e) O).cell rfl;have Z:∀V,Ext H V->V.cell? ⟨b,o+2,none⟩=some (iV f.val):=fun V e=>(I.trans e).cell A O;have g:∀V,Ext H V->V.cell? ⟨b,o+3,none⟩=some (iV f.bound):=fun V e=>(I.trans e).cell E O;have u:∀V,Ext H V->V.cell? ⟨b,o+4,none⟩=some (.slice j f.args.length z):=fun V e=>(I.trans e).cell i O;refine go ?_;exact AB rfl ⟨rfl,l.trans I⟩
 |true=>
 by_cases n:x.least<=f.args.length/\(f.args.length:Int)<=x.most;rotate_left
 ·have D:shapeX x f.name f.val f.bound f.args.length=false:=by
   cases D:shapeX x f.name f.val f.bound f.args.length with
   |false=>rfl
   |true=>exact absurd ⟨by simp[shapeX]at D;omega,by simp[shapeX]at D;omega⟩ n
  rw[D];refine AX (rd 0 22 .done) An Dv (fun H I G=>⟨Ext H,?_,?_⟩)
  ·exact Ew
  have h:∀V,Ext H V->V.cell? ⟨R.heap.size,0+0,none⟩=some (iV x.least):=fun V e=>(Blk.E d (I.trans e) O).cell rfl;have X:∀V,Ext H V->V.cell? ⟨R.heap.size,0+1,none⟩=some (iV x.most):=fun V e=>(Blk.E d (I.trans e) O).cell rfl;have r:∀V,Ext H V->V.cell? ⟨R.heap.size,0+2,none⟩=some (iV x.val):=fun V e=>(Blk.E d (I.trans e) O).cell rfl;have Q:∀V,Ext H V->V.cell? ⟨R.heap.size,0+3,none⟩=some (iV x.bound):=fun V e=>(Blk.E d (I.trans e) O).cell rfl;have Z:∀V,Ext H V->V.cell? ⟨b,o+2,none⟩=some (iV f.val):=fun V e=>(I.trans e).cell A O;have g:∀V,Ext H V->V.cell? ⟨b,o+3,none⟩=some (iV f.bound):=fun V e=>(I.trans e).cell E O;have u:∀V,Ext H V->V.cell? ⟨b,o+4,none⟩=some (.slice j f.args.length z):=fun V e=>(I.trans e).cell i O;((apply D_R rfl rfl;(intro W a;refine AI rfl ?_;exact AA ⟨rfl,rfl,rfl⟩))<;>(apply D_R rfl rfl;(intro W a;refine W_not rfl ?_;exact AA ⟨rfl,rfl,rfl⟩))<;>(apply D_R rfl rfl;(intro W a;refine AI rfl ?_;exact AA ⟨rfl,rfl,rfl⟩))<;>(apply D_R rfl rfl;(intro W a;(refine AN rfl ?_;refine Af rfl ?_);exact AA ⟨rfl,rfl,rfl⟩))<;>(apply D_R rfl rfl;(intro W a;(refine AN rfl ?_;refine AM rfl ?_);exact AA ⟨rfl,rfl,rfl⟩))<;>(apply D_R rfl rfl;(intro W a;(refine AN rfl ?_;refine AD rfl ?_);exact AA ⟨rfl,rfl,rfl⟩))<;>(apply D_R rfl rfl;(intro W a;(refine AN rfl ?_;refine AL rfl (u W a) ?_);exact AA ⟨rfl,rfl,rfl⟩))<;>(apply D_R rfl rfl;(intro W a;(refine AN rfl ?_;refine Bt rfl ?_);exact AA ⟨rfl,rfl,rfl⟩))<;>(apply D_R rfl rfl;(intro W a;(refine AN rfl ?_;refine AD rfl ?_);exact AA ⟨rfl,rfl,rfl⟩))<;>(apply D_R rfl rfl;(intro W a;(refine AN rfl ?_;refine AL rfl (h W a) ?_);exact AA ⟨rfl,rfl,rfl⟩))<;>(refine C8 rfl rfl rfl rfl (fun c=>?_) (fun c=>?_)<;>try omega)<;>(apply D_R rfl rfl;(intro W a;(refine Al rfl ?_;refine AI rfl ?_);exact AA ⟨rfl,rfl,rfl⟩))<;>(apply D_R rfl rfl;(intro W a;refine AI rfl ?_;exact AA ⟨rfl,rfl,rfl⟩))<;>(first|refine A8 rfl rfl rfl rfl ?_|(apply D_R rfl rfl;(intro W a;(refine AN rfl ?_;refine Af rfl ?_);exact AA ⟨rfl,rfl,rfl⟩)))<;>(first|refine A8 rfl rfl rfl rfl ?_|(apply D_R rfl rfl;(intro W a;(refine AN rfl ?_;refine AM rfl ?_);exact AA ⟨rfl,rfl,rfl⟩)))<;>(first|refine A8 rfl rfl rfl rfl ?_|(apply D_R rfl rfl;(intro W a;(refine AN rfl ?_;refine AD rfl ?_);exact AA ⟨rfl,rfl,rfl⟩)))<;>(first|refine A8 rfl rfl rfl rfl ?_|(apply D_R rfl rfl;(intro W a;(refine AN rfl ?_;refine AL rfl (u W a) ?_);exact AA ⟨rfl,rfl,rfl⟩)))<;>(first|refine A8 rfl rfl rfl rfl ?_|(apply D_R rfl rfl;(intro W a;(refine AN rfl ?_;refine Bt rfl ?_);exact AA ⟨rfl,rfl,rfl⟩)))<;>(first|refine A8 rfl rfl rfl rfl ?_|(apply D_R rfl rfl;(intro W a;(refine AN rfl ?_;refine AD rfl ?_);exact AA ⟨rfl,rfl,rfl⟩)))<;>(first|refine A8 rfl rfl rfl rfl ?_|(apply D_R rfl rfl;(intro W a;(refine AN rfl ?_;refine AL rfl (X W a) ?_);exact AA ⟨rfl,rfl,rfl⟩)))<;>(first|refine A8 rfl rfl rfl rfl ?_|(refine D_gtr rfl rfl rfl rfl (fun c=>?_) (fun c=>?_)<;>try omega))<;>(apply D_R rfl rfl;(intro W a;((first|refine Am rfl ?_|refine Al rfl ?_);refine AI rfl ?_);exact AA ⟨rfl,rfl,rfl⟩))<;>refine Bq ?_)
  all_goals
   refine go ?_;exact AB rfl ⟨rfl,l.trans I⟩
 refine AX (rd 0 22 .done) An Dv (fun H I G=>⟨Ext H,?_,?_⟩)
 ·exact Ew
 have h:∀V,Ext H V->V.cell? ⟨R.heap.size,0+0,none⟩=some (iV x.least):=fun V e=>(Blk.E d (I.trans e) O).cell rfl;have X:∀V,Ext H V->V.cell? ⟨R.heap.size,0+1,none⟩=some (iV x.most):=fun V e=>(Blk.E d (I.trans e) O).cell rfl;have r:∀V,Ext H V->V.cell? ⟨R.heap.size,0+2,none⟩=some (iV x.val):=fun V e=>(Blk.E d (I.trans e) O).cell rfl;have Q:∀V,Ext H V->V.cell? ⟨R.heap.size,0+3,none⟩=some (iV x.bound):=fun V e=>(Blk.E d (I.trans e) O).cell rfl;have Z:∀V,Ext H V->V.cell? ⟨b,o+2,none⟩=some (iV f.val):=fun V e=>(I.trans e).cell A O;have g:∀V,Ext H V->V.cell? ⟨b,o+3,none⟩=some (iV f.bound):=fun V e=>(I.trans e).cell E O;have u:∀V,Ext H V->V.cell? ⟨b,o+4,none⟩=some (.slice j f.args.length z):=fun V e=>(I.trans e).cell i O;((apply D_R rfl rfl;(intro W a;refine AI rfl ?_;exact AA ⟨rfl,rfl,rfl⟩))<;>(apply D_R rfl rfl;(intro W a;refine W_not rfl ?_;exact AA ⟨rfl,rfl,rfl⟩))<;>(apply D_R rfl rfl;(intro W a;refine AI rfl ?_;exact AA ⟨rfl,rfl,rfl⟩))<;>(apply D_R rfl rfl;(intro W a;(refine AN rfl ?_;refine Af rfl ?_);exact AA ⟨rfl,rfl,rfl⟩))<;>(apply D_R rfl rfl;(intro W a;(refine AN rfl ?_;refine AM rfl ?_);exact AA ⟨rfl,rfl,rfl⟩))<;>(apply D_R rfl rfl;(intro W a;(refine AN rfl ?_;refine AD rfl ?_);exact AA ⟨rfl,rfl,rfl⟩))<;>(apply D_R rfl rfl;(intro W a;(refine AN rfl ?_;refine AL rfl (u W a) ?_);exact AA ⟨rfl,rfl,rfl⟩))<;>(apply D_R rfl rfl;(intro W a;(refine AN rfl ?_;refine Bt rfl ?_);exact AA ⟨rfl,rfl,rfl⟩))<;>(apply D_R rfl rfl;(intro W a;(refine AN rfl ?_;refine AD rfl ?_);exact AA ⟨rfl,rfl,rfl⟩))<;>(apply D_R rfl rfl;(intro W a;(refine AN rfl ?_;refine AL rfl (h W a) ?_);exact AA ⟨rfl,rfl,rfl⟩))<;>(refine C8 rfl rfl rfl rfl (fun c=>?_) (fun c=>?_)<;>try omega)<;>(apply D_R rfl rfl;(intro W a;(refine Al rfl ?_;refine AI rfl ?_);exact AA ⟨rfl,rfl,rfl⟩))<;>(apply D_R rfl rfl;(intro W a;refine AI rfl ?_;exact AA ⟨rfl,rfl,rfl⟩))<;>(apply D_R rfl rfl;(intro W a;(refine AN rfl ?_;refine Af rfl ?_);exact AA ⟨rfl,rfl,rfl⟩))<;>(apply D_R rfl rfl;(intro W a;(refine AN rfl ?_;refine AM rfl ?_);exact AA ⟨rfl,rfl,rfl⟩))<;>(apply D_R rfl rfl;(intro W a;(refine AN rfl ?_;refine AD rfl ?_);exact AA ⟨rfl,rfl,rfl⟩))<;>(apply D_R rfl rfl;(intro W a;(refine AN rfl ?_;refine AL rfl (u W a) ?_);exact AA ⟨rfl,rfl,rfl⟩))<;>(apply D_R rfl rfl;(intro W a;(refine AN rfl ?_;refine Bt rfl ?_);exact AA ⟨rfl,rfl,rfl⟩))<;>(apply D_R rfl rfl;(intro W a;(refine AN rfl ?_;refine AD rfl ?_);exact AA ⟨rfl,rfl,rfl⟩))<;>(apply D_R rfl rfl;(intro W a;(refine AN rfl ?_;refine AL rfl (X W a) ?_);exact AA ⟨rfl,rfl,rfl⟩))<;>(refine D_gtr rfl rfl rfl rfl (fun c=>?_) (fun c=>?_)<;>try omega)<;>(apply D_R rfl rfl;(intro W a;(refine Al rfl ?_;refine AI rfl ?_);exact AA ⟨rfl,rfl,rfl⟩))<;>refine Bq ?_)
 clear h X r Q Z g u;refine go ?_;replace m:=I.cell m O;replace k:=I.cell k O;replace A:=I.cell A O;replace E:=I.cell E O;replace i:=I.cell i O;replace d:=Blk.E d I O;replace l:=l.trans I;clear I G
 rename World=>w3
 by_cases p:0<=f.val/\f.val<=x.val/\0<=f.bound/\f.bound<=x.bound;rotate_left
 ·have D:shapeX x f.name f.val f.bound f.args.length=false:=by
   cases D:shapeX x f.name f.val f.bound f.args.length with
   |false=>rfl
   |true=>exact absurd (by simp[shapeX]at D;omega) p
  rw[D];refine AX (rd 0 30 .done) An Dv (fun H I G=>⟨Ext H,?_,?_⟩)
  ·exact Ew
  have h:∀V,Ext H V->V.cell? ⟨R.heap.size,0+0,none⟩=some (iV x.least):=fun V e=>(Blk.E d (I.trans e) O).cell rfl;have X:∀V,Ext H V->V.cell? ⟨R.heap.size,0+1,none⟩=some (iV x.most):=fun V e=>(Blk.E d (I.trans e) O).cell rfl;have r:∀V,Ext H V->V.cell? ⟨R.heap.size,0+2,none⟩=some (iV x.val):=fun V e=>(Blk.E d (I.trans e) O).cell rfl;have Q:∀V,Ext H V->V.cell? ⟨R.heap.size,0+3,none⟩=some (iV x.bound):=fun V e=>(Blk.E d (I.trans e) O).cell rfl;have Z:∀V,Ext H V->V.cell? ⟨b,o+2,none⟩=some (iV f.val):=fun V e=>(I.trans e).cell A O;have g:∀V,Ext H V->V.cell? ⟨b,o+3,none⟩=some (iV f.bound):=fun V e=>(I.trans e).cell E O;have u:∀V,Ext H V->V.cell? ⟨b,o+4,none⟩=some (.slice j f.args.length z):=fun V e=>(I.trans e).cell i O;((apply D_R rfl rfl;(intro W a;refine Af rfl ?_;exact AA ⟨rfl,rfl,rfl⟩))<;>(apply D_R rfl rfl;(intro W a;refine AM rfl ?_;exact AA ⟨rfl,rfl,rfl⟩))<;>(apply D_R rfl rfl;(intro W a;refine AD rfl ?_;exact AA ⟨rfl,rfl,rfl⟩))<;>(apply D_R rfl rfl;(intro W a;refine AL rfl (Z W a) ?_;exact AA ⟨rfl,rfl,rfl⟩))<;>(refine C8 rfl rfl rfl rfl (fun c=>?_) (fun c=>?_)<;>try omega)<;>(apply D_R rfl rfl;(intro W a;refine AI rfl ?_;exact AA ⟨rfl,rfl,rfl⟩))<;>(first|refine A8 rfl rfl rfl rfl ?_|(apply D_R rfl rfl;(intro W a;(refine AN rfl ?_;refine Af rfl ?_);exact AA ⟨rfl,rfl,rfl⟩)))<;>(first|refine A8 rfl rfl rfl rfl ?_|(apply D_R rfl rfl;(intro W a;(refine AN rfl ?_;refine AM rfl ?_);exact AA ⟨rfl,rfl,rfl⟩)))<;>(first|refine A8 rfl rfl rfl rfl ?_|(apply D_R rfl rfl;(intro W a;(refine AN rfl ?_;refine AD rfl ?_);exact AA ⟨rfl,rfl,rfl⟩)))<;>(first|refine A8 rfl rfl rfl rfl ?_|(apply D_R rfl rfl;(intro W a;(refine AN rfl ?_;refine AL rfl (Z W a) ?_);exact AA ⟨rfl,rfl,rfl⟩)))<;>(first|refine A8 rfl rfl rfl rfl ?_|(apply D_R rfl rfl;(intro W a;(refine AN rfl ?_;refine AD rfl ?_);exact AA ⟨rfl,rfl,rfl⟩)))<;>(first|refine A8 rfl rfl rfl rfl ?_|(apply D_R rfl rfl;(intro W a;(refine AN rfl ?_;refine AL rfl (r W a) ?_);exact AA ⟨rfl,rfl,rfl⟩)))<;>(first|refine A8 rfl rfl rfl rfl ?_|(refine D_gtr rfl rfl rfl rfl (fun c=>?_) (fun c=>?_)<;>try omega))<;>(apply D_R rfl rfl;(intro W a;((first|refine Am rfl ?_|refine Al rfl ?_);refine AI rfl ?_);exact AA ⟨rfl,rfl,rfl⟩))<;>(apply D_R rfl rfl;(intro W a;refine AI rfl ?_;exact AA ⟨rfl,rfl,rfl⟩))<;>(first|refine A8 rfl rfl rfl rfl ?_|(apply D_R rfl rfl;(intro W a;(refine AN rfl ?_;refine Af rfl ?_);exact AA ⟨rfl,rfl,rfl⟩)))<;>(first|refine A8 rfl rfl rfl rfl ?_|(apply D_R rfl rfl;(intro W a;(refine AN rfl ?_;refine AM rfl ?_);exact AA ⟨rfl,rfl,rfl⟩)))<;>(first|refine A8 rfl rfl rfl rfl ?_|(apply D_R rfl rfl;(intro W a;(refine AN rfl ?_;refine AD rfl ?_);exact AA ⟨rfl,rfl,rfl⟩)))<;>(first|refine A8 rfl rfl rfl rfl ?_|(apply D_R rfl rfl;(intro W a;(refine AN rfl ?_;refine AL rfl (g W a) ?_);exact AA ⟨rfl,rfl,rfl⟩)))<;>(first|refine A8 rfl rfl rfl rfl ?_|(refine C8 rfl rfl rfl rfl (fun c=>?_) (fun c=>?_)<;>try omega))<;>(apply D_R rfl rfl;(intro W a;((first|refine Am rfl ?_|refine Al rfl ?_);refine AI rfl ?_);exact AA ⟨rfl,rfl,rfl⟩))<;>(apply D_R rfl rfl;(intro W a;refine AI rfl ?_;exact AA ⟨rfl,rfl,rfl⟩))<;>(first|refine A8 rfl rfl rfl rfl ?_|(apply D_R rfl rfl;(intro W a;(refine AN rfl ?_;refine Af rfl ?_);exact AA ⟨rfl,rfl,rfl⟩)))<;>(first|refine A8 rfl rfl rfl rfl ?_|(apply D_R rfl rfl;(intro W a;(refine AN rfl ?_;refine AM rfl ?_);exact AA ⟨rfl,rfl,rfl⟩)))<;>(first|refine A8 rfl rfl rfl rfl ?_|(apply D_R rfl rfl;(intro W a;(refine AN rfl ?_;refine AD rfl ?_);exact AA ⟨rfl,rfl,rfl⟩)))<;>(first|refine A8 rfl rfl rfl rfl ?_|(apply D_R rfl rfl;(intro W a;(refine AN rfl ?_;refine AL rfl (g W a) ?_);exact AA ⟨rfl,rfl,rfl⟩)))<;>(first|refine A8 rfl rfl rfl rfl ?_|(apply D_R rfl rfl;(intro W a;(refine AN rfl ?_;refine AD rfl ?_);exact AA ⟨rfl,rfl,rfl⟩)))<;>(first|refine A8 rfl rfl rfl rfl ?_|(apply D_R rfl rfl;(intro W a;(refine AN rfl ?_;refine AL rfl (Q W a) ?_);exact AA ⟨rfl,rfl,rfl⟩)))<;>(first|refine A8 rfl rfl rfl rfl ?_|(refine D_gtr rfl rfl rfl rfl (fun c=>?_) (fun c=>?_)<;>try omega))<;>(apply D_R rfl rfl;(intro W a;((first|refine Am rfl ?_|refine Al rfl ?_);refine AI rfl ?_);exact AA ⟨rfl,rfl,rfl⟩))<;>refine Bq ?_)
  all_goals
   refine go ?_;exact AB rfl ⟨rfl,l.trans I⟩
 have D:shapeX x f.name f.val f.bound f.args.length=if x.named then CH f.name else decide (f.name=[]):=by simp[shapeX,n,p]
 rw[D];refine AX (rd 0 30 .done) An Dv (fun H I G=>⟨Ext H,?_,?_⟩)
 ·exact Ew
 have h:∀V,Ext H V->V.cell? ⟨R.heap.size,0+0,none⟩=some (iV x.least):=fun V e=>(Blk.E d (I.trans e) O).cell rfl;have X:∀V,Ext H V->V.cell? ⟨R.heap.size,0+1,none⟩=some (iV x.most):=fun V e=>(Blk.E d (I.trans e) O).cell rfl;have r:∀V,Ext H V->V.cell? ⟨R.heap.size,0+2,none⟩=some (iV x.val):=fun V e=>(Blk.E d (I.trans e) O).cell rfl;have Q:∀V,Ext H V->V.cell? ⟨R.heap.size,0+3,none⟩=some (iV x.bound):=fun V e=>(Blk.E d (I.trans e) O).cell rfl;have Z:∀V,Ext H V->V.cell? ⟨b,o+2,none⟩=some (iV f.val):=fun V e=>(I.trans e).cell A O;have g:∀V,Ext H V->V.cell? ⟨b,o+3,none⟩=some (iV f.bound):=fun V e=>(I.trans e).cell E O;have u:∀V,Ext H V->V.cell? ⟨b,o+4,none⟩=some (.slice j f.args.length z):=fun V e=>(I.trans e).cell i O;((apply D_R rfl rfl;(intro W a;refine Af rfl ?_;exact AA ⟨rfl,rfl,rfl⟩))<;>(apply D_R rfl rfl;(intro W a;refine AM rfl ?_;exact AA ⟨rfl,rfl,rfl⟩))<;>(apply D_R rfl rfl;(intro W a;refine AD rfl ?_;exact AA ⟨rfl,rfl,rfl⟩))<;>(apply D_R rfl rfl;(intro W a;refine AL rfl (Z W a) ?_;exact AA ⟨rfl,rfl,rfl⟩))<;>(refine C8 rfl rfl rfl rfl (fun c=>?_) (fun c=>?_)<;>try omega)<;>(apply D_R rfl rfl;(intro W a;refine AI rfl ?_;exact AA ⟨rfl,rfl,rfl⟩))<;>(apply D_R rfl rfl;(intro W a;(refine AN rfl ?_;refine Af rfl ?_);exact AA ⟨rfl,rfl,rfl⟩))<;>(apply D_R rfl rfl;(intro W a;(refine AN rfl ?_;refine AM rfl ?_);exact AA ⟨rfl,rfl,rfl⟩))<;>(apply D_R rfl rfl;(intro W a;(refine AN rfl ?_;refine AD rfl ?_);exact AA ⟨rfl,rfl,rfl⟩))<;>(apply D_R rfl rfl;(intro W a;(refine AN rfl ?_;refine AL rfl (Z W a) ?_);exact AA ⟨rfl,rfl,rfl⟩))<;>(apply D_R rfl rfl;(intro W a;(refine AN rfl ?_;refine AD rfl ?_);exact AA ⟨rfl,rfl,rfl⟩))<;>(apply D_R rfl rfl;(intro W a;(refine AN rfl ?_;refine AL rfl (r W a) ?_);exact AA ⟨rfl,rfl,rfl⟩))<;>(refine D_gtr rfl rfl rfl rfl (fun c=>?_) (fun c=>?_)<;>try omega)<;>(apply D_R rfl rfl;(intro W a;(refine Al rfl ?_;refine AI rfl ?_);exact AA ⟨rfl,rfl,rfl⟩))<;>(apply D_R rfl rfl;(intro W a;refine AI rfl ?_;exact AA ⟨rfl,rfl,rfl⟩))<;>(apply D_R rfl rfl;(intro W a;(refine AN rfl ?_;refine Af rfl ?_);exact AA ⟨rfl,rfl,rfl⟩))<;>(apply D_R rfl rfl;(intro W a;(refine AN rfl ?_;refine AM rfl ?_);exact AA ⟨rfl,rfl,rfl⟩))<;>(apply D_R rfl rfl;(intro W a;(refine AN rfl ?_;refine AD rfl ?_);exact AA ⟨rfl,rfl,rfl⟩))<;>(apply D_R rfl rfl;(intro W a;(refine AN rfl ?_;refine AL rfl (g W a) ?_);exact AA ⟨rfl,rfl,rfl⟩))<;>(refine C8 rfl rfl rfl rfl (fun c=>?_) (fun c=>?_)<;>try omega)<;>(apply D_R rfl rfl;(intro W a;(refine Al rfl ?_;refine AI rfl ?_);exact AA ⟨rfl,rfl,rfl⟩))<;>(apply D_R rfl rfl;(intro W a;refine AI rfl ?_;exact AA ⟨rfl,rfl,rfl⟩))<;>(apply D_R rfl rfl;(intro W a;(refine AN rfl ?_;refine Af rfl ?_);exact AA ⟨rfl,rfl,rfl⟩))<;>(apply D_R rfl rfl;(intro W a;(refine AN rfl ?_;refine AM rfl ?_);exact AA ⟨rfl,rfl,rfl⟩))<;>(apply D_R rfl rfl;(intro W a;(refine AN rfl ?_;refine AD rfl ?_);exact AA ⟨rfl,rfl,rfl⟩))<;>(apply D_R rfl rfl;(intro W a;(refine AN rfl ?_;refine AL rfl (g W a) ?_);exact AA ⟨rfl,rfl,rfl⟩))<;>(apply D_R rfl rfl;(intro W a;(refine AN rfl ?_;refine AD rfl ?_);exact AA ⟨rfl,rfl,rfl⟩))<;>(apply D_R rfl rfl;(intro W a;(refine AN rfl ?_;refine AL rfl (Q W a) ?_);exact AA ⟨rfl,rfl,rfl⟩))<;>(refine D_gtr rfl rfl rfl rfl (fun c=>?_) (fun c=>?_)<;>try omega)<;>(apply D_R rfl rfl;(intro W a;(refine Al rfl ?_;refine AI rfl ?_);exact AA ⟨rfl,rfl,rfl⟩))<;>refine Bq ?_)
 clear h X r Q Z g u;replace k:=I.cell k O;replace d:=Blk.E d I O;replace l:=l.trans I;obtain⟨F,T,xv,S,y,xp,B,xo⟩:=x;cases y with
 |true=>
  refine go ?_;refine AE (DL f.name H (s.E l O)) rfl ?_;rintro _ _⟨rfl,rfl⟩;refine go ?_;exact AB rfl ⟨rfl,l⟩
 |false=>
  repeat first|refine nx rfl ?_|refine nf rfl ?_
  (refine AJ (AD rfl ?_)<;>refine AL rfl (Blk.cell Dz Dx) ?_)
  repeat first|refine nx rfl ?_|refine nf rfl ?_
  (refine AJ (Af rfl (AM rfl (AD rfl ?_)))<;>refine AL rfl Dz ?_<;>refine Bn rfl rfl (fun c=>?_) (fun c=>?_)<;>refine AO (AI rfl ?_))
  ·refine go ?_;exact AB rfl ⟨show Value.bool true=_ by simp[c],l⟩
  ·refine go ?_;exact AB rfl ⟨show Value.bool false=_ by simp[c],l⟩
end
section
variable {mk:Prop}[MK mk]
end
section
variable {mk:Prop}[MK mk]
end
section
variable {mk:Prop}[MK mk]
theorem preF_sz:∀(f:Fml)(j:Bool)(x:Nd),x∈De j f->szF x.1<=szF f
 | .mk op nm v b args,j,x,h=>by
  simp only[De,List.mem_cons]at h;rcases h with rfl|h
  ·exact Nat.le_refl _
  ·have:=preL_sz args _ x h;simp only[szF];omega
where preL_sz:∀(l:LF)(j:Bool)(x:Nd),x∈DH j l->szF x.1<=szL l
 | [],_,_,h=>by cases h
 |f::l,j,x,h=>by
  simp only[DH,List.mem_append]at h;simp only[szL];rcases h with h|h
  ·have:=preF_sz f j x h;omega
  ·have:=preL_sz l j x h;omega
theorem asnQ_mono{k A:Fr->DS->World->Prop}(h:∀f ds w,k f ds w->A f ds w)(e:Exit)(f:Fr)(ds:DS)(w:World)(P:asnQ k e f ds w):asnQ A e f ds w:=by
 cases e<;>delta asnQ at P⊢
 ·exact h _ _ _ P
 all_goals exact P
def goodQ(D:Nat)(W:World):Bool->DY
 |true=>fun e _ _ l=>e=.normal/\Ext W l
 |false=>fun e _ _ l=>e=.ret/\Keep [D] W l/\Blk l D 4 [.bool false]
theorem C_allNodes{n:Nat}{Q:DY}{g:Operand}{ps:List Nat}{a0 body:Code}{f:Fr}{ds:DS}{w:World}(y:Nd->Bool){d S b o:Nat}{F:Fml}
  (hv:ev f g=.func (.func 178) #[] #[pt S])(b1:(ps.all (fun t=>Nat.blt t n)&&(CW n true a0&&CW n true body))=true)(b0:ps.length=2)
  (s:Blk w d 4 [.bool false])(a1:Blk w S 96 [.pointer (some ⟨b,o,none⟩)])(hF:PF (fun b=>b≠d) w b o F)(hG:GF w)(hN:10<=d)(hd:dpF F<=5000)
  (a9:∀(l P o':Nat)(x:Fml)(i:Bool)(W:World),szF x<=szF F->WC Zp ⟨n,some l⟩ a0 (asnQ fun f' a2 w'=>w'=W/\∀m,Ext w m->PF (fun b=>b≠d) m P o' x->Blk m d 4 [.bool false]->WC Zp ⟨n,some l⟩ body (goodQ d m (y (x,i))) f' a2 m) (ovz (ps.zip [.pointer (some ⟨P,o',none⟩),.bool i]) f) [] W)
  (a3:∀W,Keep [d] w W->Blk W d 4 [.bool false]->W.heap[w.heap.size]?=some (.deferred (some []))->Q (if(De false F).all y then .normal else .ret) f ({target:=.collected w.heap.size,args:=#[]}::ds) W):
  WC Zp ⟨n,none⟩ (.rangeFunc g ps.toArray a0 body) Q f ds w:=by
 have b6:=s.lt;refine C_range [] [pt S] hv b1 fun a7 Bsy a6 B G A s1 m1 r1=>?_;replace s:=s.E A O;replace a1:=a1.E A O;have a8:=(hF.lt.E A (fun _ _=>by simp)).mono (ok':=fun b=>b∉[d,w.heap.size+1]/\b<B.heap.size) (fun x T=>by have:=T.2;simp;omega);obtain⟨I,c⟩:∃I:List Nd->World->Prop,∀L W,I L W↔(L.all y=true/\Ext w W/\Blk W d 4 [.bool false]/\a7 W/\W.heap[w.heap.size]?=some (.deferred (some []))/\B.heap.size<=W.heap.size):=⟨_,fun _ _=>Iff.rfl⟩;obtain⟨D,hD⟩:∃D:List Nd->World->Prop,∀L W,D L W↔(L.all y=false/\Keep [d] w W/\Blk W d 4 [.bool false]/\a6 .ret W/\W.heap[w.heap.size]?=some (.deferred (some []))/\B.heap.size<=W.heap.size):=⟨_,fun _ _=>Iff.rfl⟩
 have H:NodesR (.func (.yield (w.heap.size+1)) #[] #[]) [d,w.heap.size+1] B.heap.size (De false F) I D:=by
  refine⟨⟨_,rfl⟩,fun x T=>by simp at T;omega,fun z k V=>?_,fun{L W P o' x i}z hp hP=>?_⟩
  ·obtain⟨p,C,N,q,u,j5⟩:=(c _ _).1 z;exact(c _ _).2 ⟨p,C.E k (fun x T=>by have:=V x T;omega),N.E k (fun h=>by have:=V _ h;omega),G.rdy q k (fun h=>by have:=V _ h;omega),(k.block _ U (fun h=>by have:=V _ h;omega)).trans u,Nat.le_trans j5 k.size⟩
  ·obtain⟨p,C,N,q,u,j5⟩:=(c _ _).1 z;have b2:=preF_sz F false (x,i) (hP.subset O);refine YldP.mono (R:=fun v K=>Keep [d,w.heap.size+1] W K/\((v=.bool true/\I (L++[(x,i)]) K)\/(v=.bool false/\D (L++[(x,i)]) K))) (Y:=fun _ _=>False) (G.round q b0.symm ?_) (fun v K h=>h) (fun _ _ h=>h);refine WC_mono _ (asnQ_mono fun f' a2 w' hh=>?_) _ _ _ (a9 (w.heap.size+1) P o' x i W b2);obtain⟨rfl,hh⟩:=hh;refine⟨q,fun m X s2 y2=>?_⟩;have e2:=C.E X O;have s:=N.E X Dw;refine WC_mono _ (fun e b5 b4 W3 Z=>?_) _ _ _ (hh m e2 ((hp.E X (fun b hb=>by have:=hb.1;simp at this⊢;omega)).mono fun b hb=>by have:=hb.1;simp at this;omega) s);have a5:Keep [d,w.heap.size+1] w' m:=X.mono (fun x T=>by simp at T;simp[T]);have a4:=(X.block _ U O).trans u;have z2:=X.size;cases hg:y (x,i)with
   |true=>
    rw[hg]at Z;obtain⟨rfl,r⟩:=Z;have z3:=r.size;have y3:=G.bsy y2 r O;refine Q_rnd y3 fun W4 j s4 y4=>⟨(a5.ext r).trans j (fun x T _=>by simp at T;simp[T]),.inl ⟨rfl,(c _ _).2 ⟨by simp[p,hg],(e2.trans r).E j O,(s.E r O).E j Dw,y4,(j.block _ U O).trans ((r.block _ U O).trans a4),by omega⟩⟩⟩
   |false=>
    rw[hg]at Z;obtain⟨rfl,r,b3⟩:=Z;have z3:=r.size;have y3:=G.bsy y2 r Dw;refine Q_rnd_ret y3 fun W4 j s4 y4=>⟨(a5.trans r (fun x T _=>by simp at T;simp[T])).trans j (fun x T _=>by simp at T;simp[T]),.inr ⟨rfl,(hD _ _).2 ⟨by simp[hg],(e2.any.trans r (fun _ h _=>h)).trans j (fun x T h=>by simp at T;omega),b3.E j Dw,y4,(j.block _ U O).trans ((r.block _ U Dw).trans a4),by omega⟩⟩⟩
 refine Fn.mono (nodesIt_ok B S b o F H a1 a8 (hG.ext A) U hd ((c _ _).2 ⟨rfl,A,s,r1,m1,Nat.le_refl _⟩) (fun x T=>by simp at T;omega)) ?_;rintro v w8⟨_,z|⟨M,hM,_,hd⟩⟩
 ·obtain⟨p,C,N,q,u,j5⟩:=(c _ _).1 z;refine .inl ⟨q,fun E a s9=>?_⟩;have:=a3 E ((C.any.trans a (fun x T h=>by simp at T;omega)):Keep [d] w E) (N.E a Dw) ((a.block _ U O).trans u);rw[p]at this;exact this
 ·obtain⟨p,C,N,q,u,j5⟩:=(hD _ _).1 hd;refine .inr ⟨.ret,q,fun E a s9=>?_⟩;have:=a3 E ((C.trans a (fun x T h=>by simp at T;omega)):Keep [d] w E) (N.E a Dw) ((a.block _ U O).trans u)
  rw[show(De false F).all y=false by
   rw[<-Bool.not_eq_true,List.all_eq_true];intro h;rw[<-Bool.not_eq_true,List.all_eq_true]at p;exact p fun x T=>h x (hM.subset T)]at this
  unfold behind;exact this
end
section
variable {mk:Prop}[MK mk]
end
section
variable {mk:Prop}[MK mk]
theorem lib_cmpI(a b:Int):Lib.compareInt a b=cmpI a b:=by
 unfold Lib.compareInt cmpI;rfl
theorem lib_cmpS:∀s t:LU,Lib.compareBytes s t=Dq s t
 | [],[]=>rfl
 | [],_::_=>rfl
 |_::_,[]=>rfl
 |a::s,b::t=>by
  rw[Lib.compareBytes,Dq,lib_cmpS s t];rfl
theorem cmpInt_ok(a b:Int)(w:World):Fn Zp 81 [iV a,iV b] w fun v w'=>v=iV (cmpI a b)/\w'=w:=by
 refine Calls.mono (Tryz.cmp_Compare_int a b w) ?_;rintro e w'⟨rfl,rfl⟩;exact⟨by rw[lib_cmpI],rfl⟩
theorem cmpStr_ok(a b:LU)(w:World):Fn Zp 82 [AK a,AK b] w fun v w'=>v=iV (Dq a b)/\w'=w:=by
 refine Calls.mono (Tryz.strings_Compare ⟨a.toArray⟩ ⟨b.toArray⟩ w) ?_;rintro e w'⟨rfl,rfl⟩;exact⟨by rw[lib_cmpS],rfl⟩
def cmpN(f g:Fml):Int:=Bu (cmpI f.op g.op) (Bu (Dq f.name g.name) (Bu (cmpI f.val g.val) (Bu (cmpI f.bound g.bound) (cmpI f.args.length g.args.length))))
theorem thenI_ne{a b:Int}(h:a≠0):Bu a b=a:=if_neg h
theorem Cg{a b:Int}(h:a=0):Bu a b=b:=if_pos h
theorem cmpF_split(f g:Fml):BY f g=Bu (cmpN f g) (cmpL f.args g.args):=by
 obtain⟨o,n,v,b,l⟩:=f;obtain⟨i,y,j,d,e⟩:=g;rw[BY];simp only[cmpN,Fml.op,Fml.name,Fml.val,Fml.bound,Fml.args]
 have h:∀a b c:Int,Bu (Bu a b) c=Bu a (Bu b c):=by
  intro a b c;unfold Bu;by_cases h:a=0
  ·rw[if_pos h,if_pos h]
  ·rw[if_neg h,if_neg h,if_neg h]
 simp only[h]
set_option maxHeartbeats 1600000 in
theorem cmpNodes_ok(w:World)(b o n l:Nat)(f g:Fml)(K:PF AV w b o f)(t:PF AV w n l g):
  Fn Zp 50 [.pointer (some ⟨b,o,none⟩),.pointer (some ⟨n,l,none⟩)] w fun v w'=>v=iV (cmpN f g)/\Ext w w':=by
 obtain⟨_,a,c,L,V,_,_⟩:=K.form;obtain⟨_,X,z,L',j,_,_⟩:=t.form;have T:w.cell? ⟨b,o+0,none⟩=some (iV f.op):=V 0 _ rfl;have R:w.cell? ⟨b,o+1,none⟩=some (AK f.name):=V 1 _ rfl;have E:w.cell? ⟨b,o+2,none⟩=some (iV f.val):=V 2 _ rfl;have F:w.cell? ⟨b,o+3,none⟩=some (iV f.bound):=V 3 _ rfl;have P:w.cell? ⟨b,o+4,none⟩=some (.slice a f.args.length c):=V 4 _ rfl;have y:w.cell? ⟨n,l+0,none⟩=some (iV g.op):=j 0 _ rfl;have S:w.cell? ⟨n,l+1,none⟩=some (AK g.name):=j 1 _ rfl;have N:w.cell? ⟨n,l+2,none⟩=some (iV g.val):=j 2 _ rfl;have M:w.cell? ⟨n,l+3,none⟩=some (iV g.bound):=j 3 _ rfl;have q:w.cell? ⟨n,l+4,none⟩=some (.slice X g.args.length z):=j 4 _ rfl;clear V j;have i:Ext w w:=Ext.refl w;have m:∀W,Ext w W->W.cell? ⟨b,o+0,none⟩=some (iV f.op):=fun W e=>e.cell T O;have u:∀W,Ext w W->W.cell? ⟨b,o+1,none⟩=some (AK f.name):=fun W e=>e.cell R O;have p:∀W,Ext w W->W.cell? ⟨b,o+2,none⟩=some (iV f.val):=fun W e=>e.cell E O;have k:∀W,Ext w W->W.cell? ⟨b,o+3,none⟩=some (iV f.bound):=fun W e=>e.cell F O;have a0:∀W,Ext w W->W.cell? ⟨b,o+4,none⟩=some (.slice a f.args.length c):=fun W e=>e.cell P O;have r:∀W,Ext w W->W.cell? ⟨n,l+0,none⟩=some (iV g.op):=fun W e=>e.cell y O;have h:∀W,Ext w W->W.cell? ⟨n,l+1,none⟩=some (AK g.name):=fun W e=>e.cell S O;have x:∀W,Ext w W->W.cell? ⟨n,l+2,none⟩=some (iV g.val):=fun W e=>e.cell N O;have A:∀W,Ext w W->W.cell? ⟨n,l+3,none⟩=some (iV g.bound):=fun W e=>e.cell M O;have a1:∀W,Ext w W->W.cell? ⟨n,l+4,none⟩=some (.slice X g.args.length z):=fun W e=>e.cell q O;clear T R E F P y S N M q;refine AG Tryz.func50 rfl Tryz.ntmps50 (go ?_);by_cases C:f.op=g.op;rotate_left
 ·refine AX (rd 0 10 .done) An Dv (fun H I G=>⟨Ext w,?_,?_⟩)
  ·exact i.trans I
  replace i:=i.trans I;((apply D_R rfl rfl;(intro W d;refine Af rfl ?_;exact AA ⟨rfl,rfl,rfl⟩))<;>(apply D_R rfl rfl;(intro W d;refine AM rfl ?_;exact AA ⟨rfl,rfl,rfl⟩))<;>(apply D_R rfl rfl;(intro W d;refine AD rfl ?_;exact AA ⟨rfl,rfl,rfl⟩))<;>(apply D_R rfl rfl;(intro W d;refine AL rfl (m W d) ?_;exact AA ⟨rfl,rfl,rfl⟩))<;>(apply D_R rfl rfl;(intro W d;refine Af rfl ?_;exact AA ⟨rfl,rfl,rfl⟩))<;>(apply D_R rfl rfl;(intro W d;refine AM rfl ?_;exact AA ⟨rfl,rfl,rfl⟩))<;>(apply D_R rfl rfl;(intro W d;refine AD rfl ?_;exact AA ⟨rfl,rfl,rfl⟩))<;>(apply D_R rfl rfl;(intro W d;refine AL rfl (r W d) ?_;exact AA ⟨rfl,rfl,rfl⟩))<;>(refine D_neq rfl rfl rfl rfl (fun V=>?_) (fun V=>?_)<;>try omega)<;>(apply D_R rfl rfl;(intro W d;(refine AO ?_;refine AI rfl ?_);exact AA ⟨rfl,rfl,rfl⟩))<;>refine Bq ?_)
  refine go ?_;have n0:cmpI f.op g.op≠0:=fun e=>C (cmpI_zero.1 e);refine AX (rd 0 8 (.alt 8 (.read 9 .done) .stop)) An Dv (fun H I G=>⟨Ext w,?_,?_⟩)
  ·exact i.trans I
  replace i:=i.trans I;((apply D_R rfl rfl;(intro W d;refine Af rfl ?_;exact AA ⟨rfl,rfl,rfl⟩))<;>(apply D_R rfl rfl;(intro W d;refine AM rfl ?_;exact AA ⟨rfl,rfl,rfl⟩))<;>(apply D_R rfl rfl;(intro W d;refine AD rfl ?_;exact AA ⟨rfl,rfl,rfl⟩))<;>(apply D_R rfl rfl;(intro W d;refine AL rfl (m W d) ?_;exact AA ⟨rfl,rfl,rfl⟩))<;>(apply D_R rfl rfl;(intro W d;refine Af rfl ?_;exact AA ⟨rfl,rfl,rfl⟩))<;>(apply D_R rfl rfl;(intro W d;refine AM rfl ?_;exact AA ⟨rfl,rfl,rfl⟩))<;>(apply D_R rfl rfl;(intro W d;refine AD rfl ?_;exact AA ⟨rfl,rfl,rfl⟩))<;>(apply D_R rfl rfl;(intro W d;refine AL rfl (r W d) ?_;exact AA ⟨rfl,rfl,rfl⟩)))
  refine D_E rfl ?_;refine AE (cmpInt_ok f.op g.op _) rfl ?_;rintro _ _⟨rfl,rfl⟩;refine AA ⟨Ext w,fun _ e=>e,i,?_⟩;refine go ?_;exact AB rfl ⟨congrArg (Value.int .i64) (by simp only[cmpN];rw[thenI_ne n0]),i⟩
 have s:=cmpI_zero.2 C;refine AX (rd 0 10 .done) An Dv (fun H I G=>⟨Ext w,?_,?_⟩)
 ·exact i.trans I
 replace i:=i.trans I;((apply D_R rfl rfl;(intro W d;refine Af rfl ?_;exact AA ⟨rfl,rfl,rfl⟩))<;>(apply D_R rfl rfl;(intro W d;refine AM rfl ?_;exact AA ⟨rfl,rfl,rfl⟩))<;>(apply D_R rfl rfl;(intro W d;refine AD rfl ?_;exact AA ⟨rfl,rfl,rfl⟩))<;>(apply D_R rfl rfl;(intro W d;refine AL rfl (m W d) ?_;exact AA ⟨rfl,rfl,rfl⟩))<;>(apply D_R rfl rfl;(intro W d;refine Af rfl ?_;exact AA ⟨rfl,rfl,rfl⟩))<;>(apply D_R rfl rfl;(intro W d;refine AM rfl ?_;exact AA ⟨rfl,rfl,rfl⟩))<;>(apply D_R rfl rfl;(intro W d;refine AD rfl ?_;exact AA ⟨rfl,rfl,rfl⟩))<;>(apply D_R rfl rfl;(intro W d;refine AL rfl (r W d) ?_;exact AA ⟨rfl,rfl,rfl⟩))<;>(refine D_neq rfl rfl rfl rfl (fun V=>?_) (fun V=>?_)<;>try omega)<;>(apply D_R rfl rfl;(intro W d;(refine AO ?_;refine AI rfl ?_);exact AA ⟨rfl,rfl,rfl⟩))<;>refine Bq ?_)
 refine go ?_;refine AX (rd 0 10 .done) An Dv (fun H I G=>⟨Ext w,?_,?_⟩)
 ·exact i.trans I
 replace i:=i.trans I;((apply D_R rfl rfl;(intro W d;refine Af rfl ?_;exact AA ⟨rfl,rfl,rfl⟩))<;>(apply D_R rfl rfl;(intro W d;refine AM rfl ?_;exact AA ⟨rfl,rfl,rfl⟩))<;>(apply D_R rfl rfl;(intro W d;refine AD rfl ?_;exact AA ⟨rfl,rfl,rfl⟩))<;>(apply D_R rfl rfl;(intro W d;refine AL rfl (u W d) ?_;exact AA ⟨rfl,rfl,rfl⟩))<;>(apply D_R rfl rfl;(intro W d;refine Af rfl ?_;exact AA ⟨rfl,rfl,rfl⟩))<;>(apply D_R rfl rfl;(intro W d;refine AM rfl ?_;exact AA ⟨rfl,rfl,rfl⟩))<;>(apply D_R rfl rfl;(intro W d;refine AD rfl ?_;exact AA ⟨rfl,rfl,rfl⟩))<;>(apply D_R rfl rfl;(intro W d;refine AL rfl (h W d) ?_;exact AA ⟨rfl,rfl,rfl⟩))<;>(refine D_sneq rfl rfl rfl rfl (fun V=>?_) (fun V=>?_))<;>(apply D_R rfl rfl;(intro W d;(refine AO ?_;refine AI rfl ?_);exact AA ⟨rfl,rfl,rfl⟩))<;>refine Bq ?_)
 ·refine go ?_;have n1:Dq f.name g.name≠0:=fun e=>V (cmpS_zero.1 e);refine AX (rd 0 8 (.alt 8 (.read 9 .done) .stop)) An Dv (fun H I G=>⟨Ext w,?_,?_⟩)
  ·exact i.trans I
  replace i:=i.trans I;((apply D_R rfl rfl;(intro W d;refine Af rfl ?_;exact AA ⟨rfl,rfl,rfl⟩))<;>(apply D_R rfl rfl;(intro W d;refine AM rfl ?_;exact AA ⟨rfl,rfl,rfl⟩))<;>(apply D_R rfl rfl;(intro W d;refine AD rfl ?_;exact AA ⟨rfl,rfl,rfl⟩))<;>(apply D_R rfl rfl;(intro W d;refine AL rfl (u W d) ?_;exact AA ⟨rfl,rfl,rfl⟩))<;>(apply D_R rfl rfl;(intro W d;refine Af rfl ?_;exact AA ⟨rfl,rfl,rfl⟩))<;>(apply D_R rfl rfl;(intro W d;refine AM rfl ?_;exact AA ⟨rfl,rfl,rfl⟩))<;>(apply D_R rfl rfl;(intro W d;refine AD rfl ?_;exact AA ⟨rfl,rfl,rfl⟩))<;>(apply D_R rfl rfl;(intro W d;refine AL rfl (h W d) ?_;exact AA ⟨rfl,rfl,rfl⟩)))
  refine D_E rfl ?_;refine AE (cmpStr_ok f.name g.name _) rfl ?_;rintro _ _⟨rfl,rfl⟩;refine AA ⟨Ext w,fun _ e=>e,i,?_⟩;refine go ?_;exact AB rfl ⟨congrArg (Value.int .i64) (by simp only[cmpN];rw[Cg s,thenI_ne n1]),i⟩
 have B:=cmpS_zero.2 V;refine go ?_;by_cases D:f.val=g.val;rotate_left
 ·refine AX (rd 0 10 .done) An Dv (fun H I G=>⟨Ext w,?_,?_⟩)
  ·exact i.trans I
  replace i:=i.trans I;((apply D_R rfl rfl;(intro W d;refine Af rfl ?_;exact AA ⟨rfl,rfl,rfl⟩))<;>(apply D_R rfl rfl;(intro W d;refine AM rfl ?_;exact AA ⟨rfl,rfl,rfl⟩))<;>(apply D_R rfl rfl;(intro W d;refine AD rfl ?_;exact AA ⟨rfl,rfl,rfl⟩))<;>(apply D_R rfl rfl;(intro W d;refine AL rfl (p W d) ?_;exact AA ⟨rfl,rfl,rfl⟩))<;>(apply D_R rfl rfl;(intro W d;refine Af rfl ?_;exact AA ⟨rfl,rfl,rfl⟩))<;>(apply D_R rfl rfl;(intro W d;refine AM rfl ?_;exact AA ⟨rfl,rfl,rfl⟩))<;>(apply D_R rfl rfl;(intro W d;refine AD rfl ?_;exact AA ⟨rfl,rfl,rfl⟩))<;>(apply D_R rfl rfl;(intro W d;refine AL rfl (x W d) ?_;exact AA ⟨rfl,rfl,rfl⟩))<;>(refine D_neq rfl rfl rfl rfl (fun V=>?_) (fun V=>?_)<;>try omega)<;>(apply D_R rfl rfl;(intro W d;(refine AO ?_;refine AI rfl ?_);exact AA ⟨rfl,rfl,rfl⟩))<;>refine Bq ?_)
  refine go ?_;have n2:cmpI f.val g.val≠0:=fun e=>D (cmpI_zero.1 e);refine AX (rd 0 8 (.alt 8 (.read 9 .done) .stop)) An Dv (fun H I G=>⟨Ext w,?_,?_⟩)
  ·exact i.trans I
  replace i:=i.trans I;((apply D_R rfl rfl;(intro W d;refine Af rfl ?_;exact AA ⟨rfl,rfl,rfl⟩))<;>(apply D_R rfl rfl;(intro W d;refine AM rfl ?_;exact AA ⟨rfl,rfl,rfl⟩))<;>(apply D_R rfl rfl;(intro W d;refine AD rfl ?_;exact AA ⟨rfl,rfl,rfl⟩))<;>(apply D_R rfl rfl;(intro W d;refine AL rfl (p W d) ?_;exact AA ⟨rfl,rfl,rfl⟩))<;>(apply D_R rfl rfl;(intro W d;refine Af rfl ?_;exact AA ⟨rfl,rfl,rfl⟩))<;>(apply D_R rfl rfl;(intro W d;refine AM rfl ?_;exact AA ⟨rfl,rfl,rfl⟩))<;>(apply D_R rfl rfl;(intro W d;refine AD rfl ?_;exact AA ⟨rfl,rfl,rfl⟩))<;>(apply D_R rfl rfl;(intro W d;refine AL rfl (x W d) ?_;exact AA ⟨rfl,rfl,rfl⟩)))
  refine D_E rfl ?_;refine AE (cmpInt_ok f.val g.val _) rfl ?_;rintro _ _⟨rfl,rfl⟩;refine AA ⟨Ext w,fun _ e=>e,i,?_⟩;refine go ?_;exact AB rfl ⟨congrArg (Value.int .i64) (by simp only[cmpN];rw[Cg s,Cg B,thenI_ne n2]),i⟩
 have Z:=cmpI_zero.2 D;refine AX (rd 0 10 .done) An Dv (fun H I G=>⟨Ext w,?_,?_⟩)
 ·exact i.trans I
 replace i:=i.trans I;((apply D_R rfl rfl;(intro W d;refine Af rfl ?_;exact AA ⟨rfl,rfl,rfl⟩))<;>(apply D_R rfl rfl;(intro W d;refine AM rfl ?_;exact AA ⟨rfl,rfl,rfl⟩))<;>(apply D_R rfl rfl;(intro W d;refine AD rfl ?_;exact AA ⟨rfl,rfl,rfl⟩))<;>(apply D_R rfl rfl;(intro W d;refine AL rfl (p W d) ?_;exact AA ⟨rfl,rfl,rfl⟩))<;>(apply D_R rfl rfl;(intro W d;refine Af rfl ?_;exact AA ⟨rfl,rfl,rfl⟩))<;>(apply D_R rfl rfl;(intro W d;refine AM rfl ?_;exact AA ⟨rfl,rfl,rfl⟩))<;>(apply D_R rfl rfl;(intro W d;refine AD rfl ?_;exact AA ⟨rfl,rfl,rfl⟩))<;>(apply D_R rfl rfl;(intro W d;refine AL rfl (x W d) ?_;exact AA ⟨rfl,rfl,rfl⟩))<;>(refine D_neq rfl rfl rfl rfl (fun V=>?_) (fun V=>?_)<;>try omega)<;>(apply D_R rfl rfl;(intro W d;(refine AO ?_;refine AI rfl ?_);exact AA ⟨rfl,rfl,rfl⟩))<;>refine Bq ?_)
 refine go ?_;by_cases Q:f.bound=g.bound;rotate_left
 ·refine AX (rd 0 10 .done) An Dv (fun H I G=>⟨Ext w,?_,?_⟩)
  ·exact i.trans I
  replace i:=i.trans I;((apply D_R rfl rfl;(intro W d;refine Af rfl ?_;exact AA ⟨rfl,rfl,rfl⟩))<;>(apply D_R rfl rfl;(intro W d;refine AM rfl ?_;exact AA ⟨rfl,rfl,rfl⟩))<;>(apply D_R rfl rfl;(intro W d;refine AD rfl ?_;exact AA ⟨rfl,rfl,rfl⟩))<;>(apply D_R rfl rfl;(intro W d;refine AL rfl (k W d) ?_;exact AA ⟨rfl,rfl,rfl⟩))<;>(apply D_R rfl rfl;(intro W d;refine Af rfl ?_;exact AA ⟨rfl,rfl,rfl⟩))<;>(apply D_R rfl rfl;(intro W d;refine AM rfl ?_;exact AA ⟨rfl,rfl,rfl⟩))<;>(apply D_R rfl rfl;(intro W d;refine AD rfl ?_;exact AA ⟨rfl,rfl,rfl⟩))<;>(apply D_R rfl rfl;(intro W d;refine AL rfl (A W d) ?_;exact AA ⟨rfl,rfl,rfl⟩))<;>(refine D_neq rfl rfl rfl rfl (fun V=>?_) (fun V=>?_)<;>try omega)<;>(apply D_R rfl rfl;(intro W d;(refine AO ?_;refine AI rfl ?_);exact AA ⟨rfl,rfl,rfl⟩))<;>refine Bq ?_)
  refine go ?_;have n3:cmpI f.bound g.bound≠0:=fun e=>Q (cmpI_zero.1 e);refine AX (rd 0 8 (.alt 8 (.read 9 .done) .stop)) An Dv (fun H I G=>⟨Ext w,?_,?_⟩)
  ·exact i.trans I
  replace i:=i.trans I;((apply D_R rfl rfl;(intro W d;refine Af rfl ?_;exact AA ⟨rfl,rfl,rfl⟩))<;>(apply D_R rfl rfl;(intro W d;refine AM rfl ?_;exact AA ⟨rfl,rfl,rfl⟩))<;>(apply D_R rfl rfl;(intro W d;refine AD rfl ?_;exact AA ⟨rfl,rfl,rfl⟩))<;>(apply D_R rfl rfl;(intro W d;refine AL rfl (k W d) ?_;exact AA ⟨rfl,rfl,rfl⟩))<;>(apply D_R rfl rfl;(intro W d;refine Af rfl ?_;exact AA ⟨rfl,rfl,rfl⟩))<;>(apply D_R rfl rfl;(intro W d;refine AM rfl ?_;exact AA ⟨rfl,rfl,rfl⟩))<;>(apply D_R rfl rfl;(intro W d;refine AD rfl ?_;exact AA ⟨rfl,rfl,rfl⟩))<;>(apply D_R rfl rfl;(intro W d;refine AL rfl (A W d) ?_;exact AA ⟨rfl,rfl,rfl⟩)))
  refine D_E rfl ?_;refine AE (cmpInt_ok f.bound g.bound _) rfl ?_;rintro _ _⟨rfl,rfl⟩;refine AA ⟨Ext w,fun _ e=>e,i,?_⟩;refine go ?_;exact AB rfl ⟨congrArg (Value.int .i64) (by simp only[cmpN];rw[Cg s,Cg B,Cg Z,thenI_ne n3]),i⟩
 have z3:=cmpI_zero.2 Q;refine AX (rd 0 10 .done) An Dv (fun H I G=>⟨Ext w,?_,?_⟩)
 ·exact i.trans I
 replace i:=i.trans I;((apply D_R rfl rfl;(intro W d;refine Af rfl ?_;exact AA ⟨rfl,rfl,rfl⟩))<;>(apply D_R rfl rfl;(intro W d;refine AM rfl ?_;exact AA ⟨rfl,rfl,rfl⟩))<;>(apply D_R rfl rfl;(intro W d;refine AD rfl ?_;exact AA ⟨rfl,rfl,rfl⟩))<;>(apply D_R rfl rfl;(intro W d;refine AL rfl (k W d) ?_;exact AA ⟨rfl,rfl,rfl⟩))<;>(apply D_R rfl rfl;(intro W d;refine Af rfl ?_;exact AA ⟨rfl,rfl,rfl⟩))<;>(apply D_R rfl rfl;(intro W d;refine AM rfl ?_;exact AA ⟨rfl,rfl,rfl⟩))<;>(apply D_R rfl rfl;(intro W d;refine AD rfl ?_;exact AA ⟨rfl,rfl,rfl⟩))<;>(apply D_R rfl rfl;(intro W d;refine AL rfl (A W d) ?_;exact AA ⟨rfl,rfl,rfl⟩))<;>(refine D_neq rfl rfl rfl rfl (fun V=>?_) (fun V=>?_)<;>try omega)<;>(apply D_R rfl rfl;(intro W d;(refine AO ?_;refine AI rfl ?_);exact AA ⟨rfl,rfl,rfl⟩))<;>refine Bq ?_)
 refine go ?_;refine AX (rd 0 10 (.alt 10 (.read 11 .done) .stop)) An Dv (fun H I G=>⟨Ext w,?_,?_⟩)
 ·exact i.trans I
 replace i:=i.trans I;((apply D_R rfl rfl;(intro W d;refine Af rfl ?_;exact AA ⟨rfl,rfl,rfl⟩))<;>(apply D_R rfl rfl;(intro W d;refine AM rfl ?_;exact AA ⟨rfl,rfl,rfl⟩))<;>(apply D_R rfl rfl;(intro W d;refine AD rfl ?_;exact AA ⟨rfl,rfl,rfl⟩))<;>(apply D_R rfl rfl;(intro W d;refine AL rfl (a0 W d) ?_;exact AA ⟨rfl,rfl,rfl⟩))<;>(apply D_R rfl rfl;(intro W d;refine Bt rfl ?_;exact AA ⟨rfl,rfl,rfl⟩))<;>(apply D_R rfl rfl;(intro W d;refine Af rfl ?_;exact AA ⟨rfl,rfl,rfl⟩))<;>(apply D_R rfl rfl;(intro W d;refine AM rfl ?_;exact AA ⟨rfl,rfl,rfl⟩))<;>(apply D_R rfl rfl;(intro W d;refine AD rfl ?_;exact AA ⟨rfl,rfl,rfl⟩))<;>(apply D_R rfl rfl;(intro W d;refine AL rfl (a1 W d) ?_;exact AA ⟨rfl,rfl,rfl⟩))<;>(apply D_R rfl rfl;(intro W d;refine Bt rfl ?_;exact AA ⟨rfl,rfl,rfl⟩)))
 refine D_E rfl ?_;refine AE (cmpInt_ok f.args.length g.args.length _) rfl ?_;rintro _ _⟨rfl,rfl⟩;refine AA ⟨Ext w,fun _ e=>e,i,?_⟩;refine go ?_;exact AB rfl ⟨congrArg (Value.int .i64) (by simp only[cmpN];rw[Cg s,Cg B,Cg Z,Cg z3]),i⟩
section
attribute [local semireducible] WC AT Bo BI Bj Cw DV Be
variable {P:Program}{all:Array Oper}{Z:Fr->DS->List PanicEntry->World->Prop}{K:Fr->DS->World->Prop}{rest:List Oper}{f:Fr}{ds:DS}{w:World}{d:Nat}{ty:TypeId}{pos:String}{af:Array Edge}
class PtrT (P:Program) (T:TypeId) (e:outParam TypeId):Prop where
 und:P.underlying T=some (.pointer e)
 info:∃j,P.info? e=some j/\j.size≠0
theorem ptrT_of{T e:TypeId}(h:P.underlying T=some (.pointer e))(W:((P.info? e).map fun j=>decide (j.size≠0))=some true):PtrT P T e:=by
 obtain⟨j,z,Q⟩:=Option.map_eq_some_iff.1 W;exact⟨h,j,z,by simpa using Q⟩
theorem run_sameAddr_unm(w:World){a b:Addr}{F o:Array Value}{k T:TypeId}{S B:Nat×Nat}(I:w.heap[a.block]?=some (.cells F k S))(i:w.heap[b.block]?=some (.cells o T B))(j:S=(0,0)\/B=(0,0))(s:0<F.size)(X:0<o.size)(A:a≠b):(sameAddr a b).run P w=.ok false w:=by
 by_cases g:a.block=b.block
 ·simp[sameAddr,g,A]
 ·have c:F.size≠0:=by omega
  have e:o.size≠0:=by omega
  have G:(match some (k,F.size)with|some (_,0)=>true|_=>false)=false:=by
   cases h:F.size with
   |zero=>exact absurd h c
   |succ n=>rfl
  have D:(match some (T,o.size)with|some (_,0)=>true|_=>false)=false:=by
   cases h:o.size with
   |zero=>exact absurd h e
   |succ n=>rfl
  rcases j with rfl|rfl
  ·simp[sameAddr,g,World.frozen?,I,i,noView,viewAt,World.shape?,mayBeOne,stringish,c,e];try (split<;>simp[G,D])
  ·simp[sameAddr,g,World.frozen?,I,i,noView,viewAt,World.shape?,mayBeOne,stringish,c,e];try (split<;>simp[G,D])
theorem W_ptrEq{T r e:TypeId}{x y:Operand}{a b:Addr}{F o:Array Value}{k q:TypeId}{S B:Nat×Nat}[hT:PtrT P T e](m:ev f x=.pointer (some a))(p:ev f y=.pointer (some b))(I:w.heap[a.block]?=some (.cells F k S))(c:w.heap[b.block]?=some (.cells o q B))(l:S=(0,0)\/B=(0,0))(s:0<F.size)(X:0<o.size)
  (h:AT P all Z K rest (upd f d (.bool (decide (a=b)))) ds w):AT P all Z K (⟨some d,.binOp .eql T x y r,ty,pos,af,none⟩::rest) f ds w:=by
 refine Aw rfl ?_ h;obtain⟨j,z,D⟩:=hT.info
 have C:∀n:Nat,(Op.equalIn (n+1) T (.pointer (some a)) (.pointer (some b))).run P w=.ok (decide (a=b)) w:=fun n=>by
  by_cases i:a=b
  ·subst i;simp[Op.equalIn,run_underlying hT.und,sizeOf,typeInfo,z,run_sameAddr_same]
  ·simp[Op.equalIn,run_underlying hT.und,sizeOf,typeInfo,z,D,run_sameAddr_unm w I c l s X i,i]
 have g:(binOp .eql T (.pointer (some a)) (.pointer (some b))).run P w=.ok (.bool (decide (a=b))) w:=by
  simp only[binOp];simp[Op.equal,Op.maxDepth,C 9999]
 simp[execOp,m,p,eqGuard,g]
end
instance :PtrT Zp 96 36:=ptrT_of Tryz.underlying96 Dv
theorem sl_same{ok ok':Nat->Prop}{w:World}{a:Option Addr}{n c z k:Nat}{cs g:LV}(h:Sl ok w (.slice a n c) n cs)(m:Sl ok' w (.slice a n z) n g)(M:cs.length=n*k)(t:g.length=n*k):cs=g:=by
 by_cases s:n=0
 ·subst s;have j:cs=[]:=List.eq_nil_of_length_eq_zero (by simpa using M);have A:g=[]:=List.eq_nil_of_length_eq_zero EP;rw[j,A]
 ·obtain⟨_,_,e,_,_,_,p⟩:=h;obtain⟨_,_,R,_,_,_,q⟩:=m;cases e;cases R;obtain⟨b,o,rfl,_,V⟩:=p.resolve_left s;obtain⟨u,v,e,_,r⟩:=q.resolve_left s;cases e;refine List.ext_getElem? fun i=>?_;by_cases H:i<n*k
  ·have j:=List.getElem?_eq_getElem (l:=cs) (i:=i) U;have A:=List.getElem?_eq_getElem (l:=g) (i:=i) U;have X:=V i _ j;have W:=r i _ A;rw[j,A,<-X,<-W]
  ·rw[List.getElem?_eq_none U,List.getElem?_eq_none U]
theorem flat_inj(n:Nat)(G:0<n):∀{L M:List (LV)},(∀d∈L,d.length=n)->(∀d∈M,d.length=n)->L.flatten=M.flatten->L=M
 | [],[],_,_,_=>rfl
 | [],d::M,_,hM,e=>by
  have:=congrArg List.length e;have X:=hM d O;simp only[List.flatten_nil,List.length_nil,List.flatten_cons,List.length_append]at this;omega
 |c::L,[],hL,_,e=>by
  have:=congrArg List.length e;have X:=hL c O;simp only[List.flatten_nil,List.length_nil,List.flatten_cons,List.length_append]at this;omega
 |c::L,d::M,hL,hM,e=>by
  rw[List.flatten_cons,List.flatten_cons]at e;obtain⟨b,A⟩:=List.append_inj e (by rw[hL c O,hM d O]);rw[b,flat_inj n G (fun x T=>hL x (by simp[T])) (fun x T=>hM x (by simp[T])) A]
theorem FAt.uniq{ok ok':Nat->Prop}{w:World}:∀(f g:Fml)(v:Value),FAt ok w v f->FAt ok' w v g->f=g
 | .mk op nm x b args,g,v,hf,hg=>by
  obtain⟨av,rfl,L,j,D,S,C⟩:=hf.form;obtain⟨a0,e,E,r,F,p,X⟩:=hg.form;simp only[Value.agg.injEq,Array.mk.injEq,List.cons.injEq,Value.int.injEq,true_and,and_true]at e;obtain⟨h,A,m,V,H⟩:=e;subst H;obtain⟨a,c,rfl,a1⟩:=id j;obtain⟨T,c',N,a2⟩:=id r;have l:args.length=g.args.length:=(Value.slice.inj N).2.1
  have Q:L.flatten=E.flatten:=by
   have R:Sl ok' w (.slice a args.length c) args.length E.flatten:=by rw[l];rw[<-l];exact l▸r
   refine sl_same (k:=5) j R ?_ ?_
   ·rw[CM 5 L S,D]
   ·rw[CM 5 E p,F];exact congrArg (·*5) l.symm
  have z:=flat_inj 5 U S p Q;subst z
  have B:args=g.args:=by
   refine List.ext_getElem? fun i=>?_;by_cases t:i<args.length
   ·have q:L[i]?=some L[i]:=List.getElem?_eq_getElem U;have I:args[i]?=some args[i]:=List.getElem?_eq_getElem t;have s:g.args[i]?=some g.args[i]:=List.getElem?_eq_getElem U;rw[I,s,FAt.uniq args[i] g.args[i] _ (C i _ _ q I) (X i _ _ q s)]
   ·rw[List.getElem?_eq_none U,List.getElem?_eq_none U]
  have u:nm=g.name:=by
   have W:AK nm=AK g.name:=A;simp only[AK,Value.string.injEq,ByteArray.mk.injEq]at W;simpa using congrArg Array.toList W
  obtain⟨o,y,M,n,G⟩:=g;have h:op=o:=h;have A:nm=y:=u;have m:x=M:=m;have V:b=n:=V;have H:args=G:=B;rw[h,A,m,V,H]
 termination_by f=>f
 decreasing_by
  have:=List.sizeOf_lt_of_mem (List.getElem_mem t)
  simp_wf
  omega
def FL(ok:Nat->Prop)(w:World)(v:Value)(l:LF):Prop:=∃a c L,v=.slice a l.length c/\Sl ok w (.slice a l.length c) l.length L.flatten/\FsAt ok w L l
theorem FL.E{ok:Nat->Prop}{X:List Nat}{w w':World}{v:Value}{l:LF}(h:FL ok w v l)(k:Keep X w w')(W:∀b,ok b->b∉X):FL ok w' v l:=by
 obtain⟨a,c,L,rfl,e,g⟩:=h;exact⟨a,c,L,rfl,e.E k W,g.E k W⟩
theorem PF.args{ok:Nat->Prop}{w:World}{b o:Nat}{f:Fml}(h:PF ok w b o f):∃v,w.cell? ⟨b,o+4,none⟩=some v/\FL ok w v f.args:=by
 obtain⟨_,a,c,L,V,j,e⟩:=h.form;exact⟨_,V 4 _ rfl,a,c,L,rfl,j,e⟩
theorem FL.cons{ok:Nat->Prop}{w:World}{v:Value}{x:Fml}{l:LF}(h:FL ok w v (x::l)):∃b o c,v=.slice (some ⟨b,o,none⟩) (l.length+1) c/\1<=c/\PF ok w b o x/\FL ok w (.slice (adv c 1 5 (some ⟨b,o,none⟩)) l.length (c-1)) l:=by
 obtain⟨a,c,L,rfl,j,m⟩:=h;obtain⟨q,r,e,X,W,y,z⟩:=j;cases e;obtain⟨b,o,rfl,k,V⟩:=z.resolve_left O;obtain⟨A,S,E⟩:=m
 match L,A,S,E,V with
 |d::L,A,S,E,V=>
  have C:=S d O;have p:Cells w b o d:=fun i u n=>V i u (by rw[List.flatten_cons,List.getElem?_append_left (List.getElem?_eq_some_iff.1 n).1];exact n);have Q:L.length=l.length:=by simpa using A
  refine⟨b,o,c,rfl,by simp at X;omega,⟨k,d,C,p,E 0 d x rfl rfl⟩,_,_,L,rfl,⟨_,_,rfl,by simp at X;omega,by omega,?_,?_⟩,Q,fun c V=>S c D9,fun i c g V t=>E (i+1) c g (by simpa using V) EP⟩
  ·intro I;unfold adv at I
   split at I
   ·cases I
   ·simp at I
  ·by_cases s:l.length=0
   ·exact .inl s
   ·refine .inr ⟨b,o+5,?_,k,?_⟩
    ·unfold adv;rw[if_neg (by simp at X;omega)];rfl
    ·intro i u n;have:=V (5+i) u (by rw[List.flatten_cons,List.getElem?_append_right U,C,show 5+i-5=i by omega];exact n);rw[Nat.add_assoc];exact this
theorem FL.form{ok:Nat->Prop}{w:World}{v:Value}{l:LF}(h:FL ok w v l):∃a c,v=.slice a l.length c:=by
 obtain⟨a,c,L,rfl,_⟩:=h;exact⟨a,c,rfl⟩
theorem PF.uniq{ok ok':Nat->Prop}{w:World}{b o:Nat}{f g:Fml}(e:PF ok w b o f)(t:PF ok' w b o g):f=g:=by
 obtain⟨_,d,C,V,X⟩:=e;obtain⟨_,h,r,c,W⟩:=t
 have:d=h:=by
  refine List.ext_getElem? fun i=>?_;by_cases H:i<5
  ·have a:=List.getElem?_eq_getElem (l:=d) (i:=i) U;have A:=List.getElem?_eq_getElem (l:=h) (i:=i) U;rw[a,A,<-V i _ a,<-c i _ A]
  ·rw[List.getElem?_eq_none U,List.getElem?_eq_none U]
 subst this;exact FAt.uniq f g _ X W
theorem cell_blk{w:World}{b o:Nat}{v:Value}(h:w.cell? ⟨b,o,none⟩=some v):∃c t a,w.heap[b]?=some (.cells c t a)/\0<c.size/\c[o]?=some v:=by
 unfold World.cell? at h
 split at h
 ·rename_i c t a heq;simp at h;exact⟨c,t,a,heq,by have:=(Array.getElem?_eq_some_iff.1 h).1;omega,h⟩
 ·cases h
theorem unm_blk{w:World}{b o:Nat}{n:Int}(g:Unm w b)(h:w.cell? ⟨b,o,none⟩=some (iV n)):∃c t,w.heap[b]?=some (.cells c t (0,0))/\0<c.size:=by
 obtain⟨c,t,a,X,W,Q⟩:=cell_blk h;rcases g c t a X with rfl|z
 ·exact⟨c,t,X,W⟩
 ·obtain⟨m,e⟩:=z o _ Q;cases e
section
attribute [local semireducible] WC AT Bo BI Bj Cw DV Be
variable {P:Program}{all:Array Oper}{Z:Fr->DS->List PanicEntry->World->Prop}{K:Fr->DS->World->Prop}{rest:List Oper}{f:Fr}{ds:DS}{w:World}{d:Nat}{ty:TypeId}{pos:String}{af:Array Edge}
theorem W_slice_arr_h{T e size l:Nat}{b o:Nat}{x H:Operand}{A:IntKind}{a:Int}[hT:ArrT P T l e size](i:ev f x=.pointer (some ⟨b,o,none⟩))(c:ev f H=.int A a)(X:0<=a)(W:a<=l)
  (h:AT P all Z K rest (upd f d (.slice (some ⟨b,o,none⟩) a.toNat l)) ds w):AT P all Z K (⟨some d,.slice T x none (some H) none,ty,pos,af,none⟩::rest) f ds w:=by
 obtain⟨q,g,D⟩:=hT.out;refine Aw rfl ?_ h;simp only[execOp,i,c,Option.map_some,Option.map_none,Instr.sliceAt,Sem.run_bind,run_underlying hT.und,Result.andThen_ok,Instr.sureAddr,Instr.sliceBounds,Instr.sliceBound,asIntOf,Sem.run_pure,sizeOf,typeInfo,program];simp[Sem.run,g,D,X,W,Addr.add_lit]
theorem run_append_roomE(t ty e h:TypeId)(i:TypeInfo)(p:P.underlying t=some (.slice e))(H:P.info? e=some i)
  (g T S:Nat)(b:Array Value)(n:w.heap[g]?=some (.cells b h (0,0)))
  (a:Addr)(m c:Nat)(R:LV)(M:R.length=m*i.size)(o:∀j u,R[j]?=some u->w.cell? (a.add j)=some u)(X:∀u∈R,u.oneCell'=true)
  (C:T+m<=S)(V:T*i.size+R.length<=b.size):
  (Builtin.append_ #[t,t] ty #[.slice (sm g) T S,.slice (some a) m c]).run P w=
   .ok (.slice (sm g) (T+m) S) (w.setRow g (b.toList.take (T*i.size)++R++b.toList.drop (T*i.size+R.length)).toArray):=by
 have l:=run_firstCells_some (P:=P) w i.size m a m c R M o;have k:=run_storeCells_at P g (T*i.size) h R 0 b w n (by simpa using V) X;simp only[Nat.add_zero]at k;simp[Builtin.append_,run_underlying p,sizeOf,typeInfo,H,Builtin.lenOf,C,l,Addr.add_lit,k]
theorem W_append1{T e r size F n cap g:Nat}{z:Value}{s x:Operand}{sv:Value}{c:Array Value}{cs:LV}{ok:Nat->Prop}[hT:SlT P T e size F z](q:ev f s=.slice (sm g) n cap)(G:ev f x=sv)
  (t:w.heap[g]?=some (.cells c r (0,0)))(B:c.size=cap*size)(W:n<=cap)(Q:cap<=maxLen)(hs:Sl ok w sv 1 cs)(a6:0<size)(a2:z.cells.size=size)(M:cs.length=size)(X:oneC cs)(hm:n+1<=9223372036854775807)(S:(n+1)*F<=140737488355328)
  (h:∀g' cap' e'(A:Array Value)w',(g'=g\/g'=w.heap.size)->w'.heap[g']?=some (.cells A e' (0,0))->A.size=cap'*size->n+1<=cap'->cap'<=maxLen->A.toList.take ((n+1)*size)=c.toList.take (n*size)++cs->Keep [g] w w'->
   AT P all Z K rest (upd f d (.slice (sm g') (n+1) cap')) ds w'):
  AT P all Z K (⟨some d,.call ⟨.builtin .append,#[s,x],#[T,T]⟩,ty,pos,af,none⟩::rest) f ds w:=by
 obtain⟨i,H,hz,m,I⟩:=hT.out;obtain⟨a,E,rfl,a4,_,a5,N⟩:=hs;obtain⟨b,p,rfl,_,V⟩:=N.resolve_left U;have D:∀j u,cs[j]?=some u->w.cell? ((⟨b,p,none⟩:Addr).add j)=some u:=fun j u o=>by rw[Addr.add_lit];exact V j u o
 have L:cs.length=1*i.size:=by rw[m];omega
 have v:(c.toList.take (n*size)).length=n*size:=by
  rw[List.length_take,Array.length_toList,B];exact Nat.min_eq_left (Nat.mul_le_mul_right _ W)
 by_cases C:n+1<=cap
 ·have R:n*i.size+cs.length<=c.size:=by
   rw[m,M,B,<-Nat.succ_mul];exact Nat.mul_le_mul_right _ C
  have y:=run_append_roomE (P:=P) (w:=w) T ty e r i hT.und H g n cap c t ⟨b,p,none⟩ 1 E cs L D X C R;refine Aw (w':=w.setRow g (c.toList.take (n*i.size)++cs++c.toList.drop (n*i.size+cs.length)).toArray) rfl (by simp[execOp,resolve,invoke,builtin,q,G,y]) (h g cap r _ _ (.inl rfl) (setRow_heap w g c _ r _ t) ?_ C Q ?_ ?_)
  ·simp only[List.size_toArray,List.length_append,List.length_take,List.length_drop,Array.length_toList];omega
  ·rw[m,List.append_assoc];exact Fi
  ·exact⟨rfl,rfl,rfl,by simp,fun k _ l=>setRow_other w g k _ (by simpa using l),fun _=>mark_put (g:=g) (by simp[World.setRow]) (fun k l=>setRow_other w g k _ l) (Unm.cells (setRow_heap w g _ _ r _ t)),Nat.le_refl _⟩
 ·have a1:∀j u,(c.toList.take (n*size))[j]?=some u->w.cell? ((⟨g,0,none⟩:Addr).add j)=some u:=fun j u o=>by
   rw[Addr.add_lit,Nat.zero_add];rw[List.getElem?_take]at o
   split at o
   ·simp only[World.cell?,t];simpa using o
   ·cases o
  have a0:((n+1:Nat):Int)<=9223372036854775807:=by omega
  have y:=run_append_grow (P:=P) w T ty e i z hT.und H hz ⟨g,0,none⟩ n cap (c.toList.take (n*size)) (by rw[m];exact v) a1 ⟨b,p,none⟩ 1 E cs L D U a0 (by rw[I];exact growslice_fits U S);refine Aw (w':=w.drew.alloc (.cells ((c.toList.take (n*size)).toArray++cs.toArray++Builtin.zeroCells z.cells (grownCap w (n+1) cap e-(n+1))) e)) rfl (by simp[execOp,resolve,invoke,builtin,q,G,y]) (h w.heap.size _ e _ _ (.inr rfl) (heap_alloc_new w.drew _) ?_ (grownCap_ge w (n+1) cap e) (grownCap_le_maxLen w (n+1) cap e D3) ?_ ?_)
  ·simp only[Array.size_append,List.size_toArray,size_zeroCells,a2,v,M];have a3:=grownCap_ge w (n+1) cap e;rw[<-Nat.succ_mul,<-Nat.add_mul]
   congr 1
   omega
  ·simp only[Array.toList_append,List.append_assoc];exact Fi
  ·exact⟨rfl,rfl,rfl,by simp,fun k l _=>heap_alloc_old w.drew _ l,fun _=>mark_new O (fun k l=>heap_alloc_old w.drew _ l) (Unm.cells (heap_alloc_new w.drew _)),Nat.le_succ _⟩
end
abbrev PP:=LF×LF
def cmpSt:List PP->Int
 | []=>0
 |p::r=>Bu (cmpL p.1 p.2) (cmpSt r)
def wtSt(ps:List PP):Nat:=(ps.map fun p=>2*szL p.1+1).sum
theorem BD(ps:List PP)(p:PP):wtSt (ps++[p])=wtSt ps+(2*szL p.1+1):=by simp[wtSt]
theorem wtSt_len:∀ps:List PP,ps.length<=wtSt ps
 | []=>Nat.zero_le _
 |p::ps=>by have:=wtSt_len ps;simp only[wtSt,List.map_cons,List.sum_cons,List.length_cons]at this⊢;omega
def Row2(okf okg:Nat->Prop)(W:World)(c:LV)(p:PP):Prop:=∃v o,c=[v,o]/\FL okf W v p.1/\FL okg W o p.2/\p.1.length=p.2.length
theorem Row2.E{okf okg:Nat->Prop}{X:List Nat}{W W':World}{c:LV}{p:PP}(h:Row2 okf okg W c p)(k:Keep X W W')(d:∀b,okf b->b∉X)(f:∀b,okg b->b∉X):Row2 okf okg W' c p:=by
 obtain⟨v,o,e,a,b,l⟩:=h;exact⟨v,o,e,a.E k d,b.E k f,l⟩
structure CS(okf okg:Nat->Prop)(C:Nat)(W:World)(g cap:Nat)(e:TypeId)(L:List (LV))(rest:LV)(ps:List PP):Prop where
 ge:C<=g
 D:Blk W g e (L.flatten++rest)
 len:(L.flatten++rest).length=cap*2
 mx:cap<=maxLen
 two:∀c∈L,c.length=2
 ll:L.length=ps.length
 rows:∀(i:Nat)(c:LV)(p:PP),L[i]?=some c->ps[i]?=some p->Row2 okf okg W c p
 lo:∀b,okf b\/okg b->b<C
section
variable {okf okg:Nat->Prop}{C g cap:Nat}{W W':World}{e:TypeId}{L:List (LV)}{rest:LV}{ps:List PP}
theorem CS.flat(h:CS okf okg C W g cap e L rest ps):L.flatten.length=ps.length*2:=by rw[CM 2 L h.two,h.ll]
theorem CS.le(h:CS okf okg C W g cap e L rest ps):ps.length<=cap:=by
 have X:=h.len;rw[List.length_append,h.flat]at X;omega
theorem CS.ext(h:CS okf okg C W g cap e L rest ps)(k:Ext W W'):CS okf okg C W' g cap e L rest ps:=
 ⟨h.ge,h.D.E k O,h.len,h.mx,h.two,h.ll,fun i c p V v=>(h.rows i c p V v).E k O O,h.lo⟩
theorem CS.cut{c:LV}{p:PP}(h:CS okf okg C W g cap e (L++[c]) rest (ps++[p])):CS okf okg C W g cap e L (c++rest) ps:=by
 have b:(L++[c]).flatten++rest=L.flatten++(c++rest):=by simp
 refine⟨h.ge,by rw[<-b];exact h.D,by rw[<-b];exact h.len,h.mx,fun d a=>h.two d (by simp[a]),by have:=h.ll;simpa using this,fun i d q a T=>?_,h.lo⟩;have H:=(List.getElem?_eq_some_iff.1 a).1;have f:=(List.getElem?_eq_some_iff.1 T).1;exact h.rows i d q (by rw[List.getElem?_append_left H];exact a) (by rw[List.getElem?_append_left f];exact T)
theorem CS.split(h:CS okf okg C W g cap e L rest ps)(s:0<ps.length):∃E a v o l m,L=E++[[v,o]]/\ps=a++[(l,m)]/\FL okf W v l/\FL okg W o m/\l.length=m.length:=by
 have M:=h.ll;obtain⟨a,q,rfl⟩:∃a q,ps=a++[q]:=⟨ps.dropLast,ps.getLast (by intro e;simp[e]at s),(List.dropLast_concat_getLast _).symm⟩;obtain⟨E,c,rfl⟩:∃E c,L=E++[c]:=⟨L.dropLast,L.getLast (by intro e;simp[e]at M),(List.dropLast_concat_getLast _).symm⟩;simp only[List.length_append,List.length_singleton]at M;have x:=h.rows a.length c q (by rw[List.getElem?_append_right U];simp[show a.length-E.length=0 by omega]) O;obtain⟨v,o,rfl,X,b,Q⟩:=x;exact⟨E,a,v,o,q.1,q.2,rfl,rfl,X,b,Q⟩
theorem CS.cells{v o:Value}{l m:LF}(h:CS okf okg C W g cap e (L++[[v,o]]) rest (ps++[(l,m)])):W.cell? ⟨g,0+ps.length*2+0,none⟩=some v/\W.cell? ⟨g,0+ps.length*2+1,none⟩=some o/\0+ps.length*2+1<((L++[[v,o]]).flatten++rest).length:=by
 have a:=h.ll;simp only[List.length_append,List.length_singleton]at a;have A:L.flatten.length=ps.length*2:=by rw[CM 2 L fun c V=>h.two c D9];omega
 have d:((L++[[v,o]]).flatten++rest)[0+ps.length*2+0]?=some v:=by
  simp only[List.flatten_append,List.flatten_cons,List.flatten_nil,List.append_nil,List.append_assoc];rw[List.getElem?_append_right U];simp[A]
 have b:((L++[[v,o]]).flatten++rest)[0+ps.length*2+1]?=some o:=by
  simp only[List.flatten_append,List.flatten_cons,List.flatten_nil,List.append_nil,List.append_assoc];rw[List.getElem?_append_right U];rw[show 0+ps.length*2+1-L.flatten.length=1 by omega];rfl
 exact⟨h.D.cell d,h.D.cell b,(List.getElem?_eq_some_iff.1 b).1⟩
theorem CS.put{v j u o:Value}{l m a d:LF}(h:CS okf okg C W g cap e (L++[[v,j]]) rest (ps++[(l,m)]))(k:Keep [g] W W')
  (S:Blk W' g e ((((L++[[v,j]]).flatten++rest).set (0+ps.length*2+0) u).set (0+ps.length*2+1) o))(X:FL okf W' u a)(r:FL okg W' o d)(x:a.length=d.length):CS okf okg C W' g cap e (L++[[u,o]]) rest (ps++[(a,d)]):=by
 have w:=h.ll;simp only[List.length_append,List.length_singleton]at w;have N:∀c∈L,c.length=2:=fun c V=>h.two c D9;have A:L.flatten.length=ps.length*2:=by rw[CM 2 L N];omega
 have q:(((L++[[v,j]]).flatten++rest).set (0+ps.length*2+0) u).set (0+ps.length*2+1) o=(L++[[u,o]]).flatten++rest:=by
  simp only[List.flatten_append,List.flatten_cons,List.flatten_nil,List.append_nil,List.append_assoc];rw[List.set_append_right _ _ U,List.set_append_right _ _ U,show 0+ps.length*2+0-L.flatten.length=0 by omega,show 0+ps.length*2+1-L.flatten.length=1 by omega];rfl
 have t:∀b,okf b\/okg b->b∉[g]:=fun b S y=>by
  have:=h.lo b S;have:=h.ge;simp at y;omega
 refine⟨h.ge,by rw[<-q];exact S,?_,h.mx,fun c V=>?_,by simp;omega,fun i c p V f=>?_,h.lo⟩
 ·have:=h.len;simp only[List.flatten_append,List.flatten_cons,List.flatten_nil,List.append_nil,List.length_append,List.length_cons,List.length_nil]at this⊢;exact this
 ·rcases List.mem_append.1 V with V|V
  ·exact N c V
  ·simp at V;subst V;rfl
 ·by_cases H:i<L.length
  ·rw[List.getElem?_append_left H]at V;rw[List.getElem?_append_left U]at f;exact(h.rows i c p (by rw[List.getElem?_append_left H];exact V) (by rw[List.getElem?_append_left U];exact f)).E k (fun b S=>t b (.inl S)) fun b S=>t b (.inr S)
  ·have s:=(List.getElem?_eq_some_iff.1 V).1;simp at s;have:i=L.length:=by omega
   subst this;simp at V;have n:(ps++[(a,d)])[ps.length]?=some p:=by rw[show ps.length=L.length by omega];exact f
   simp at n;subst V;subst n;exact⟨u,o,rfl,X,r,x⟩
theorem CS.push{Q a:Nat}{R:TypeId}{A:Array Value}{u o:Value}{v d:LF}(h:CS okf okg C W g cap e L rest ps)(M:C<=W.heap.size)(t:Q=g\/Q=W.heap.size)(S:W'.heap[Q]?=some (.cells A R (0,0)))(D:A.size=a*2)(y:a<=maxLen)
  (P:A.toList.take ((ps.length+1)*2)=(L.flatten++rest).take (ps.length*2)++[u,o])(k:Keep [g] W W')(X:FL okf W' u v)(r:FL okg W' o d)(w:v.length=d.length):CS okf okg C W' Q a R (L++[[u,o]]) (A.toList.drop ((ps.length+1)*2)) (ps++[(v,d)]):=by
 have m:=h.ll;have x:=h.ge
 have l:∀b,okf b\/okg b->b∉[g]:=fun b S y=>by
  have:=h.lo b S;simp at y;omega
 have q:(L.flatten++rest).take (ps.length*2)=L.flatten:=by rw[<-h.flat];exact List.take_left
 have j:(L++[[u,o]]).flatten++A.toList.drop ((ps.length+1)*2)=A.toList:=by
  rw[q]at P;simp only[List.flatten_append,List.flatten_cons,List.flatten_nil,List.append_nil];rw[<-P,List.take_append_drop]
 refine⟨by rcases t with rfl|rfl<;>omega,?_,by rw[j];simpa using D,y,fun c V=>?_,by simp;omega,fun i c p V f=>?_,h.lo⟩
 ·rw[j];show W'.heap[Q]?=_;rw[S]
 ·rcases List.mem_append.1 V with V|V
  ·exact h.two c V
  ·simp at V;subst V;rfl
 ·by_cases H:i<L.length
  ·rw[List.getElem?_append_left H]at V;rw[List.getElem?_append_left U]at f;exact(h.rows i c p V f).E k (fun b S=>l b (.inl S)) fun b S=>l b (.inr S)
  ·have s:=(List.getElem?_eq_some_iff.1 V).1;simp at s;have:i=L.length:=by omega
   subst this;have n:(ps++[(v,d)])[ps.length]?=some p:=by rw[show ps.length=L.length by omega];exact f
   simp at n V;subst V;subst n;exact⟨u,o,rfl,X,r,w⟩
end
theorem cmpL_cons0{x y:Fml}{l m:LF}(h:BY x y=0):cmpL (x::l) (y::m)=cmpL l m:=by rw[cmpL,Cg h]
theorem Ds(a b c:Int):Bu (Bu a b) c=Bu a (Bu b c):=by
 unfold Bu;by_cases h:a=0
 ·rw[if_pos h,if_pos h]
 ·rw[if_neg h,if_neg h,if_neg h]
structure CI(w:World)(okf okg:Nat->Prop)(N:Nat)(r:Int)(x:Nat×Nat×List PP)(W:World):Prop where
 cs:∃e L rest,CS okf okg w.heap.size W x.1 x.2.1 e L rest x.2.2
 ext:Ext w W
 res:r=cmpSt x.2.2.reverse
 wt:wtSt x.2.2<=N
theorem PF.op{ok:Nat->Prop}{w:World}{b o:Nat}{f:Fml}(h:PF ok w b o f):w.cell? ⟨b,o+0,none⟩=some (iV f.op):=by
 obtain⟨_,a,c,L,V,_⟩:=h.form;exact V 0 _ rfl
theorem Cu(ps:List PP)(p:PP):cmpSt (ps++[p]).reverse=Bu (cmpL p.1 p.2) (cmpSt ps.reverse):=by simp[cmpSt]
theorem cell_same{w W V:World}{b o:Nat}{v:Value}(k:Ext w W)(c:Ext w V)(S:b<w.heap.size)(h:W.cell? ⟨b,o,none⟩=some v):V.cell? ⟨b,o,none⟩=some v:=by
 have a:=k.block b S O;have A:=c.block b S O;unfold World.cell? at h⊢;rw[A,<-a];exact h
set_option maxHeartbeats 6400000 in
theorem DO(w:World)(v v':Value)(f g:Fml)(a8 a9:Nat->Prop)(hf:FAt a8 w v f)(hg:FAt a9 w v' g)(E:(∀b,a8 b->Unm w b)\/(∀b,a9 b->Unm w b))(hz:szF f<=1000000):
  Fn Zp 16 [v,v'] w fun r w'=>r=iV (BY f g)/\Ext w w':=by
 obtain⟨av,rfl,Lf,e5,c7⟩:=hf.form;obtain⟨bv,rfl,Lg,e7,c8⟩:=hg.form;obtain⟨a,c,rfl,_⟩:=id e5;obtain⟨a',c',rfl,_⟩:=id e7;have e6:=e5.lt (flatten_ne c7.1 c7.2.1);have e8:=e7.lt (flatten_ne c8.1 c8.2.1);have g6:=hf.lt;have g7:=hg.lt;refine AG Tryz.func16 rfl Tryz.ntmps16 (go ?_);refine Ai (L:=fcC f (.slice a f.args.length c)) rfl (fun w1 n1=>?_);refine Ai (L:=fcC g (.slice a' g.args.length c')) rfl (fun w2 n2=>?_);have b1:=n1.D.E n2.E O;have b2:=n2.D;have z1:=n1.size;have z2:=n2.size;have k2:Ext w w2:=n1.E.trans n2.E;refine go ?_;have pf:PF AV w2 w.heap.size 0 f:=⟨trivial,fcC f _,rfl,b1.cells,((hf.ext k2).mono fun _ _=>trivial)⟩;have pg:PF AV w2 w1.heap.size 0 g:=⟨trivial,fcC g _,rfl,b2.cells,((hg.ext k2).mono fun _ _=>trivial)⟩;refine go ?_;refine AE (cmpNodes_ok w2 _ _ _ _ f g pf pg) rfl ?_;rintro _ Q⟨rfl,k3⟩;((refine AO ?_;refine AY rfl ?_))
 repeat refine nx rfl ?_
 have e4:Q.cell? ⟨w.heap.size,0+4,none⟩=some (.slice a f.args.length c):=(b1.E k3 O).cell rfl;have e4':Q.cell? ⟨w1.heap.size,0+4,none⟩=some (.slice a' g.args.length c'):=(b2.E k3 O).cell rfl;have b0:Ext w Q:=k2.trans k3;generalize b9:cmpN f g=cn;have b6:=cmpF_split f g;rw[b9]at b6;by_cases hne:cn=0;rotate_left
 ·(refine AJ (AY rfl ?_)<;>(refine W_neq rfl rfl (fun s=>?_) (fun s=>?_)<;>try omega)<;>refine AI rfl (Ak rfl (Ak rfl (Ak rfl (Ak rfl (Am rfl (AI rfl ?_)))))))
  repeat refine nx rfl ?_
  refine AJ (AY rfl (AO (AY rfl ?_)));repeat refine nx rfl ?_
  exact AB rfl ⟨congrArg (Value.int .i64) (by rw[b6,thenI_ne hne]),b0⟩
 rw[Cg hne]at b6;by_cases h0:f.args.length=0
 ·(refine AJ (AY rfl ?_)<;>(refine W_neq rfl rfl (fun s=>?_) (fun s=>?_)<;>try omega)<;>refine AI rfl (AN rfl (AD rfl (AN rfl ?_)))<;>refine AL rfl Dz ?_<;>refine AN rfl (Bt rfl ?_)<;>(refine AN rfl ?_;(refine Bm rfl rfl (fun s=>?_) (fun s=>?_)<;>try omega))<;>refine Al rfl (AI rfl ?_))
  repeat refine nx rfl ?_
  refine AJ (AY rfl (AO (AY rfl ?_)));repeat refine nx rfl ?_
  refine AB rfl ⟨congrArg (Value.int .i64) ?_,b0⟩;rw[b6,List.length_eq_zero_iff.1 h0,hne];cases g.args<;>rfl
 (refine AJ (AY rfl ?_)<;>(refine W_neq rfl rfl (fun s=>?_) (fun s=>?_)<;>try omega)<;>refine AI rfl (AN rfl (AD rfl (AN rfl ?_)))<;>refine AL rfl Dz ?_<;>refine AN rfl (Bt rfl ?_)<;>(refine AN rfl ?_;(refine Bm rfl rfl (fun s=>?_) (fun s=>?_)<;>try omega))<;>refine Al rfl (AI rfl ?_))
 repeat first|refine nx rfl ?_|refine nf rfl ?_
 have g5:f.args.length=g.args.length:=by
  unfold cmpN at b9;rw[hne]at b9;simp only[thenI_zero,cmpI_zero]at b9;omega
 (refine AJ ?_)
 refine AS (fun w4 n4=>?_);repeat refine nx rfl ?_
 have z4:=n4.size;have z3:=k3.size;have i0:=b0.trans n4.E;have FLf:∀W,Ext w W->FL (fun b=>a8 b/\b<w.heap.size) W (.slice a f.args.length c) f.args:=fun W k=>⟨a,c,Lf,rfl,e6.ext k,(FsAt.lt c7).E k O⟩;have e3:∀W,Ext w W->FL (fun b=>a9 b/\b<w.heap.size) W (.slice a' g.args.length c') g.args:=fun W k=>⟨a',c',Lg,rfl,e8.ext k,(FsAt.lt c8).E k O⟩
 have e9:(∀W,Ext w W->∀b,a8 b/\b<w.heap.size->Unm W b)\/(∀W,Ext w W->∀b,a9 b/\b<w.heap.size->Unm W b):=by
  rcases E with E|E
  ·exact .inl fun W k b S=>(E b S.1).eq (k.block b S.2 O)
  ·exact .inr fun W k b S=>(E b S.1).eq (k.block b S.2 O)
 clear g6 g7 e6 e8 pf pg;refine AX (rd 0 6 (.alt 6 (.alt 7 (.read 8 .done) .stop) .stop)) An Dv (fun R I ed=>⟨Ext Q,?_,?_⟩)
 ·exact n4.E.trans I
 have qa:∀W,Ext Q W->W.cell? ⟨w.heap.size,0+4,none⟩=some (.slice a f.args.length c):=fun W e=>e.cell e4 O;have qb:∀W,Ext Q W->W.cell? ⟨w1.heap.size,0+4,none⟩=some (.slice a' g.args.length c'):=fun W e=>e.cell e4' O;(apply D_R rfl rfl;(intro W d;(refine W_slice_arr_h rfl rfl U U ?_);exact AA ⟨rfl,rfl,rfl⟩))
 ((apply D_R rfl rfl;(intro W d;refine AD rfl ?_;exact AA ⟨rfl,rfl,rfl⟩))<;>(apply D_R rfl rfl;(intro W d;refine AL rfl (qa W d) ?_;exact AA ⟨rfl,rfl,rfl⟩))<;>(apply D_R rfl rfl;(intro W d;refine AD rfl ?_;exact AA ⟨rfl,rfl,rfl⟩))<;>(apply D_R rfl rfl;(intro W d;refine AL rfl (qb W d) ?_;exact AA ⟨rfl,rfl,rfl⟩))<;>(apply D_R rfl rfl;(intro W d;refine Bv Dx Dx ?_;exact AA ⟨rfl,rfl,rfl⟩)))
 refine D_E rfl ?_;refine AP (out:=[.slice a f.args.length c,.slice a' g.args.length c']) rfl U Dv (fun w5 n5=>?_);have z5:=n5.size;have zd:=I.size;refine AA ⟨Ext Q,fun _ e=>e,(n4.E.trans I).trans n5.E,?_⟩;have b5:=(n4.D.E I O).E n5.E O;have f6:=(n4.E.trans I).trans n5.E;refine D_E rfl ?_
 refine W_append1 (size:=2) (n:=0) (cap:=8) (g:=Q.heap.size) (sv:=.slice (sm R.heap.size) 1 1) (ok:=AV) (cs:=[.slice a f.args.length c,.slice a' g.args.length c']) rfl rfl b5 Dx U D7
  ⟨_,_,rfl,by omega,by omega,(fun h=>by cases h),.inr ⟨_,_,rfl,trivial,n5.D.cells⟩⟩ D7 rfl rfl EW U U (fun g' f9 e' h1 w6 hg' f0 hs' h5 g9 f5 k6=>?_)
 have c0:CS (fun b=>a8 b/\b<w.heap.size) (fun b=>a9 b/\b<w.heap.size) w.heap.size w5 Q.heap.size 8 _ [] _ []:=⟨by omega,b5,rfl,by decide,(fun c s=>by cases s),rfl,(fun i c p s=>by simp at s),fun b S=>by rcases S with S|S<;>exact S.2⟩;have b7:Ext Q w6:=f6.E k6 O;have c6:=c0.push U hg' f0 hs' g9 f5 k6 (FLf w6 (b0.trans b7)) (e3 w6 (b0.trans b7)) g5;refine AA ⟨Ext Q,fun _ e=>e,b7,?_⟩;((apply D_R rfl rfl;(intro W d;(refine AO ?_;refine Av rfl ?_);exact AA ⟨rfl,rfl,rfl⟩))<;>refine Bq ?_)
 repeat refine nx rfl ?_
 have h9:=BJ f
 refine Ah (α:=Nat×Nat×List PP) (fun x=>[(7,.slice (sm x.1) x.2.2.length x.2.1)]) (CI w (fun b=>a8 b/\b<w.heap.size) (fun b=>a9 b/\b<w.heap.size) 2000001 (BY f g)) (fun x=>wtSt x.2.2) (g',f9,[(f.args,g.args)]) ⟨rfl,trivial⟩
  ⟨⟨_,_,_,c6⟩,b0.trans b7,by rw[b6];simp[cmpSt,Bu],by simp[wtSt];omega⟩ ?_
 clear c6 c0 b7 f6 f0 f5 k6 FLf e3 b5 n5 n4 s qa qb e4 e4' I;rintro⟨t,D,ps⟩W f3 hI;obtain⟨⟨e,L,i1,G⟩,kW,P,hwt⟩:=hI;simp only at G P hwt⊢;repeat refine nx rfl ?_
 by_cases f4:ps.length=0
 ·have e0:ps=[]:=List.length_eq_zero_iff.1 f4;subst e0;(refine AJ (Av rfl (Bt rfl ?_))<;>(refine W_gtr rfl rfl (fun s=>?_) (fun s=>?_)<;>try omega))
  repeat first|refine nx rfl ?_|refine nf rfl ?_
  refine AJ (AO (AY rfl ?_));repeat refine nx rfl ?_
  exact AB rfl ⟨congrArg (Value.int .i64) (by rw[P];rfl),kW⟩
 obtain⟨L',q,v,v',l,m,rfl,rfl,hl,j,f2⟩:=G.split U;obtain⟨x0,x1,h7⟩:=G.cells;have g3:=G.le;have g8:=G.lo;have f1:=G.ge
 have A:∀b,(a8 b/\b<w.heap.size)\/(a9 b/\b<w.heap.size)->b∉[t]:=fun b S j=>by
  have:=g8 b S;simp at j;omega
 have h6:=wtSt_len q;rw[Cu]at P;rw[BD]at hwt;simp only[List.length_append,List.length_singleton]at g3⊢;simp only at P hwt;clear f4;(refine AJ (Av rfl (Bt rfl ?_))<;>(refine W_gtr rfl rfl (fun s=>?_) (fun s=>?_)<;>try omega))
 repeat refine nx rfl ?_
 (refine AJ (Av rfl (Av rfl (Bt rfl ?_)))<;>refine W_sub rfl rfl D8 ?_)
 refine Cd (k:=q.length) rfl rfl U U ?_;((refine AO ?_;refine Af rfl ?_))
 repeat refine nx rfl ?_
 cases l with
 |nil=>
  obtain⟨a0,c0,rfl⟩:=hl.form;have h4:([]:LF).length=0:=rfl;(refine AJ (Af rfl (AM rfl (AD rfl ?_)))<;>refine AL rfl Dz ?_<;>refine Bt rfl ?_<;>(refine Bm rfl rfl (fun s=>?_) (fun s=>?_)<;>try omega))
  repeat refine nx rfl ?_
  (refine AJ (Av rfl (Av rfl (Bt rfl ?_)))<;>refine W_sub rfl rfl D8 ?_)
  refine W_slice_h rfl rfl U U ?_;rw[show((((q.length+1:Nat):Int)-1).toNat)=q.length by omega];((refine AO ?_;refine Av rfl ?_))
  repeat refine nx rfl ?_
  refine⟨(t,D,q),⟨rfl,⟨rfl,trivial⟩,⟨⟨_,_,_,G.cut⟩,kW,?_,by simp only;omega⟩⟩,by simp only;rw[BD];omega⟩;simp only;rw[P];rfl
 |cons x l=>
  cases m with
  |nil=>simp at f2
  |cons y m=>
   obtain⟨z,M,cx,rfl,h2,hx,tx⟩:=hl.cons;obtain⟨B,N,cy,rfl,h3,hy,ty⟩:=j.cons;have hlm':l.length=m.length:=by simpa using f2
   have h8:=BJ x;simp only[szL]at hwt;(refine AJ (Af rfl (AM rfl (AD rfl ?_)))<;>refine AL rfl Dz ?_<;>refine Bt rfl ?_<;>(refine Bm rfl rfl (fun s=>?_) (fun s=>?_)<;>try omega))
   repeat first|refine nx rfl ?_|refine nf rfl ?_
   refine AX (rd 0 12 .done) An Dv (fun R I ed=>⟨Ext R,?_,?_⟩)
   ·exact Ew
   have f7:∀V,Ext R V->V.cell? ⟨t,0+q.length*2+0,none⟩=some (.slice (some ⟨z,M,none⟩) (l.length+1) cx):=fun V e=>(I.trans e).cell x0 O;have f8:∀V,Ext R V->V.cell? ⟨t,0+q.length*2+1,none⟩=some (.slice (some ⟨B,N,none⟩) (m.length+1) cy):=fun V e=>(I.trans e).cell x1 O;((apply D_R rfl rfl;(intro W d;refine Af rfl ?_;exact AA ⟨rfl,rfl,rfl⟩))<;>(apply D_R rfl rfl;(intro W d;refine AM rfl ?_;exact AA ⟨rfl,rfl,rfl⟩))<;>(apply D_R rfl rfl;(intro W d;refine AD rfl ?_;exact AA ⟨rfl,rfl,rfl⟩))<;>(apply D_R rfl rfl;(intro W d;refine AL rfl (f7 W d) ?_;exact AA ⟨rfl,rfl,rfl⟩)))
   (apply D_R rfl rfl;(intro W d;refine Cd (k:=0) rfl rfl rfl U ?_;exact AA ⟨rfl,rfl,rfl⟩))
   ((apply D_R rfl rfl;(intro W d;refine Af rfl ?_;exact AA ⟨rfl,rfl,rfl⟩))<;>(apply D_R rfl rfl;(intro W d;refine AM rfl ?_;exact AA ⟨rfl,rfl,rfl⟩))<;>(apply D_R rfl rfl;(intro W d;refine AD rfl ?_;exact AA ⟨rfl,rfl,rfl⟩))<;>(apply D_R rfl rfl;(intro W d;refine AL rfl (f8 W d) ?_;exact AA ⟨rfl,rfl,rfl⟩)))
   refine go ?_;have kA:=I;clear I f7 f8;refine AX (rd 0 5 (rd 7 3 (.alt 5 (.read 6 (.alt 10 (rd 11 3 (.alt 14 (.read 15 (.read 16 (.alt 17 .done .stop))) .stop)) .stop)) (.alt 10 (.read 11 (.alt 5 (.read 6 (.read 12 (.read 13 (.alt 14 (.read 15 (.read 16 (.alt 17 .done .stop))) .stop)))) .stop)) .stop)))) An Dv (fun R I ed=>⟨fun _=>True,?_,?_⟩)
   ·trivial
   have c2:=kA.trans I;have kD:Keep [t] W R:=c2.any;have bd:=G.D.E c2 O;have y0:=c2.cell x0 O;have y1:=c2.cell x1 O;refine go ?_;refine D_A rfl ?_ (D_E rfl ?_)
   ·refine AL rfl y0 ?_;refine wNl trivial ?_;refine go ?_;refine D_E rfl ?_;refine AL rfl y1 ?_;refine wNl trivial ?_;refine go ?_;refine D_E rfl ?_;refine AR rfl rfl rfl bd U (fun wA pA=>?_);refine wNl trivial ?_;refine go ?_;refine D_E rfl ?_;refine AR rfl rfl rfl pA.D (by rw[List.length_set];omega) (fun H pB=>?_);refine wNl trivial ?_;refine go ?_;have kB:Keep [t] W H:=(kD.trans pA.E O).trans pB.E O;have hB:=G.put kB pB.D (tx.E kB fun b S j=>A b (.inl S) j) (ty.E kB fun b S j=>A b (.inr S) j) hlm';have a4:Ext w H:=kW.E kB (by simp;exact G.ge);have o:=hx.E kB fun b S j=>A b (.inl S) j;have C:=hy.E kB fun b S j=>A b (.inr S) j;obtain⟨ca,ta,fa,b4,c9,_⟩:=cell_blk o.op;obtain⟨cb,tb,fb,hb1,d0,_⟩:=cell_blk C.op
    have d8:fa=(0,0)\/fb=(0,0):=by
     rcases e9 with hU|hU
     ·obtain⟨c1,t1,X,_⟩:=unm_blk (hU H a4 z o.1) o.op;rw[b4]at X;cases X;exact .inl rfl
     ·obtain⟨c1,t1,X,_⟩:=unm_blk (hU H a4 B C.1) C.op;rw[hb1]at X;cases X;exact .inr rfl
    refine go ?_;refine W_ptrEq (a:=⟨z,M+0*5,none⟩) (b:=⟨B,N+0*5,none⟩) rfl rfl b4 hb1 d8 c9 d0 (go ?_);by_cases a5:(⟨z,M+0*5,none⟩:Addr)=⟨B,N+0*5,none⟩
    ·rw[decide_eq_true a5];refine go ?_
     obtain⟨rfl,rfl⟩:z=B/\M=N:=by
      have:=Addr.mk.inj a5;exact⟨this.1,by have:=this.2.1;omega⟩
     have d9:=o.uniq C;refine⟨(t,D,q++[(l,m)]),⟨rfl,⟨congrArg (fun n=>Value.slice (sm t) n D) O,trivial⟩,⟨⟨_,_,_,hB⟩,a4,?_,by simp only;rw[BD];simp only;omega⟩⟩,by simp only;rw[BD,BD];simp only[szL];omega⟩;simp only;rw[Cu,P,cmpL_cons0 ((Bs x y).2 d9)]
    ·rw[decide_eq_false a5];refine go ?_;refine AE (cmpNodes_ok H z _ B _ x y (o.mono fun _ _=>trivial) (C.mono fun _ _=>trivial)) rfl ?_;rintro _ wC⟨rfl,kC⟩;refine go ?_;have F:=a4.trans kC;have hC:=hB.ext kC;have pxC:=o.E kC O;have e1:=C.E kC O;generalize a2:cmpN x y=cn2;have K:=cmpF_split x y;rw[a2]at K;by_cases a6:cn2=0;rotate_left
     ·refine go ?_;exact AB rfl ⟨congrArg (Value.int .i64) (by rw[P,cmpL,K,Ds,Ds,thenI_ne a6]),F⟩
     rw[Cg a6]at K
     have d3:x.args.length=y.args.length:=by
      unfold cmpN at a2;rw[a6]at a2;simp only[thenI_zero,cmpI_zero]at a2;omega
     refine go ?_;obtain⟨vx,c3,fvx⟩:=pxC.args;obtain⟨vy,c5,b3⟩:=e1.args;obtain⟨T,cxx,rfl⟩:=fvx.form;obtain⟨Z,a1,rfl⟩:=b3.form;have c4:wC.cell? ⟨z,M+0*5+4,none⟩=some (.slice T x.args.length cxx):=c3;have cvy':wC.cell? ⟨B,N+0*5+4,none⟩=some (.slice Z y.args.length a1):=c5;by_cases g1:0<x.args.length
     ·refine go ?_;refine AX (rd 0 10 (.alt 10 (.alt 11 (.read 12 .done) .stop) .stop)) An Dv (fun R I ed=>⟨Ext w,?_,?_⟩)
      ·exact F.trans I
      have qp:∀V,Ext w V->V.cell? ⟨z,M+0*5+4,none⟩=some (.slice T x.args.length cxx):=fun V e=>cell_same F e o.1.2 c4;have qq:∀V,Ext w V->V.cell? ⟨B,N+0*5+4,none⟩=some (.slice Z y.args.length a1):=fun V e=>cell_same F e C.1.2 cvy';((apply D_R rfl rfl;(intro W d;refine Av rfl ?_;exact AA ⟨rfl,rfl,rfl⟩))<;>(apply D_R rfl rfl;(intro W d;refine Af rfl ?_;exact AA ⟨rfl,rfl,rfl⟩))<;>(apply D_R rfl rfl;(intro W d;refine AM rfl ?_;exact AA ⟨rfl,rfl,rfl⟩))<;>(apply D_R rfl rfl;(intro W d;refine AD rfl ?_;exact AA ⟨rfl,rfl,rfl⟩))<;>(apply D_R rfl rfl;(intro W d;refine AL rfl (qp W d) ?_;exact AA ⟨rfl,rfl,rfl⟩))<;>(apply D_R rfl rfl;(intro W d;refine Af rfl ?_;exact AA ⟨rfl,rfl,rfl⟩))<;>(apply D_R rfl rfl;(intro W d;refine AM rfl ?_;exact AA ⟨rfl,rfl,rfl⟩))<;>(apply D_R rfl rfl;(intro W d;refine AD rfl ?_;exact AA ⟨rfl,rfl,rfl⟩))<;>(apply D_R rfl rfl;(intro W d;refine AL rfl (qq W d) ?_;exact AA ⟨rfl,rfl,rfl⟩))<;>(apply D_R rfl rfl;(intro W d;refine Bv Dx Dx ?_;exact AA ⟨rfl,rfl,rfl⟩)))
      refine D_E rfl ?_;refine AP (out:=[.slice T x.args.length cxx,.slice Z y.args.length a1]) rfl U Dv (fun wE nE=>?_);have a3:=I.trans nE.E;have a7:=F.trans a3;have hE:=hC.ext a3;refine AA ⟨Ext w,fun _ e=>e,a7,?_⟩;have d5:(q++[(l,m)]).length=q.length+1:=by simp
      refine D_E rfl ?_
      refine W_append1 (size:=2) (n:=q.length+1) (cap:=D) (g:=t) (sv:=.slice (sm R.heap.size) 1 1) (ok:=AV) (cs:=[.slice T x.args.length cxx,.slice Z y.args.length a1]) rfl rfl hE.D (by rw[List.size_toArray];exact hE.len) U hE.mx
       ⟨_,_,rfl,by omega,by omega,(fun h=>by cases h),.inr ⟨_,_,rfl,trivial,nE.D.cells⟩⟩ D7 rfl rfl EW U U (fun g2 cap2 e2 g0 wF d2 d1 d6 g4 d4 d7 kF=>?_)
      have hF:=hE.push a7.size d2 d1 d6 d4 (by rw[d5];simpa using d7) kF (fvx.E (a3.any.trans kF O) fun b S j=>A b (.inl S) j) (b3.E (a3.any.trans kF O) fun b S j=>A b (.inr S) j) d3;have b8:=a7.E kF (by simp;exact f1);refine AA ⟨Ext w,fun _ e=>e,b8,?_⟩;refine go ?_;refine⟨(g2,cap2,q++[(l,m)]++[(x.args,y.args)]),⟨rfl,⟨congrArg (fun n=>Value.slice (sm g2) n cap2) O,trivial⟩,⟨⟨_,_,_,hF⟩,b8,?_,by simp only;rw[BD,BD];simp only;omega⟩⟩,by simp only;rw[BD,BD,BD];simp only[szL];omega⟩;simp only;rw[Cu,Cu,P,cmpL,K,Ds]
     ·refine go ?_;have ex:x.args=[]:=List.length_eq_zero_iff.1 U;have ez:BY x y=0:=by rw[K,ex];cases y.args<;>rfl
      refine⟨(t,D,q++[(l,m)]),⟨rfl,⟨congrArg (fun n=>Value.slice (sm t) n D) O,trivial⟩,⟨⟨_,_,_,hC⟩,F,?_,by simp only;rw[BD];simp only;omega⟩⟩,by simp only;rw[BD,BD];simp only[szL];omega⟩;simp only;rw[Cu,P,cmpL_cons0 ez]
   ·refine AL rfl y1 ?_;refine wNl trivial ?_;refine go ?_;refine D_E rfl ?_;refine AL rfl y0 ?_;refine wNl trivial ?_;refine go ?_;refine D_E rfl ?_;refine AR rfl rfl rfl bd U (fun wA pA=>?_);refine wNl trivial ?_;refine go ?_;refine D_E rfl ?_;refine AR rfl rfl rfl pA.D (by rw[List.length_set];omega) (fun H pB=>?_);refine wNl trivial ?_;refine go ?_;have kB:Keep [t] W H:=(kD.trans pA.E O).trans pB.E O;have hB:=G.put kB pB.D (tx.E kB fun b S j=>A b (.inl S) j) (ty.E kB fun b S j=>A b (.inr S) j) hlm';have a4:Ext w H:=kW.E kB (by simp;exact G.ge);have o:=hx.E kB fun b S j=>A b (.inl S) j;have C:=hy.E kB fun b S j=>A b (.inr S) j;obtain⟨ca,ta,fa,b4,c9,_⟩:=cell_blk o.op;obtain⟨cb,tb,fb,hb1,d0,_⟩:=cell_blk C.op
    have d8:fa=(0,0)\/fb=(0,0):=by
     rcases e9 with hU|hU
     ·obtain⟨c1,t1,X,_⟩:=unm_blk (hU H a4 z o.1) o.op;rw[b4]at X;cases X;exact .inl rfl
     ·obtain⟨c1,t1,X,_⟩:=unm_blk (hU H a4 B C.1) C.op;rw[hb1]at X;cases X;exact .inr rfl
    refine go ?_;refine W_ptrEq (a:=⟨z,M+0*5,none⟩) (b:=⟨B,N+0*5,none⟩) rfl rfl b4 hb1 d8 c9 d0 (go ?_);by_cases a5:(⟨z,M+0*5,none⟩:Addr)=⟨B,N+0*5,none⟩
    ·rw[decide_eq_true a5];refine go ?_
     obtain⟨rfl,rfl⟩:z=B/\M=N:=by
      have:=Addr.mk.inj a5;exact⟨this.1,by have:=this.2.1;omega⟩
     have d9:=o.uniq C;refine⟨(t,D,q++[(l,m)]),⟨rfl,⟨congrArg (fun n=>Value.slice (sm t) n D) O,trivial⟩,⟨⟨_,_,_,hB⟩,a4,?_,by simp only;rw[BD];simp only;omega⟩⟩,by simp only;rw[BD,BD];simp only[szL];omega⟩;simp only;rw[Cu,P,cmpL_cons0 ((Bs x y).2 d9)]
    ·rw[decide_eq_false a5];refine go ?_;refine AE (cmpNodes_ok H z _ B _ x y (o.mono fun _ _=>trivial) (C.mono fun _ _=>trivial)) rfl ?_;rintro _ wC⟨rfl,kC⟩;refine go ?_;have F:=a4.trans kC;have hC:=hB.ext kC;have pxC:=o.E kC O;have e1:=C.E kC O;generalize a2:cmpN x y=cn2;have K:=cmpF_split x y;rw[a2]at K;by_cases a6:cn2=0;rotate_left
     ·refine go ?_;exact AB rfl ⟨congrArg (Value.int .i64) (by rw[P,cmpL,K,Ds,Ds,thenI_ne a6]),F⟩
     rw[Cg a6]at K
     have d3:x.args.length=y.args.length:=by
      unfold cmpN at a2;rw[a6]at a2;simp only[thenI_zero,cmpI_zero]at a2;omega
     refine go ?_;obtain⟨vx,c3,fvx⟩:=pxC.args;obtain⟨vy,c5,b3⟩:=e1.args;obtain⟨T,cxx,rfl⟩:=fvx.form;obtain⟨Z,a1,rfl⟩:=b3.form;have c4:wC.cell? ⟨z,M+0*5+4,none⟩=some (.slice T x.args.length cxx):=c3;have cvy':wC.cell? ⟨B,N+0*5+4,none⟩=some (.slice Z y.args.length a1):=c5;by_cases g1:0<x.args.length
     ·refine go ?_;refine AX (rd 0 10 (.alt 10 (.alt 11 (.read 12 .done) .stop) .stop)) An Dv (fun R I ed=>⟨Ext w,?_,?_⟩)
      ·exact F.trans I
      have qp:∀V,Ext w V->V.cell? ⟨z,M+0*5+4,none⟩=some (.slice T x.args.length cxx):=fun V e=>cell_same F e o.1.2 c4;have qq:∀V,Ext w V->V.cell? ⟨B,N+0*5+4,none⟩=some (.slice Z y.args.length a1):=fun V e=>cell_same F e C.1.2 cvy';((apply D_R rfl rfl;(intro W d;refine Av rfl ?_;exact AA ⟨rfl,rfl,rfl⟩))<;>(apply D_R rfl rfl;(intro W d;refine Af rfl ?_;exact AA ⟨rfl,rfl,rfl⟩))<;>(apply D_R rfl rfl;(intro W d;refine AM rfl ?_;exact AA ⟨rfl,rfl,rfl⟩))<;>(apply D_R rfl rfl;(intro W d;refine AD rfl ?_;exact AA ⟨rfl,rfl,rfl⟩))<;>(apply D_R rfl rfl;(intro W d;refine AL rfl (qp W d) ?_;exact AA ⟨rfl,rfl,rfl⟩))<;>(apply D_R rfl rfl;(intro W d;refine Af rfl ?_;exact AA ⟨rfl,rfl,rfl⟩))<;>(apply D_R rfl rfl;(intro W d;refine AM rfl ?_;exact AA ⟨rfl,rfl,rfl⟩))<;>(apply D_R rfl rfl;(intro W d;refine AD rfl ?_;exact AA ⟨rfl,rfl,rfl⟩))<;>(apply D_R rfl rfl;(intro W d;refine AL rfl (qq W d) ?_;exact AA ⟨rfl,rfl,rfl⟩))<;>(apply D_R rfl rfl;(intro W d;refine Bv Dx Dx ?_;exact AA ⟨rfl,rfl,rfl⟩)))
      refine D_E rfl ?_;refine AP (out:=[.slice T x.args.length cxx,.slice Z y.args.length a1]) rfl U Dv (fun wE nE=>?_);have a3:=I.trans nE.E;have a7:=F.trans a3;have hE:=hC.ext a3;refine AA ⟨Ext w,fun _ e=>e,a7,?_⟩;have d5:(q++[(l,m)]).length=q.length+1:=by simp
      refine D_E rfl ?_
      refine W_append1 (size:=2) (n:=q.length+1) (cap:=D) (g:=t) (sv:=.slice (sm R.heap.size) 1 1) (ok:=AV) (cs:=[.slice T x.args.length cxx,.slice Z y.args.length a1]) rfl rfl hE.D (by rw[List.size_toArray];exact hE.len) U hE.mx
       ⟨_,_,rfl,by omega,by omega,(fun h=>by cases h),.inr ⟨_,_,rfl,trivial,nE.D.cells⟩⟩ D7 rfl rfl EW U U (fun g2 cap2 e2 g0 wF d2 d1 d6 g4 d4 d7 kF=>?_)
      have hF:=hE.push a7.size d2 d1 d6 d4 (by rw[d5];simpa using d7) kF (fvx.E (a3.any.trans kF O) fun b S j=>A b (.inl S) j) (b3.E (a3.any.trans kF O) fun b S j=>A b (.inr S) j) d3;have b8:=a7.E kF (by simp;exact f1);refine AA ⟨Ext w,fun _ e=>e,b8,?_⟩;refine go ?_;refine⟨(g2,cap2,q++[(l,m)]++[(x.args,y.args)]),⟨rfl,⟨congrArg (fun n=>Value.slice (sm g2) n cap2) O,trivial⟩,⟨⟨_,_,_,hF⟩,b8,?_,by simp only;rw[BD,BD];simp only;omega⟩⟩,by simp only;rw[BD,BD,BD];simp only[szL];omega⟩;simp only;rw[Cu,Cu,P,cmpL,K,Ds]
     ·refine go ?_;have ex:x.args=[]:=List.length_eq_zero_iff.1 U;have ez:BY x y=0:=by rw[K,ex];cases y.args<;>rfl
      refine⟨(t,D,q++[(l,m)]),⟨rfl,⟨congrArg (fun n=>Value.slice (sm t) n D) O,trivial⟩,⟨⟨_,_,_,hC⟩,F,?_,by simp only;rw[BD];simp only;omega⟩⟩,by simp only;rw[BD,BD];simp only[szL];omega⟩;simp only;rw[Cu,P,cmpL_cons0 ez]
def Di(l:List Sgn)(s:LU):Int:=match l.findIdx? (fun x=>decide (x.name=s))with
 |some i=>(i:Int)
 |none=> -1
theorem sigFind_ok(w:World)(v:Value)(l:List Sgn)(s:LU)(h:SlAt sgnR AV w v l):Fn Zp 141 [v,AK s] w fun v w'=>v=iV (Di l s)/\w'=w:=by
 obtain⟨a,c,L,rfl,r,n⟩:=h;have G:l.length<=9223372036854775807:=by obtain⟨_,_,q,D,E,_⟩:=id r;cases q;omega
 refine AG Tryz.func141 rfl Tryz.ntmps141 (go ?_);refine Ah (α:=Nat) (fun k=>[(0,.slice a l.length c),(1,AK s),(7,iV (l.length:Int)),(8,iV (k:Int))]) (fun k W=>k<=l.length/\W=w/\∀j y,j<k->l[j]?=some y->y.name≠s) (fun k=>l.length-k) 0 ⟨rfl,rfl,rfl,rfl,trivial⟩ ⟨by omega,rfl,fun j y g=>by omega⟩ ?_;rintro k A C⟨P,rfl,g⟩;repeat refine nx rfl ?_
 by_cases B:k<l.length
 ·obtain⟨y,F⟩:∃y,l[k]?=some y:=⟨_,List.getElem?_eq_getElem B⟩;obtain⟨f,N⟩:∃f,L[k]?=some f:=⟨_,List.getElem?_eq_getElem (by rw[n.1];exact B)⟩;obtain rfl:f=sgnC y:=n.2 k f y N F;obtain⟨b,o,rfl,_,e⟩:=r.recs n (sz:=3) rfl N B;have d:A.cell? ⟨b,o+k*3+0,none⟩=some (AK y.name):=e 0 _ rfl;(refine AJ ?_<;>(refine Dh rfl rfl (fun V=>?_) (fun V=>?_)<;>try omega))
  repeat refine nx rfl ?_
  refine AJ (AY rfl (AO (AY rfl ?_)));repeat refine nx rfl ?_
  refine AJ (Av rfl (AY rfl ?_));refine Cd (k:=k) rfl rfl rfl B ?_;by_cases m:y.name=s
  ·(refine AD rfl (AL rfl Dz ?_)<;>refine Cb rfl ?_<;>refine Bn rfl rfl (fun V=>?_) (fun V=>?_)<;>refine AA ?_)
   case refine_2=>exact absurd m Dz
   repeat refine nx rfl ?_
   refine AJ (AY rfl (AO (AY rfl ?_)));repeat refine nx rfl ?_
   refine AB rfl ⟨?_,rfl⟩
   have:l.findIdx? (fun x=>decide (x.name=s))=some k:=by
    rw[List.findIdx?_eq_some_iff_getElem];obtain⟨X,u⟩:=List.getElem?_eq_some_iff.1 F;refine⟨B,by simp[u,m],fun j t=>?_⟩;have:=g j l[j] t (List.getElem?_eq_getElem U);simpa using this
   unfold Di;rw[this];rfl
  ·(refine AD rfl (AL rfl Dz ?_)<;>refine Cb rfl ?_<;>refine Bn rfl rfl (fun V=>?_) (fun V=>?_)<;>refine AA ?_)
   case refine_1=>exact absurd Dz m
   refine go ?_;refine⟨k+1,⟨rfl,⟨rfl,rfl,rfl,?_,trivial⟩,⟨by omega,rfl,fun j z t p=>?_⟩⟩,by omega⟩
   ·show iV ((k:Int)+1)=_;rw[Int.natCast_add];rfl
   ·rcases Nat.lt_or_ge j k with h|h
    ·exact g j z h p
    ·obtain rfl:j=k:=by omega
     rw[F]at p;cases p;exact m
 ·obtain rfl:k=l.length:=by omega
  refine go ?_;refine AB rfl ⟨?_,rfl⟩
  have:l.findIdx? (fun x=>decide (x.name=s))=none:=by
   rw[List.findIdx?_eq_none_iff];intro x T;obtain⟨i,H⟩:=List.getElem?_of_mem T;simpa using g i x (List.getElem?_eq_some_iff.1 H).1 H
  unfold Di;rw[this];rfl
end
end Go.Proofs.YtohodbnnhlddpaaGreatDoor
