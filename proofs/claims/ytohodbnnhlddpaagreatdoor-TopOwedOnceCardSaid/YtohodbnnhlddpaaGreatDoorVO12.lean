/- TopOwedOnce, part 12 of 14: rules, lemmas, walks. Conditions: none. -/
import Derived.Test.YtohodbnnhlddpaaGreatDoorVO11
namespace Go.Proofs.YtohodbnnhlddpaaGreatDoor
open Go.RowKit
set_option linter.unusedVariables false
section
variable (w:World)(c1 c3 t:Nat)(S:List Sgn)(xs:List Int)(m p B:Nat)(pv vv:Value)
theorem gluntil_ok(P Q:Nat->Prop)(h:LwG w c1 c3 t S xs m p B)(a:Per B p P)(M:Per B p Q)(q:TrusG w vv (B+p) [fun t=>tv (P t),fun t=>tv (Q t)]):Fn Zp 221 [pv,vv,pt c1] w fun u w'=>Tru w' u (B+p) (fun t=>tv (CX P Q t))/\Ext w w':=by
 obtain⟨g,C,d,c,b⟩:=q;have d:vv=.slice (sm g) 2 2:=d;subst d;obtain⟨A,z,j⟩:=b 0 _ rfl;obtain⟨y,i,x⟩:=b 1 _ rfl;have k:=c.cell (o:=0+0) (by exact z);have v:=c.cell (o:=0+1) (by exact i);have f:=h.b1;refine AG Tryz.func221 rfl Tryz.ntmps221 (go ?_);refine AX (rd 0 7 (.alt 7 (.read 8 .done) .stop)) An Dv (fun H I G=>⟨Ext H,?_,?_⟩)
 ·exact Ew
 have s:=I.cell k O;have R:=I.cell v O;have r:=f.E I O;refine go ?_;refine D_E rfl ?_;refine AE (guntil_ok H t S xs m p B A y P Q (h.ax.ext I) a M (j.ext I) (x.ext I)) rfl ?_;exact Em
theorem glrel_ok(P Q:Nat->Prop)(h:LwG w c1 c3 t S xs m p B)(a:Per B p P)(M:Per B p Q)(q:TrusG w vv (B+p) [fun t=>tv (P t),fun t=>tv (Q t)]):Fn Zp 223 [pv,vv,pt c1] w fun u w'=>Tru w' u (B+p) (fun t=>tv (relS P Q t))/\Ext w w':=by
 obtain⟨g,C,d,c,b⟩:=q;have d:vv=.slice (sm g) 2 2:=d;subst d;obtain⟨A,z,j⟩:=b 0 _ rfl;obtain⟨y,i,x⟩:=b 1 _ rfl;have k:=c.cell (o:=0+0) (by exact z);have v:=c.cell (o:=0+1) (by exact i);have f:=h.b1;refine AG Tryz.func223 rfl Tryz.ntmps223 (go ?_);refine AX (rd 0 7 (.alt 7 (.read 8 .done) .stop)) An Dv (fun H I G=>⟨Ext H,?_,?_⟩)
 ·exact Ew
 have s:=I.cell k O;have R:=I.cell v O;have r:=f.E I O;refine go ?_;refine D_E rfl ?_;refine AE (grelease_ok H t S xs m p B A y P Q (h.ax.ext I) a M (j.ext I) (x.ext I)) rfl ?_;exact Em
theorem glsince_ok(b o:Nat)(T:Int)(P Q:Nat->Prop)(h:LwG w c1 c3 t S xs m p B)(q:TrusG w vv (B+p) [fun t=>tv (P t),fun t=>tv (Q t)])(q2:w.cell? ⟨b,o+2,none⟩=some (iV T)):Fn Zp 234 [.pointer (some ⟨b,o,none⟩),vv,pt c1] w fun u w'=>Tru w' u (B+p) (fun t=>tv (BP T P Q t))/\Ext w w':=by
 obtain⟨g,C,d,c,a⟩:=q;have d:vv=.slice (sm g) 2 2:=d;subst d;obtain⟨A,z,M⟩:=a 0 _ rfl;obtain⟨y,i,x⟩:=a 1 _ rfl;have j:=c.cell (o:=0+0) (by exact z);have v:=c.cell (o:=0+1) (by exact i);have f:=h.b1;refine AG Tryz.func234 rfl Tryz.ntmps234 (go ?_);refine AX (rd 0 12 (.alt 12 (.read 13 .done) .stop)) An Dv (fun H I G=>⟨Ext H,?_,?_⟩)
 ·exact Ew
 have r:=I.cell j O;have R:=I.cell v O;have s:=I.cell q2 O;have k:=f.E I O;have K:=gsince_ok H t S xs m p B A y P Q T (h.ax.ext I) (M.ext I) (x.ext I);by_cases q:T=1
 ·rw[decide_eq_true q]at K;refine go ?_;refine D_E rfl ?_;refine AE K rfl ?_;exact Em
 ·rw[decide_eq_false q]at K;refine go ?_;refine D_E rfl ?_;refine AE K rfl ?_;exact Em
theorem gltrig_ok(b o:Nat)(T:Int)(P Q:Nat->Prop)(h:LwG w c1 c3 t S xs m p B)(q:TrusG w vv (B+p) [fun t=>tv (P t),fun t=>tv (Q t)])(q2:w.cell? ⟨b,o+2,none⟩=some (iV T)):Fn Zp 236 [.pointer (some ⟨b,o,none⟩),vv,pt c1] w fun u w'=>Tru w' u (B+p) (fun t=>tv (DR T P Q t))/\Ext w w':=by
 obtain⟨g,C,d,c,a⟩:=q;have d:vv=.slice (sm g) 2 2:=d;subst d;obtain⟨A,z,M⟩:=a 0 _ rfl;obtain⟨y,i,x⟩:=a 1 _ rfl;have j:=c.cell (o:=0+0) (by exact z);have v:=c.cell (o:=0+1) (by exact i);have f:=h.b1;refine AG Tryz.func236 rfl Tryz.ntmps236 (go ?_);refine AX (rd 0 12 (.alt 12 (.read 13 .done) .stop)) An Dv (fun H I G=>⟨Ext H,?_,?_⟩)
 ·exact Ew
 have r:=I.cell j O;have R:=I.cell v O;have s:=I.cell q2 O;have k:=f.E I O;have K:=gtrigger_ok H t S xs m p B A y P Q T (h.ax.ext I) (M.ext I) (x.ext I);by_cases q:T=1
 ·rw[decide_eq_true q]at K;refine go ?_;refine D_E rfl ?_;refine AE K rfl ?_;exact Em
 ·rw[decide_eq_false q]at K;refine go ?_;refine D_E rfl ?_;refine AE K rfl ?_;exact Em
theorem gyest1_ok(k c Q b o:Nat)(T:Int)(n:Nat)(ps:List (Nat->Bool))(P:Nat->Prop)(f:k<n)(G:n<=1000000)(h:Blk w Q 96 [.pointer (some ⟨b,o,none⟩)])(e:Blk w c 228 [vv])(q:TrusG w vv n ps)(a:ps[0]?=some fun t=>tv (P t))(q2:w.cell? ⟨b,o+2,none⟩=some (iV T)):Fn Zp 233 [iV (k:Int),pt Q,pt c] w fun u w'=>u=.bool (tv (yestS T P k))/\w'=w:=by
 obtain⟨g,rfl,V⟩:=q.at;obtain⟨u,d,A⟩:=V 0 _ a;have s:=(List.getElem?_eq_some_iff.1 a).1;refine AG Tryz.func233 rfl Tryz.ntmps233 (go ?_);cases k with
 |zero=>
  refine go ?_;by_cases q:T=1
  ·refine go ?_;exact AB rfl ⟨congrArg Value.bool (tv_eq (by simp[yestS,q])),rfl⟩
  ·refine go ?_;exact AB rfl ⟨congrArg Value.bool (tv_eq (by simp[yestS,q])),rfl⟩
 |succ k=>
  have E:=A k U;have I:((k+1:Nat):Int)-1=(k:Int):=by omega
  exact El
theorem glyest_ok(b o:Nat)(T:Int)(ps:List (Nat->Bool))(P:Nat->Prop)(a:ps[0]?=some fun t=>tv (P t))(h:LwG w c1 c3 t S xs m p B)(q:TrusG w vv (B+p) ps)(q2:w.cell? ⟨b,o+2,none⟩=some (iV T)):Fn Zp 232 [.pointer (some ⟨b,o,none⟩),vv,pt c1] w fun u w'=>Tru w' u (B+p) (fun t=>tv (yestS T P t))/\Ext w w':=by
 obtain⟨j,v,D,d⟩:=h.ax.len;obtain⟨g,rfl,_⟩:=id q.at;refine AG Tryz.func232 rfl Tryz.ntmps232 (go ?_);refine Ai (L:=[.pointer (some ⟨b,o,none⟩)]) rfl (fun R E=>go ?_);refine Ai (L:=[.slice (sm g) ps.length ps.length]) rfl (fun f N=>?_);have l:=E.E.trans N.E;have X:=h.ext l;have i:=X.b1;have Q:=E.D.E N.E O;refine go ?_;refine AE (DN f t S xs m p B 233 [] [pt w.heap.size,pt R.heap.size] (fun t=>tv (yestS T P t)) [] (fun _ _=>True) X.ax O trivial (fun _ _ _=>trivial) (fun k W c V _=>?_)) rfl ?_
 ·exact(gyest1_ok W _ k R.heap.size w.heap.size b o T (B+p) ps P c d (Q.E V O) (N.D.E V O) ((q.ext l).ext V) a (V.cell (l.cell q2 O) O)).mono fun u w' n=>⟨n.1,n.2▸Ext.refl _,trivial⟩
 rintro u r⟨n,e,_⟩;refine go ?_;exact AB rfl ⟨n,l.trans e⟩
theorem glis1_ok(a Q b o i k:Nat)(x T:Int)(f:k<B+p)(d:xs[lixN m p k]?=some x)(c:i<S.length)(X:Blk w c1 139 [pt t])(y:Blk w a 3 [iV (i:Int)])(h:Blk w Q 96 [.pointer (some ⟨b,o,none⟩)])(E:AxG w t S xs m p B)(q2:w.cell? ⟨b,o+2,none⟩=some (iV T)):
  Fn Zp 208 [iV (k:Int),pt c1,pt a,pt Q] w fun u w'=>u=.bool (tv (valS S x i=T))/\Ext w w':=by
 refine AG Tryz.func208 rfl Tryz.ntmps208 (go ?_);refine AX (rd 0 3 (rd 4 4 (.alt 3 (.read 8 (.read 9 .done)) .stop))) An Dv (fun H I G=>⟨Ext H,?_,?_⟩)
 ·exact Ew
 have v:=X.E I O;have P:=y.E I O;have N:=h.E I O;have g:=I.cell q2 O;refine go ?_;refine D_E rfl ?_;refine AE (gvalue_ok H t S xs m p B k i x (E.ext I) U d c) rfl ?_;rintro _ L⟨rfl,l⟩;refine AA ⟨Ext H,fun _ e=>e,l,?_⟩;by_cases q:valS S x i=T
 ·refine go ?_;exact AB rfl ⟨congrArg Value.bool (tv_eq (by simp[q])),I.trans l⟩
 ·refine go ?_;exact AB rfl ⟨congrArg Value.bool (tv_eq (by simp[q])),I.trans l⟩
theorem glis_ok(b o:Nat)(nm:LU)(T:Int)(h:LwG w c1 c3 t S xs m p B)(P:knS S nm T=true)(q1:w.cell? ⟨b,o+1,none⟩=some (AK nm))(q2:w.cell? ⟨b,o+2,none⟩=some (iV T)):
  Fn Zp 207 [.pointer (some ⟨b,o,none⟩),vv,pt c1] w fun u w'=>Tru w' u (B+p) (fun k=>tv (wdG S xs m p k nm=T))/\Ext w w':=by
 obtain⟨K,M,a4,a5⟩:=h.ax.len;obtain⟨i,s,G,R,a6⟩:=kn_find P;have D:=(List.getElem?_eq_some_iff.1 R).1;have F:Di S nm=(i:Int):=by unfold Di;rw[G]
 have N:∀x,vlS S x nm=valS S x i:=fun x=>by unfold vlS;rw[G]
 refine AG Tryz.func207 rfl Tryz.ntmps207 (go ?_);refine Ai (L:=[.pointer (some ⟨b,o,none⟩)]) rfl (fun w1 E=>?_);have X:=h.ext E.E;have r:=E.D;have a0:=E.E.cell q1 O;have Q:=E.E.cell q2 O;obtain⟨_,sa,sc,lb,lo,lc,c,j,_⟩:=id X.ax;refine go ?_;refine AX (rd 0 8 (.alt 8 (.alt 9 (.alt 10 .done .stop) .stop) (.alt 9 (.alt 8 (.alt 10 .done .stop) .stop) .stop))) An Dv (fun H I ed=>⟨Ext H,?_,?_⟩)
 ·exact Ew
 have a1:=X.b1.E I O;have a3:=c.E I O;have a2:=r.E I O;have a7:=I.cell a0 O;refine go ?_;refine D_A rfl ?_ (D_E rfl ?_)
 ·refine AE (sigFind_ok H _ S nm (j.ext I)) rfl ?_;rintro _ H⟨rfl,rfl⟩;rw[F];refine AA ⟨Ext H,fun _ e=>e,Ext.refl _,?_⟩;refine D_E rfl ?_;refine AS (fun C Z=>?_);refine AA ⟨Ext H,fun _ e=>e,Z.E,?_⟩;exact Ed
 ·refine AS (fun C Z=>?_);refine AA ⟨Ext H,fun _ e=>e,Z.E,?_⟩;refine D_E rfl ?_;refine AE (sigFind_ok C _ S nm (j.ext (I.trans Z.E))) rfl ?_;rintro _ C⟨rfl,rfl⟩;rw[F];refine AA ⟨Ext H,fun _ e=>e,Z.E,?_⟩;exact Ed
end
set_option maxHeartbeats 4000000 in
theorem glaws_ok(w:World)(t:Nat)(S:List Sgn)(xs:List Int)(m p B:Nat)(h:AxG w t S xs m p B):Fn Zp 175 [pt t] w fun u w'=>∃r Q b,u=.map (some r)/\Ext w w'/\LwG w' Q b t S xs m p B/\VMap w' r (lawT Q b):=by
 refine AG Tryz.func175 rfl Tryz.ntmps175 (go ?_);refine Ai (L:=[pt t]) rfl (fun M E=>go ?_);refine AS (fun w2 N=>?_);refine AR (v:=.func (.func 202) #[] #[pt w.heap.size]) rfl rfl rfl N.D O (fun P K=>?_);have z1:=E.size;have z2:=N.size;have z3:=K.size;have g:Ext M P:=N.E.E K.E O;have A:LwG P w.heap.size M.heap.size t S xs m p B:=⟨E.D.E g O,K.D,h.ext (E.E.trans g)⟩;have e3:Ext w P:=E.E.trans g;obtain⟨b,f0⟩:∃b,b=M.heap.size:=⟨_,rfl⟩;rw[<-f0]at A⊢;clear N K g;refine go ?_;refine W_makeMapV (fun f3 c9 e8 b0=>go ?_);refine Ay rfl rfl rfl b0 rfl (fun f4 F c b1=>?_);have d0:=(c9).E F O;replace c:=c.trans e8;clear b0 c9 e8 F;refine go ?_;refine Ay rfl rfl rfl b1 rfl (fun g5 a2 z c1=>?_);have e0:=(d0).E a2 O;replace z:=z.trans c;clear b1 d0 c a2;refine go ?_;refine Ay rfl rfl rfl c1 rfl (fun g6 a3 l c2=>?_);have e1:=(e0).E a3 O;replace l:=l.trans z;clear c1 e0 z a3;refine go ?_;refine Ay rfl rfl rfl c2 rfl (fun g7 a4 q c3=>?_);have e2:=(e1).E a4 O;replace q:=q.trans l;clear c2 e1 l a4;refine go ?_;refine Ay rfl rfl rfl c3 rfl (fun g8 a5 k c4=>?_);have yx5:=(e2).E a5 O;replace k:=k.trans q;clear c3 e2 q a5;refine go ?_;refine Ay rfl rfl rfl c4 rfl (fun g9 a6 f c5=>?_);have e4:=(yx5).E a6 O;replace f:=f.trans k;clear c4 yx5 k a6;refine go ?_;refine Ay rfl rfl rfl c5 rfl (fun h0 a7 a c6=>?_);have e5:=(e4).E a7 O;replace a:=a.trans f;clear c5 e4 f a7;refine go ?_;refine Ay rfl rfl rfl c6 rfl (fun h1 a8 T c7=>?_);have e6:=(e5).E a8 O;replace T:=T.trans a;clear c6 e5 a a8;refine go ?_;refine Ay rfl rfl rfl c7 rfl (fun h2 a9 G c8=>?_);have e7:=(e6).E a9 O;replace G:=G.trans T;clear c7 e6 T a9;refine go ?_;refine Ay rfl rfl rfl c8 rfl (fun f5 I H b2=>?_);have d1:=(e7).E I O;replace H:=H.trans G;clear c8 e7 G I;refine go ?_;refine Ay rfl rfl rfl b2 rfl (fun f6 D C b3=>?_);have d2:=(d1).E D O;replace C:=C.trans H;clear b2 d1 H D;refine go ?_;refine Ay rfl rfl rfl b3 rfl (fun f7 y x b4=>?_);have d3:=(d2).E y O;replace x:=x.trans C;clear b3 d2 C y;refine go ?_;refine Ay rfl rfl rfl b4 rfl (fun f8 W s b5=>?_);have d4:=(d3).E W O;replace s:=s.trans x;clear b4 d3 x W;refine go ?_;refine Ay rfl rfl rfl b5 rfl (fun f9 o n b6=>?_);have d5:=(d4).E o O;replace n:=n.trans s;clear b5 d4 s o;refine go ?_;refine Ay rfl rfl rfl b6 rfl (fun g0 j i b7=>?_);have d6:=(d5).E j O;replace i:=i.trans n;clear b6 d5 n j;refine go ?_;refine Ay rfl rfl rfl b7 rfl (fun g1 e d b8=>?_);have d7:=(d6).E e O;replace d:=d.trans i;clear b7 d6 i e;refine go ?_;refine Ay rfl rfl rfl b8 rfl (fun g2 Z X b9=>?_);have d8:=(d7).E Z O;replace X:=X.trans d;clear b8 d7 d Z;refine go ?_;refine Ay rfl rfl rfl b9 rfl (fun g3 a0 R c0=>?_);have d9:=(d8).E a0 O;replace R:=R.trans X;clear b9 d8 X a0;refine go ?_;refine Ay rfl rfl rfl c0 rfl (fun g4 a1 e9 f1=>?_);have f2:=(d9).E a1 O;replace e9:=e9.trans R;clear c0 d9 R a1;refine go ?_;have V:=f2;exact AB rfl ⟨_,_,_,rfl,e3.trans V,A.ext V,f1⟩
noncomputable def tvs (ps:List (Nat->Prop)):List (Nat->Bool):=ps.map fun q t=>tv (q t)
theorem glaw_at(w:World)(a d t b o:Nat)(S:List Sgn)(xs:List Int)(m p B:Nat)(f:Int)(nm:LU)(v k:Int)(ps:List (Nat->Prop))(h:LwG w a d t S xs m p B)(s:ps.length<=1000000)(H:∀q∈ps,Per B p q)
  (M:DC f=true)(I:Aq f ps.length=true)(P:f=3->knS S nm v=true)(q1:w.cell? ⟨b,o+1,none⟩=some (AK nm))(q2:w.cell? ⟨b,o+2,none⟩=some (iV v)):
  ∃(F:FuncId)(_:AF Zp F)(j:LV),(lawT a d).lookup f=some (mvT F j)/\∀W N,Ext w W->TrusG W N (B+p) (tvs ps)->Fn Zp F ([.pointer (some ⟨b,o,none⟩),N]++j) W fun u w'=>Tru w' u (B+p) (fun t=>tv (opS (wdG S xs m p) f nm v k ps t))/\Ext W w':=by
 have i:ps.length=1->∃q,ps=[q]:=fun X=>by
  match ps,X with
  | [q],_=>exact⟨q,rfl⟩
 have G:ps.length=2->∃q r,ps=[q,r]:=fun X=>by
  match ps,X with
  | [q,r],_=>exact⟨q,r,rfl⟩
 have g:(tvs ps).length<=1000000:=by rw[tvs,List.length_map];exact s
 rcases Bg M with rfl|rfl|rfl|rfl|rfl|rfl|rfl|rfl|rfl|rfl|rfl|rfl
 ·exact⟨_,inferInstance,[pt d],rfl,fun W N e c=>(gltrue_ok W a d t S xs m p B _ N (h.ext e)).mono fun u w' n=>⟨n.1.congr fun t _=>tv_eq EG,n.2⟩⟩
 ·exact⟨_,inferInstance,[pt d],rfl,fun W N e c=>(glfalse_ok W a d t S xs m p B _ N (h.ext e)).mono fun u w' n=>⟨n.1.congr fun t _=>tv_eq EG,n.2⟩⟩
 ·exact⟨_,inferInstance,[pt a],rfl,fun W N e c=>(glis_ok W a d t S xs m p B N b o nm v (h.ext e) (P rfl) (e.cell q1 O) (e.cell q2 O)).mono fun u w' n=>⟨n.1.congr fun t _=>Co EG,n.2⟩⟩
 ·obtain⟨q,rfl⟩:=i D6;exact⟨_,inferInstance,[pt a],rfl,fun W N e c=>(glnot_ok W a d t S xs m p B _ N _ _ rfl g (h.ext e) c).mono fun u w' n=>⟨n.1.congr fun t _=>by rw[tv_not];exact Co EG,n.2⟩⟩
 ·exact⟨_,inferInstance,[pt a],rfl,fun W N e c=>(gland_ok W a d t S xs m p B _ N _ g (h.ext e) c).mono fun u w' n=>⟨n.1.congr fun t _=>tv_eq (by simp[opS,opP,tvs,tv_iff]),n.2⟩⟩
 ·refine⟨_,inferInstance,[pt a],rfl,fun W N e c=>(glor_ok W a d t S xs m p B _ N _ g (h.ext e) c).mono fun u w' n=>⟨n.1.congr fun t _=>tv_eq ?_,n.2⟩⟩;rw[Bool.not_eq_true',<-Bool.not_eq_true,List.all_eq_true];simp[opS,opP,tvs,tv_iff]
 ·obtain⟨q,rfl⟩:=i D6;refine⟨_,inferInstance,[pt a],rfl,fun W N e c=>(glnext_ok W a d t S xs m p B _ N _ _ rfl g (h.ext e) c).mono fun u w' n=>⟨n.1.congr fun t x=>Co ?_,n.2⟩⟩;have T:=H q O;simp only[opS,opP,plcN];by_cases M:t+1<B+p
  ·rw[if_pos M];simp
  ·have l:t+1=B+p:=by omega
   rw[if_neg M];simp[l,T B (Nat.le_refl _)]
 ·obtain⟨q,r,rfl⟩:=G D6;exact⟨_,inferInstance,[pt a],rfl,fun W N e c=>(gluntil_ok W a d t S xs m p B _ N q r (h.ext e) (H q O) (H r O) c).mono fun u w' n=>⟨n.1.congr fun t _=>Co EG,n.2⟩⟩
 ·obtain⟨q,r,rfl⟩:=G D6;exact⟨_,inferInstance,[pt a],rfl,fun W N e c=>(glrel_ok W a d t S xs m p B _ N q r (h.ext e) (H q O) (H r O) c).mono fun u w' n=>⟨n.1.congr fun t _=>Co EG,n.2⟩⟩
 ·obtain⟨q,rfl⟩:=i D6;exact⟨_,inferInstance,[pt a],rfl,fun W N e c=>(glyest_ok W a d t S xs m p B N b o v _ q rfl (h.ext e) c (e.cell q2 O)).mono fun u w' n=>⟨n.1.congr fun t _=>Co EG,n.2⟩⟩
 ·obtain⟨q,r,rfl⟩:=G D6;exact⟨_,inferInstance,[pt a],rfl,fun W N e c=>(glsince_ok W a d t S xs m p B N b o v q r (h.ext e) c (e.cell q2 O)).mono fun u w' n=>⟨n.1.congr fun t _=>Co EG,n.2⟩⟩
 ·obtain⟨q,r,rfl⟩:=G D6;exact⟨_,inferInstance,[pt a],rfl,fun W N e c=>(gltrig_ok W a d t S xs m p B N b o v q r (h.ext e) c (e.cell q2 O)).mono fun u w' n=>⟨n.1.congr fun t _=>Co EG,n.2⟩⟩
theorem bare_node{i:Bool}{N v b:Int}{nm:LU}{args:LF}(h:BC i (.mk N nm v b args)=true):DC N=true/\Aq N args.length=true/\∀a∈args,∃i,BC i a=true:=by
 rw[bareB_eq]at h;simp only[Bool.and_eq_true]at h;exact⟨h.1.1.1.1,BR h.1.1.1.2,fun a I=>⟨_,Da h.2 I⟩⟩
set_option maxHeartbeats 1000000 in
theorem grow1_ok(Z:World)(c1 c3 L X t mp:Nat)(S:List Sgn)(xs:List Int)(m p B:Nat)(hL:LwG Z c1 c3 t S xs m p B)(hm:VMap Z mp (lawT c1 c3))(h5:Blk Z L 226 [.map (some mp)])(h6:Blk Z X 179 [.func (.func 176) #[] #[pt X,pt L]])(hs:Per m p (wdG S xs m p)):
  ∀(n:Nat)(w:World)(b o:Nat)(f:Fml),dpF f<=n->szF f<=10000->m+DU f*p<=B->Ext Z w->PF AV w b o f->(∃i,BC i f=true)->isB (knS S) f=true->Fn Zp 176 [.pointer (some ⟨b,o,none⟩),pt X,pt L] w fun u w'=>Tru w' u (B+p) (fun t=>tv (sem (wdG S xs m p) f t))/\Ext w w':=by
 intro n
 induction n with
 |zero=>intro w b o f G;rw[BQ]at G;omega
 |succ n ih=>
 intro w b o f G hz b9 d hf A hk;rw[BQ]at G;rw[BJ]at hz;obtain⟨aa,cc,c9,q0,q1,q2,q3,q4,qa⟩:=hf.all;obtain⟨N,nm,v,bd,c⟩:=f;obtain⟨i0,A⟩:=A;obtain⟨b7,a2,a8⟩:=bare_node A;obtain⟨b5,b6⟩:=is_iff.1 hk;have d0:=Bz c;simp only[Fml.op,Fml.name,Fml.val,Fml.args]at*
 obtain⟨c6,hp,c7,c8⟩:=hL.ax.len
 have d2:m+nestL c*p<=B:=by
  rw[DU]at b9;have:nestL c*p<=(nestL c+if N=15\/N=16\/N=17\/N=18\/N=19 then 1 else 0)*p:=Nat.mul_le_mul_right _ U;omega
 rw[sem,Ct];obtain⟨K,a0⟩:∃K,K=c.map (sem (wdG S xs m p)):=⟨_,rfl⟩;have s:K.length=c.length:=by rw[a0,List.length_map]
 have c2:(tvs K).length=c.length:=by rw[tvs,List.length_map,s]
 rw[<-a0];refine AG Tryz.func176 rfl Tryz.ntmps176 (go ?_);refine W_make1 (n:=c.length) rfl rfl rfl rfl rfl U U (fun w1 E=>?_);have z1:=E.size;have d5:=E.E.cell q4 O;refine go ?_;have d1:=hf.lt;obtain⟨g,hg⟩:∃g,g=w.heap.size:=⟨_,rfl⟩;have bg:=E.D;rw[<-hg]at bg⊢
 refine Ah (α:=Nat×LV) (fun|(k,_)=>[(0,.pointer (some ⟨b,o,none⟩)),(1,pt X),(2,pt L),(5,.slice (some ⟨g,0,none⟩) c.length c.length),(17,.int .i64 (c.length:Int)),(18,.int .i64 (k:Int))])
  (fun|(k,R),W=>k<=c.length/\Ext w W/\R.length=k/\Blk W g 140 (R++List.replicate (c.length-k) (.slice none 0 0))/\∀(j:Nat)(q:Nat->Prop),j<k->K[j]?=some q->∃u,R[j]?=some u/\Tru W u (B+p) (fun t=>tv (q t))/\u.ownBlock≠some g) (fun|(k,_)=>c.length-k) (0,[]) ag ⟨by omega,E.E,rfl,bg,fun j q hj=>by omega⟩ ?_
 rintro⟨k,R⟩W fr⟨c5,l,D,bW,hW⟩;have q4W:=l.cell q4 O;refine go ?_;by_cases a4:k<c.length
 ·obtain⟨y,hy⟩:=gl a4;have C:=List.mem_of_getElem? hy;have c4:=Bi C;have d4:=BO C;have d3:=Nat.mul_le_mul_right p (nestL_mem C);obtain⟨b',o',rfl,b0⟩:=qa k y hy;have hgb:b≠g:=by have:=World.block_lt_of_cell? w _ q4;simp only at this;omega
  have hg6:X≠g:=by have:=h6.lt;have:=d.size;omega
  refine go ?_;refine AX (rd 0 9 (.alt 9 (.read 10 (.alt 11 .done .stop)) .stop)) An Dv (fun H I ed=>⟨Keep [g] H,?_,?_⟩)
  ·exact FK
  have s1:∀V,Keep [g] H V->V.cell? ⟨X,0,none⟩=some (.func (.func 176) #[] #[pt X,pt L]):=fun V e=>((h6.E ((d.trans l).trans I) O).E e (by simp[hg6])).cell rfl;have s2:∀V,Keep [g] H V->V.cell? ⟨b,o+4,none⟩=some (.slice (some ⟨b',o',none⟩) c.length cc):=fun V e=>e.cell (I.cell q4W O) (by simp[hgb]);refine go ?_;refine D_E rfl ?_;refine Az (v1:=[]) (v2:=[pt X,pt L]) (vs:=[.pointer (some ⟨b',o'+k*5,none⟩)]) rfl (ih H b' (o'+k*5) y U U U ((d.trans l).trans I) (b0.E (l.trans I) (fun _ _=>by simp)) (a8 y C) (b6 y C)) rfl ?_;rintro u W1⟨M,k1⟩;obtain⟨z,rfl,bu⟩:=M;refine AA ⟨Keep [g] H,fun _ e=>e,k1.any,?_⟩;refine go ?_;refine D_E rfl ?_;have a1:=I.trans k1;have b1:=bW.E a1 O;have a3:z≠g:=fun e=>by subst e;have:=b1.symm.trans bu;simp at this
  refine AR (v:=.slice (sm z) (B+p) (B+p)) rfl rfl rfl b1 Dw (fun W2 Q=>?_);refine AA ⟨Keep [g] H,fun _ e=>e,k1.any.trans Q.E (fun x h _=>h),?_⟩;refine go ?_;have b2:=Q.D;rw[Nat.zero_add,set_fill _ _ _ _ _ D a4]at b2;have hrk:K[k]?=some (sem (wdG S xs m p) y):=by rw[a0,List.getElem?_map,hy];rfl
  refine⟨(k+1,R++[.slice (sm z) (B+p) (B+p)]),⟨rfl,ag,⟨by omega,(l.trans a1).E Q.E Dw,by simp[D],b2,fun j r hj P=>?_⟩⟩,by simp only;omega⟩;by_cases b4:j<k
  ·obtain⟨u,M,⟨gj,rfl,bj⟩,a5⟩:=hW j r b4 P;have b3:gj≠g:=fun e=>a5 (congrArg some e);exact⟨_,by rw[List.getElem?_append_left U];exact M,⟨gj,rfl,(bj.E a1 O).E Q.E (by simp[b3])⟩,a5⟩
  ·obtain rfl:j=k:=by omega
   rw[hrk]at P;cases P;exact⟨_,by rw[List.getElem?_append_right U,D];simp,⟨z,rfl,bu.E Q.E (by simp[a3])⟩,fun e=>a3 (Option.some.inj e)⟩
 ·obtain rfl:k=c.length:=by omega
  rw[Nat.sub_self,List.replicate_zero,List.append_nil]at bW
  have hT:TrusG W (.slice (sm g) c.length c.length) (B+p) (tvs K):=⟨g,R,by rw[c2],bW,fun j r P=>by
   rw[tvs,List.getElem?_map]at P;obtain⟨q,T,rfl⟩:=Option.map_eq_some_iff.1 P;obtain⟨u,M,ht,_⟩:=hW j q (by rw[<-s];exact(List.getElem?_eq_some_iff.1 T).1) T;exact⟨u,M,ht⟩⟩
  have a7:=hL.ext (d.trans l);rw[<-s]at a2
  have c0:∀q∈K,Per B p q:=fun q T=>by
   rw[a0]at T;obtain⟨a,ha,rfl⟩:=List.mem_map.1 T;refine(sem_per hp hs a).mono ?_;have:=Nat.mul_le_mul_right p (nestL_mem ha);omega
  obtain⟨F,hF,a6,b8,a9⟩:=glaw_at W c1 c3 t b o S xs m p B N nm v bd K a7 U c0 b7 a2 b5 (l.cell q1 O) (l.cell q2 O);refine go ?_;refine AX (rd 0 8 (.alt 8 (.read 9 .done) .stop)) An Dv (fun H I ed=>⟨Ext H,?_,?_⟩)
  ·exact Ew
  have e1:=d.trans l;have s1:∀V,Ext H V->V.cell? ⟨L,0,none⟩=some (.map (some mp)):=fun V e=>(h5.E (e1.trans (I.trans e)) O).cell rfl;have s2:∀V,Ext H V->V.cell? ⟨b,o+0,none⟩=some (iV N):=fun V e=>(l.trans (I.trans e)).cell q0 O;refine go ?_;refine D_R rfl rfl (fun V hV=>by refine W_lookupV rfl rfl (hm.E (e1.trans (I.trans hV)) O) b8 ?_;exact AA ⟨rfl,rfl,rfl⟩) ?_;refine go ?_;refine D_E rfl ?_;refine Az (v1:=[]) (v2:=a6) (vs:=[.pointer (some ⟨b,o,none⟩),.slice (sm g) c.length c.length]) rfl (a9 H _ I (hT.ext I)) rfl ?_;rintro u w4⟨M,k4⟩;refine AA ⟨Ext H,fun _ e=>e,k4,?_⟩;refine go ?_;exact AB rfl ⟨M,(l.trans I).trans k4⟩
theorem lix_per(m p:Nat):Per m p (lixN m p):=fun t P=>by
 unfold lixN;by_cases v:p=0
 ·subst v;rfl
 ·rw[if_neg U];by_cases h:t<m+p
  ·rw[if_pos h,show t+p-m=t-m+p by omega,Nat.add_mod_right,Nat.mod_eq_of_lt U];omega
  ·rw[if_neg h,show t+p-m=t-m+p by omega,Nat.add_mod_right]
theorem wdG_per(S:List Sgn)(xs:List Int)(m p:Nat):Per m p (wdG S xs m p):=fun t P=>by
 funext nm
 unfold wdG;rw[lix_per m p t P]
theorem grow_ok(w:World)(t:Nat)(S:List Sgn)(xs:List Int)(m p B:Nat)(b o:Nat)(f:Fml)(k:AxG w t S xs m p B)(D:szF f<=10000)(C:m+DU f*p<=B)(z:PF AV w b o f)(x:∃i,BC i f=true)(P:isB (knS S) f=true):Fn Zp 122 [pt t,.pointer (some ⟨b,o,none⟩)] w fun u w'=>Tru w' u (B+p) (fun t=>tv (sem (wdG S xs m p) f t))/\Ext w w':=by
 refine AG Tryz.func122 rfl Tryz.ntmps122 (go ?_);refine AE (glaws_ok w t S xs m p B k) rfl ?_;rintro _ R⟨r,h,j,rfl,F,A,y⟩;refine AS (fun L N=>?_);refine AR (v:=.map (some r)) rfl rfl rfl N.D O (fun a K=>?_);have l:Ext R a:=N.E.E K.E O;have M:Blk a R.heap.size 226 [.map (some r)]:=K.D;have V:=l.size;have T:=N.size;have g:=K.size;refine go ?_;refine AS (fun G E=>go ?_);refine AR (v:=.func (.func 176) #[] #[pt a.heap.size,pt R.heap.size]) rfl rfl rfl E.D O (fun W s=>?_);have d:Ext a W:=E.E.E s.E O;have e:=M.E d O;have q:Blk W a.heap.size 179 [.func (.func 176) #[] #[pt a.heap.size,pt R.heap.size]]:=s.D;have c:=l.trans d;have H:=F.trans c;refine go ?_;refine Az (v1:=[]) (v2:=[pt a.heap.size,pt R.heap.size]) (vs:=[.pointer (some ⟨b,o,none⟩)]) rfl (grow1_ok W h j R.heap.size a.heap.size t r S xs m p B (A.ext c) (y.E c O) e q (wdG_per S xs m p) (dpF f) W b o f (Nat.le_refl _) D C (Ext.refl _) (z.E H (fun _ _=>by simp)) x P) rfl ?_;rintro u I⟨n,Q⟩;refine go ?_;exact AB rfl ⟨n,H.trans Q⟩
theorem gtknown_ok(w0:World)(L:Option Addr)(K:Nat)(S:List Sgn)(hS:SlAt sgnR AV w0 (.slice L S.length K) S):∀(n:Nat)(w:World)(b o:Nat)(f:Fml),dpF f<=n->Ext w0 w->PF AV w b o f->Fn Zp 170 [.slice L S.length K,.pointer (some ⟨b,o,none⟩)] w fun u w'=>u=.bool (isB (knS S) f)/\Ext w w':=by
 intro n
 induction n with
 |zero=>intro w b o f G;rw[BQ]at G;omega
 |succ n ih=>
 intro w b o f G d hf;rw[BQ]at G;have Z:=hS.ext d;obtain⟨r,cc,b1,q0,q1,q2,q3,C,qa⟩:=hf.all;obtain⟨N,p,v,bd,m⟩:=f;simp only[Fml.op,Fml.name,Fml.val,Fml.args]at*
 have a1:∀(k:Nat)(a:Fml),m[k]?=some a->∀W,Ext w W->∃h l,r=some ⟨h,l,none⟩/\Fn Zp 170 [.slice L S.length K,.pointer (some ⟨h,l+k*5,none⟩)] W fun u w'=>u=.bool (isB (knS S) a)/\Ext W w':=fun k a A W D=>by
  exact Fk
 rw[isB];refine AG Tryz.func170 rfl Tryz.ntmps170 ?_;repeat refine nx rfl ?_
 refine AJ (AO (AI rfl ?_));repeat refine nx rfl ?_
 (refine AJ (Af rfl (AM rfl (AD rfl ?_)))<;>refine AL rfl Dz ?_)
 refine W_eqlD rfl rfl ?_;refine AA ?_;refine Q_then ?_;refine DF (α:=Unit) (fun _=>[(0,.slice L S.length K),(1,.pointer (some ⟨b,o,none⟩))]) (fun _ W=>Ext w W/\(if N=3 then knS S p v else true)=true) ?_ ?_
 ·by_cases Q:N=3
  ·rw[decide_eq_true Q];refine go ?_;refine AE (sigFind_ok w _ S p Z) rfl ?_;rintro _ w2⟨rfl,rfl⟩;simp only[if_pos Q];unfold Di knS;cases hj:S.findIdx? (fun y=>decide (y.name=p))with
   |none=>
    simp only;refine go ?_;refine AX (rd 0 14 .done) An Dv (fun H I ed=>⟨Ext H,?_,?_⟩)
    ·exact Ew
    refine go ?_;exact AB rfl ⟨rfl,I⟩
   |some j=>
    have a4:j<S.length:=(List.findIdx?_eq_some_iff_getElem.1 hj).1;obtain⟨s,P⟩:∃s,S[j]?=some s:=⟨_,List.getElem?_eq_getElem a4⟩;obtain⟨_,sb,so,rfl,_,a8⟩:=Z.sig P;simp only[P];refine go ?_;refine AX (rd 0 14 .done) An Dv (fun H I ed=>⟨Ext H,?_,?_⟩)
    ·exact Ew
    have g:∀V,Ext H V->V.cell? ⟨b,o+2,none⟩=some (iV v):=fun V e=>(I.trans e).cell q2 O;have T:∀V,Ext H V->V.cell? ⟨sb,so+j*3+2,none⟩=some (iV s.size):=fun V e=>(I.trans e).cell (a8 2 _ rfl) O;by_cases q:v<s.size
    ·((apply D_R rfl rfl;(intro W c;refine AY rfl ?_;exact AA ⟨rfl,rfl,rfl⟩))<;>(refine C8 rfl rfl rfl rfl (fun t=>?_) (fun t=>?_)<;>try omega)<;>(apply D_R rfl rfl;(intro W c;refine AI rfl ?_;exact AA ⟨rfl,rfl,rfl⟩))<;>(apply D_R rfl rfl;(intro W c;(refine AN rfl ?_;refine Af rfl ?_);exact AA ⟨rfl,rfl,rfl⟩))<;>(apply D_R rfl rfl;(intro W c;(refine AN rfl ?_;refine AM rfl ?_);exact AA ⟨rfl,rfl,rfl⟩))<;>(apply D_R rfl rfl;(intro W c;(refine AN rfl ?_;refine AD rfl ?_);exact AA ⟨rfl,rfl,rfl⟩))<;>(apply D_R rfl rfl;(intro W c;(refine AN rfl ?_;refine AL rfl (g W c) ?_);exact AA ⟨rfl,rfl,rfl⟩))<;>(apply D_R rfl rfl;(intro W c;(refine AN rfl ?_;refine Av rfl ?_);exact AA ⟨rfl,rfl,rfl⟩))<;>(apply D_R rfl rfl;(intro W c;(refine AN rfl ?_;refine AY rfl ?_);exact AA ⟨rfl,rfl,rfl⟩))<;>(apply D_R rfl rfl;(intro W c;(refine AN rfl ?_;refine Cd rfl rfl rfl U ?_);exact AA ⟨rfl,rfl,rfl⟩))<;>(apply D_R rfl rfl;(intro W c;(refine AN rfl ?_;refine AD rfl ?_);exact AA ⟨rfl,rfl,rfl⟩))<;>(apply D_R rfl rfl;(intro W c;(refine AN rfl ?_;refine AL rfl (T W c) ?_);exact AA ⟨rfl,rfl,rfl⟩))<;>(refine D_geq rfl rfl rfl rfl (fun t=>?_) (fun t=>?_)<;>try omega)<;>(apply D_R rfl rfl;(intro W c;(refine Al rfl ?_;refine AI rfl ?_);exact AA ⟨rfl,rfl,rfl⟩))<;>refine Bq ?_)
     refine go ?_;exact Ao () ag ⟨I,decide_eq_true q⟩
    ·exact EY
  ·rw[decide_eq_false Q];refine go ?_;exact Ao () ag ⟨Ext.refl _,by rw[if_neg Q]⟩
 rintro _ w5 f5⟨X,a7⟩;rw[a7,Bool.true_and,isL_all];have a9:=X.cell C O;clear C;have C:=a9;have a0:∀(k:Nat)(a:Fml),m[k]?=some a->∀W,Ext w5 W->∃h l,r=some ⟨h,l,none⟩/\Fn Zp 170 [.slice L S.length K,.pointer (some ⟨h,l+k*5,none⟩)] W fun u w'=>u=.bool (isB (knS S) a)/\Ext W w':=fun k a A W D=>a1 k a A W (X.trans D);refine go ?_;refine Ah (α:=Nat) (fun k=>[(0,.slice L S.length K),(1,.pointer (some ⟨b,o,none⟩)),(36,iV (m.length:Int)),(37,iV (k:Int))]) (fun k W=>k<=m.length/\Ext w5 W/\∀(i:Nat)(y:Fml),i<k->m[i]?=some y->isB (knS S) y=true) (fun k=>m.length-k) 0 (by repeat (first|exact trivial|refine⟨rfl,?_⟩)) ⟨by omega,Ext.refl _,fun i y M=>by omega⟩ ?_;rintro k W fr⟨b0,B,E⟩;have b2:=B.cell C O;refine go ?_;by_cases a5:k<m.length
 ·refine go ?_;obtain⟨y,F⟩:∃y,m[k]?=some y:=⟨_,List.getElem?_eq_getElem a5⟩;obtain⟨h,l,rfl,a2⟩:=a0 k y F W B;refine go ?_;refine AE a2 rfl ?_;rintro _ w4⟨rfl,k4⟩;have R:=B.trans k4;cases q:isB (knS S) y with
  |true=>
   refine go ?_;refine⟨k+1,⟨rfl,⟨(by repeat (first|exact trivial|refine⟨rfl,?_⟩)),⟨by omega,R,fun i z M x=>?_⟩⟩⟩,by omega⟩;by_cases a3:i=k
   ·subst a3;rw[F]at x;cases x;exact q
   ·exact E i z U x
  |false=>
   refine go ?_;exact AB rfl ⟨congrArg Value.bool (all_stop F q).symm,(X).trans R⟩
 ·refine go ?_;exact AB rfl ⟨congrArg Value.bool (all_done fun i z M x=>E i z U x).symm,(X).trans B⟩
theorem geval_ok(w:World)(L:Option Addr)(K:Nat)(S:List Sgn)(b o:Nat)(f:Fml)(j:SlAt sgnR AV w (.slice L S.length K) S)(q:A5 S=true)(i:PF AV w b o f)(P:LkS S f)(C:GF w)(s:KY w)(h:10<=w.heap.size):
  Fn Zp 119 [.slice L S.length K,.pointer (some ⟨b,o,none⟩)] w fun u w'=>u=.bool true/\Ext w w':=by
 obtain⟨_,r,x,V,v⟩:=id i;have p:Bc f=As f:=by unfold Bc;rw[if_pos P.1]
 have D:(Bc f).op≠0:=by rw[p];exact loose_op (loose_canon P.1)
 refine AG Tryz.func119 rfl Tryz.ntmps119 (go ?_);refine AE (Dt w _ S j s) rfl ?_;rintro _ R⟨rfl,c⟩;rw[q];refine go ?_;refine AQ rfl x (V.E c O) ?_;refine AE (gtyping_ok R L K S _ f (j.ext c) (v.ext c) (C.ext c) (s.E c O) (Nat.le_trans h c.size)) rfl ?_;rintro _ n⟨e,rfl,l, -⟩;have A:=c.trans l;by_cases m:e=0
 ·subst m;refine go ?_;exact AB rfl ⟨rfl,A⟩
 ·refine go ?_;refine AQ rfl x (V.E A O) ?_;refine AE (BN n _ f (v.ext A) (C.ext A) (s.E A O) (Nat.le_trans h A.size)) rfl ?_;rintro u t⟨g,k⟩;obtain⟨B,rfl,d, -⟩:=k.cells;obtain⟨y,I,N,M,z,rfl⟩:=Ab d;obtain rfl:=k.op0;refine W_field rfl (show[iV (Bc f).op,I,N,M,z][0]?=some (iV (Bc f).op)from rfl) ?_;have E:=A.trans g;refine go ?_;refine AE (gtknown_ok w L K S j _ t b o f (Nat.le_refl _) E (i.E E (fun _ _=>by simp))) rfl ?_;rintro _ F⟨rfl,a⟩;rw[P.2];refine go ?_;exact AB rfl ⟨rfl,E.trans a⟩
theorem growOf_ok(w:World)(n:Option Addr)(K:Nat)(S:List Sgn)(b o:Nat)(f:Fml)(c:LV)(D h:List Int)(j:SlAt sgnR AV w (.slice n S.length K) S)(q:A5 S=true)(r:PF AV w b o f)(P:LkS S f)(M:LasG w c D h)
  (G:D.length<=60)(X:1<=h.length)(W:h.length<=40)(F:∀x∈D,0<=x/\x<CQ S)(T:∀x∈h,0<=x/\x<CQ S)(hG:GF w)(s:KY w)(p:10<=w.heap.size):
  Fn Zp 77 [.slice n S.length K,.pointer (some ⟨b,o,none⟩),.agg c.toArray] w fun u w'=>∃t v B,u=.tuple #[pt t,v,.bool true]/\Ext w w'/\AxG w' t S (D++h) D.length h.length B/\Tru w' v (B+h.length) (fun t=>tv (sem (wdG S (D++h) D.length h.length) f t)):=by
 obtain⟨a5,a6⟩:=num_valid q;have C:=M;obtain⟨a8, -,a3⟩:=BG P.1;obtain⟨a1,a0,N,R,rfl,a7,a4⟩:=M;refine AG Tryz.func77 rfl Tryz.ntmps77 (go ?_);refine Ai (L:=[.slice a1 D.length a0,.slice N h.length R]) rfl (fun w1 Z=>go ?_);have m:=Z.D;have k1:=Z.E;refine AX (.read 0 (.read 1 (.alt 2 (rd 3 3 (.read 7 (.alt 6 (.alt 8 (.read 9 (.read 10 .done)) .stop) .stop))) .stop))) An Dv (fun H I ed=>⟨Ext H,?_,?_⟩)
 ·exact Ew
 have d:=k1.trans I;refine go ?_;refine D_E rfl ?_;refine AE (geval_ok H n K S b o f (j.ext d) q (r.E d (fun _ _=>by simp)) P (hG.ext d) (s.E d O) (Nat.le_trans p d.size)) rfl ?_;rintro _ w2⟨rfl,l⟩;have A:=d.trans l;refine AA ⟨Ext H,fun _ e=>e,l,?_⟩;refine go ?_;refine D_R (v:=.agg [.slice a1 D.length a0,.slice N h.length R].toArray) rfl rfl (fun V hV=>by refine AN rfl (Bp rfl (m.E (I.trans hV) O) rfl ?_);exact AA ⟨rfl,rfl,rfl⟩) ?_;refine D_E rfl (go ?_);refine AE (letters_ok w2 _ S (j.ext A) (s.E A O) (Nat.le_trans p A.size)) rfl ?_;rintro _ w3⟨rfl,k⟩;have E:=A.trans k;refine AA ⟨Ext H,fun _ e=>e,l.trans k,?_⟩;refine D_E rfl (go ?_);refine AE (gvalid_ok w3 _ D h (CQ S) (C.ext E) G X W U F T) rfl ?_;rintro _ w4⟨rfl,a⟩;have i:=E.trans a;refine AA ⟨Ext H,fun _ e=>e,(l.trans k).trans a,?_⟩;refine go ?_;have b4:=m.E (((I.trans l).trans k).trans a) O;refine go ?_;refine AE (gaxisOf_ok w4 n K S b o f _ D h (j.ext i) q (r.E i (fun _ _=>by simp)) U (C.ext i) G X W F T (s.E i O) (Nat.le_trans p i.size)) rfl ?_;rintro _ w5⟨t,rfl,k5,z⟩;have y:=i.trans k5;refine go ?_;refine AE (grow_ok w5 t S _ _ _ _ b o f z U (Nat.le_refl _) (r.E y (fun _ _=>by simp)) ⟨_,a3⟩ P.2) rfl ?_;rintro u w6⟨hu,Q⟩;have a2:=z.ext Q;obtain⟨g,rfl,bg⟩:=hu;refine go ?_;exact BZ rfl ⟨_,_,_,rfl,y.trans Q,a2,g,rfl,bg⟩
theorem gholds_ok(w:World)(b:Option Addr)(K:Nat)(S:List Sgn)(v:Value)(f:Fml)(c:LV)(D h:List Int)(j:SlAt sgnR AV w (.slice b S.length K) S)(q:A5 S=true)(i:FAt AV w v f)(P:LkS S f)(M:LasG w c D h)
  (I:D.length<=60)(X:1<=h.length)(p:h.length<=40)(G:∀x∈D,0<=x/\x<CQ S)(T:∀x∈h,0<=x/\x<CQ S)(C:GF w)(s:KY w)(z:10<=w.heap.size):
  Fn Zp 46 [.slice b S.length K,v,.agg c.toArray,iV 0] w fun u w'=>u=.bool (tv (sem (wdG S (D++h) D.length h.length) f 0))/\Ext w w':=by
 obtain⟨cf,rfl,A,a2⟩:=i.cells;obtain⟨x0,x1,x2,x3,x4,rfl⟩:=Ab A;have F:=M;obtain⟨a0,Z,V,R,rfl,a3,a1⟩:=M;refine AG Tryz.func46 rfl Tryz.ntmps46 (go ?_);refine Ai (L:=[x0,x1,x2,x3,x4]) rfl (fun w1 E=>?_);refine Ai (L:=[.slice a0 D.length Z,.slice V h.length R]) rfl (fun w2 N=>?_);have l:=E.E.trans N.E;have m:=E.D.E N.E O;have b2:=N.D;refine go ?_;refine AE (growOf_ok w2 b K S w.heap.size 0 f _ D h (j.ext l) q ⟨trivial,_,rfl,m.cells,i.ext l⟩ P (F.ext l) I X p G T (C.ext l) (s.E l O) (Nat.le_trans z l.size)) rfl ?_;rintro _ k⟨t,u,B,rfl,Q,r,n⟩;obtain⟨g,rfl,o⟩:=n;have y:0<B+h.length:=by omega
 have d:∀W,Ext k W->W.cell? ⟨g,0+0,none⟩=some (.bool (tv (sem (wdG S (D++h) D.length h.length) f 0))):=fun W e=>(o.E e O).cell (by rw[Nat.zero_add];exact rowC_at y);refine go ?_;refine AE (gplace_ok k t S _ _ _ B 0 r U) rfl ?_;rintro _ w4⟨rfl,a⟩;have c1:=d w4 a;have H:plcN (B+h.length) B 0=0:=by unfold plcN;rw[if_pos U]
 rw[H];refine go ?_;exact AB rfl ⟨rfl,(l.trans Q).trans a⟩
section
variable {mk:Prop}[MK mk]
theorem oneC_app{l m:LV}(h:oneC l)(k:oneC m):oneC (l++m):=fun u n=>(List.mem_append.1 n).elim (h u) (k u)
structure Acc{α:Type}(ok0:Nat->Prop)(R:Rp α)(T:TypeId)(sz B:Nat)(W:World)(v:Value)(l:List α):Prop where
 ex:∃L,W.ownsRow B T sz v l.length L.flatten/\RsAt R (fun b=>ok0 b/\v.ownBlock≠some b) W L l
section
variable {α:Type}{ok0:Nat->Prop}{R:Rp α}{T:TypeId}{sz B:Nat}{W W1 w8:World}{v v8:Value}{l:List α}
theorem Acc.push{L:List (LV)}{c:LV}{a:α}(n:W.ownsRow B T sz v l.length L.flatten)(m:RsAt R (fun b=>ok0 b/\v.ownBlock≠some b) W L l)(e:Ext W W1)(V:R.fits (fun b=>ok0 b/\v.ownBlock≠some b) W1 c a)(x:Apd W1 w8 B T sz v v8 (l.length+1) (L.flatten++c)):Acc ok0 R T sz B w8 v8 (l++[a]):=by
 have z:=e.size
 have i:∀g,v8.ownBlock=some g->v.ownBlock=some g\/g=W1.heap.size:=fun g t=>by
  rcases x.D with e|e
  ·exact .inl (by rw[<-e];exact t)
  ·rw[e]at t;exact .inr (Option.some.inj t).symm
 have j:∀y,y∈v.ownBlock.toList->v.ownBlock=some y:=fun y F=>Option.mem_toList.1 F;refine⟨⟨L++[c],by have:=x.own;simpa using this,RsAt.snoc ?_ ?_⟩⟩
 ·refine((m.lt.ext e).E x.E fun b S h=>S.1.2 (j b h)).mono fun b S=>⟨S.1.1,fun k=>?_⟩;rcases i b k with e|e
  ·exact S.1.2 e
  ·have:=S.2;omega
 ·refine R.mono (R.E (R.lt V) x.E fun b S h=>S.1.2 (j b h)) fun b S=>⟨S.1.1,fun k=>?_⟩;rcases i b k with e|e
  ·exact S.1.2 e
  ·have:=S.2;omega
theorem Acc.ext(h:Acc ok0 R T sz B W v l)(e:Ext W W1):Acc ok0 R T sz B W1 v l:=by
 obtain⟨L,S,a⟩:=h.ex;exact⟨⟨L,Ae S e,a.ext e⟩⟩
theorem Acc.sl(h:Acc ok0 R T sz B W v l):SlAt R AV W v l:=by
 obtain⟨L,S,b⟩:=h.ex;have D:Sl AV W v l.length L.flatten:=Aa S fun _ _=>trivial;obtain⟨a,c,e,_⟩:=id D;exact⟨a,c,L,e,D,b.mono fun _ _=>trivial⟩
end
theorem SlAt.at{α:Type}{R:Rp α}{sz:Nat}{ok:Nat->Prop}{w:World}{a:Option Addr}{n c k:Nat}{l:List α}{x:α}(p:R.size=sz)(h:SlAt R ok w (.slice a n c) l)(j:l[k]?=some x):∃b o d,a=some ⟨b,o,none⟩/\ok b/\Cells w b (o+k*sz) d/\R.fits ok w d x:=by
 subst p;obtain⟨X,z,L,e,D,g⟩:=h;cases e;have i:=(List.getElem?_eq_some_iff.1 j).1;have C:L[k]?=some (L[k]'(by rw[g.1];exact i)):=List.getElem?_eq_getElem _;obtain⟨b,o,m,A,E⟩:=Sl.row D g C i;exact⟨b,o,_,m,A,E,g.2 k _ x C j⟩
section
variable {P:Program}{all:Array Oper}{Z:Fr->DS->List PanicEntry->World->Prop}{K:Fr->DS->World->Prop}{rest:List Oper}{f:Fr}{ds:DS}{w:World}{d:Nat}{ty:TypeId}{pos:String}{af:Array Edge}
theorem W_make0S{T e size F:Nat}{z:Value}{l c:Operand}{k A:IntKind}{n:Nat}{N M:Int}[hT:SlT P T e size F z](o:(madeCells z.cells (n*size)).size=n*size)(j:ev f l=.int k N)(V:ev f c=.int A M)(b:N=0)(a:M=(n:Int))(S:F*n<=281474976710656)(y:n<=9223372036854775807)
  (h:∀w',Ext w w'->w'.heap.size=w.heap.size+1->w'.ownsRow w.heap.size e size (.slice (sm w.heap.size) 0 n) 0 []->AT P all Z K rest (upd f d (.slice (sm w.heap.size) 0 n)) ds w'):
  AT P all Z K (⟨some d,.makeSlice T l c,ty,pos,af,none⟩::rest) f ds w:=by
 subst b;subst a;obtain⟨i,H,p,m,E⟩:=hT.out
 have g:(i.bytes:Int)*(n:Int)<=281474976710656:=by
  rw[E];have h:((F*n:Nat):Int)<=281474976710656:=by omega
  rwa [Int.natCast_mul]at h
 have x:=run_make (P:=P) w T e i z hT.und H p k A 0 n U U g U;have I:=New.mk_alloc w (madeCells z.cells (n*size)).toList e;refine Aw (v:=.slice (sm w.heap.size) 0 n) (w':=w.alloc (.cells (madeCells z.cells (n*size)).toList.toArray e)) rfl ?_ (h _ I.E I.size ⟨by simp,.inr ⟨w.heap.size,n,(madeCells z.cells (n*size)).toList.toArray,rfl,Nat.le_refl _,I.D,by omega,by unfold maxLen;omega,by simpa using o,by simp⟩⟩);simp[execOp,j,V,x,m]
end
theorem fill_one{sz:Nat}{b e:LV}(X:b.length=sz)(a:e.length=sz):fillL (fun i=>some (i*sz,sz)) b [(0,.agg e.toArray)]=some e:=by
 have Q:(Value.agg e.toArray).cells=e.toArray:=rfl;simp[fillL,Q,a,X,splice]
theorem DJ(z:Array Value)(n:Nat):(madeCells z n).size=n:=by simp[madeCells]
end
theorem short_ok(w:World)(c:LV)(D a:List Int)(h:LasG w c D a):Fn Zp 8 [.agg c.toArray] w fun u w'=>∃b:Bool,u=.bool b/\Ext w w':=by
 obtain⟨d,K,V,S,rfl,t,C⟩:=h;refine AG Tryz.func8 rfl Tryz.ntmps8 (go ?_);refine Ai (L:=[.slice d D.length K,.slice V a.length S]) rfl (fun R E=>?_);have k:=E.D;by_cases X:D.length<=80
 ·by_cases W:a.length<=80
  ·exact FW
  ·exact FW
 ·exact FW
theorem letter_ok(w:World)(x:Int):Fn Zp 70 [iV x] w fun u w'=>u=.bool (decide (0<=x)&&decide (x<64))/\w'=w:=by
 refine AG Tryz.func70 rfl Tryz.ntmps70 ?_;by_cases X:0<=x
 ·rw[decide_eq_true X];by_cases W:x<64
  ·rw[decide_eq_true W];exact El
  ·rw[decide_eq_false W];exact El
 ·rw[decide_eq_false X];exact El
theorem formed2_ok(w:World)(c:LV)(D a:List Int)(h:LasG w c D a):Fn Zp 28 [.agg c.toArray] w fun u w'=>∃b:Bool,u=.bool b/\Ext w w'/\(b=true->D.length<=60/\1<=a.length/\a.length<=40/\(∀x∈D,0<=x/\x<64)/\∀x∈a,0<=x/\x<64):=by
 obtain⟨q,K,p,S,rfl,t,C⟩:=h;refine AG Tryz.func28 rfl Tryz.ntmps28 (go ?_);refine Ai (L:=[.slice q D.length K,.slice p a.length S]) rfl (fun R E=>?_);have f:=E.D;have s:=t.len;have m:=C.len;by_cases X:60<D.length
 ·exact FC
 by_cases r:a.length<1
 ·exact FC
 by_cases Q:40<a.length
 ·exact FC
 refine go ?_;refine Ah (α:=Nat) (fun k=>[(1,pt w.heap.size),(3,iV (k:Int))]) (fun k W=>k<=(D).length/\Ext R W/\∀(i:Nat)(x:Int),i<k->(D)[i]?=some x->0<=x/\x<64) (fun k=>(D).length-k) 0 ag ⟨by omega,Ext.refl _,fun i x h=>by omega⟩ ?_;rintro k W Z⟨P,V,e⟩;have l:=f.E V O;refine go ?_;by_cases B:k<(D).length
 ·obtain⟨x,T⟩:=gl B;obtain⟨b,o,rfl,g⟩:=InS.at ((t).ext (E.E.trans V)) T;refine go ?_;refine AE (letter_ok W x) rfl ?_;rintro _ _⟨rfl,rfl⟩;cases hb:(decide (0<=x)&&decide (x<64))with
  |false=>
   exact FQ
  |true=>
   refine go ?_;refine⟨k+1,⟨rfl,ag,⟨by omega,V,fun i z H d=>?_⟩⟩,by omega⟩;by_cases I:i=k
   ·subst I;rw[T]at d;cases d;simpa using hb
   ·exact e i z U d
 ·obtain rfl:k=D.length:=by omega
  have j:∀x∈D,0<=x/\x<64:=fun x T=>by
   exact Fd
  clear e;have n:=V;refine go ?_;refine Ah (α:=Nat) (fun k=>[(1,pt w.heap.size),(5,iV (k:Int))]) (fun k W=>k<=(a).length/\Ext R W/\∀(i:Nat)(x:Int),i<k->(a)[i]?=some x->0<=x/\x<64) (fun k=>(a).length-k) 0 ag ⟨by omega,n,fun i x h=>by omega⟩ ?_;rintro k W Z⟨P,V,e⟩;have l:=f.E V O;refine go ?_;by_cases B:k<(a).length
  ·obtain⟨x,T⟩:=gl B;obtain⟨b,o,rfl,g⟩:=InS.at ((C).ext (E.E.trans V)) T;refine go ?_;refine AE (letter_ok W x) rfl ?_;rintro _ _⟨rfl,rfl⟩;cases hb:(decide (0<=x)&&decide (x<64))with
   |false=>
    exact FQ
   |true=>
    refine go ?_;refine⟨k+1,⟨rfl,ag,⟨by omega,V,fun i z H d=>?_⟩⟩,by omega⟩;by_cases I:i=k
    ·subst I;rw[T]at d;cases d;simpa using hb
    ·exact e i z U d
  ·obtain rfl:k=a.length:=by omega
   refine go ?_
   exact AB rfl ⟨true,rfl,E.E.trans V,fun _=>⟨by omega,by omega,by omega,j,fun x T=>by
    obtain⟨i,H⟩:=List.getElem?_of_mem T;exact e i x (List.getElem?_eq_some_iff.1 H).1 H⟩⟩
theorem valid2_ok(w:World)(n:Int)(c:LV)(D a:List Int)(h:LasG w c D a):Fn Zp 9 [iV n,.agg c.toArray] w fun u w'=>∃b:Bool,u=.bool b/\Ext w w'/\(b=true->D.length<=60/\1<=a.length/\a.length<=40/\(∀x∈D,0<=x/\x<n)/\∀x∈a,0<=x/\x<n):=by
 have s:=h;obtain⟨X,K,M,N,rfl,t,C⟩:=h;refine AG Tryz.func9 rfl Tryz.ntmps9 (go ?_);refine Ai (L:=[.slice X D.length K,.slice M a.length N]) rfl (fun R E=>?_);have f:=E.D;have a0:=t.len;have m:=C.len;refine go ?_;refine Ah (α:=Nat) (fun k=>[(0,iV n),(3,pt w.heap.size),(5,iV (k:Int))]) (fun k W=>k<=(D).length/\Ext R W/\∀(i:Nat)(x:Int),i<k->(D)[i]?=some x->x<n) (fun k=>(D).length-k) 0 ag ⟨by omega,Ext.refl _,fun i x h=>by omega⟩ ?_;rintro k W Z⟨P,V,e⟩;have l:=f.E V O;refine go ?_;by_cases B:k<(D).length
 ·obtain⟨x,T⟩:=gl B;obtain⟨b,o,rfl,q⟩:=InS.at ((t).ext (E.E.trans V)) T;by_cases G:n<=x
  ·exact FQ
  ·refine go ?_;refine⟨k+1,⟨rfl,ag,⟨by omega,V,fun i z H d=>?_⟩⟩,by omega⟩;by_cases I:i=k
   ·subst I;rw[T]at d;cases d;omega
   ·exact e i z U d
 ·obtain rfl:k=D.length:=by omega
  have j:∀x∈D,x<n:=fun x T=>by
   exact Fd
  clear e;have y:=V;refine go ?_;refine Ah (α:=Nat) (fun k=>[(0,iV n),(3,pt w.heap.size),(6,iV (k:Int))]) (fun k W=>k<=(a).length/\Ext R W/\∀(i:Nat)(x:Int),i<k->(a)[i]?=some x->x<n) (fun k=>(a).length-k) 0 ag ⟨by omega,y,fun i x h=>by omega⟩ ?_;rintro k W Z⟨P,V,e⟩;have l:=f.E V O;refine go ?_;by_cases B:k<(a).length
  ·obtain⟨x,T⟩:=gl B;obtain⟨b,o,rfl,q⟩:=InS.at ((C).ext (E.E.trans V)) T;by_cases G:n<=x
   ·exact FQ
   ·refine go ?_;refine⟨k+1,⟨rfl,ag,⟨by omega,V,fun i z H d=>?_⟩⟩,by omega⟩;by_cases I:i=k
    ·subst I;rw[T]at d;cases d;omega
    ·exact e i z U d
  ·obtain rfl:k=a.length:=by omega
   have A:∀x∈a,x<n:=fun x T=>by
    exact Fd
   refine go ?_;refine AE (formed2_ok W _ D a (s.ext (E.E.trans V))) rfl ?_;rintro _ w5⟨b,rfl,r,S⟩;refine go ?_
   exact AB rfl ⟨b,rfl,(E.E.trans V).trans r,fun h=>by
    obtain⟨F,v,g,p,Q⟩:=S h;exact⟨F,v,g,fun x T=>⟨(p x T).1,j x T⟩,fun x T=>⟨(Q x T).1,A x T⟩⟩⟩
theorem word_ok(w:World)(P:Option Addr)(S:Nat)(xs:List Int)(c:LV)(D f:List Int)(hx:InS w (.slice P xs.length S) xs)(h:LasG w c D f)(hn:xs.length<=1000)(a6:D.length<=1000):
  Fn Zp 11 [.slice P xs.length S,.agg c.toArray] w fun u w'=>∃z:LV,u=.agg z.toArray/\Ext w w'/\LasG w' z (xs++D) f:=by
 obtain⟨sa,sc,s,C,rfl,a2,G⟩:=h;refine AG Tryz.func11 rfl Tryz.ntmps11 (go ?_);refine Ai (L:=[.slice sa D.length sc,.slice s f.length C]) rfl (fun w1 E=>?_);refine AS (fun w2 o=>?_);have z1:=E.size;have z2:=o.size;have A:=E.E.trans o.E;have k:=E.D.E o.E O;have r:=o.D;refine go ?_;refine AX (.read 1 (.read 3 (.read 4 (.read 6 (.read 7 (.alt 0 (.alt 2 (.alt 5 (.read 8 (.alt 9 .done .stop)) .stop) .stop) .stop)))))) An Dv (fun H I ed=>⟨Keep [w1.heap.size] H,?_,?_⟩)
 ·exact FK
 have zd:=I.size;have a4:=k.E I O;have R:=r.E I O;have e:=A.trans I;have a3:=hx.ext e;have a1:=a2.ext e;have a5:=G.ext e;refine go ?_;refine D_E rfl ?_;refine AP (out:=[]) rfl U (congrArg some (List.eq_nil_of_length_eq_zero EQ)) (fun V1 d=>?_);have Q:=d.own (n:=0) (size:=1) rfl D3 (Nat.le_refl _);have y1:=d.size;refine wNl d.E.any ?_;refine go ?_;refine D_E rfl ?_;refine Ap (B:=H.heap.size) (n:=0) rfl rfl Q (a3.ext d.E) U Dx O (by intro u q;obtain⟨i, -,rfl⟩:=List.mem_map.1 q;rfl) U U U (fun v2 W t=>?_);have Z:∀y∈(Value.slice (sm H.heap.size) 0 0).ownBlock.toList,H.heap.size<=y:=fun y F=>(Ad Q (Option.mem_toList.1 F)).1;have N:Ext H W:=d.E.E t.E Z;refine wNl N.any ?_;have K:=t.own;rw[Nat.zero_add,List.nil_append]at K;refine D_E rfl ?_;have y2:=N.size;refine Ap (B:=H.heap.size) (n:=xs.length) rfl rfl K (a1.ext N) U Dx O (by intro u q;obtain⟨i, -,rfl⟩:=List.mem_map.1 q;rfl) U U U (fun v3 a T=>?_);have a0:∀y∈v2.ownBlock.toList,H.heap.size<=y:=fun y F=>(Ad K (Option.mem_toList.1 F)).1;have M:Ext H a:=N.E T.E a0;have y3:=M.size;have p:=T.own;rw[<-List.map_append,<-List.length_append]at p;have v:InS a v3 (xs++D):=Aa p fun _ _=>trivial;obtain⟨l,j,rfl, -⟩:=id v;refine wNl M.any ?_;refine go ?_;refine D_E rfl ?_;refine AH (cs:=[.slice l (xs++D).length j,.slice s f.length C]) rfl rfl rfl (AW rfl) (R.E M O) O (fun X m=>?_);have V:Ext w X:=(e.trans M).E m.E Dw;refine wNl (M.any.trans m.E (fun x h _=>h)) ?_;refine go ?_;refine AU rfl rfl rfl m.D.cells ⟨_,rfl,V,l,j,s,C,rfl,?_,G.ext V⟩;exact(Aa p (ok:=fun b=>H.heap.size<=b) fun g hg=>(Ad p hg).1).E m.E (fun b hb hm=>by rw[List.mem_singleton]at hm;omega) |>.mono fun _ _=>trivial
theorem wholds_ok(w:World)(i:Option Addr)(K:Nat)(S:List Sgn)(v:Value)(f:Fml)(c:LV)(D h:List Int)(j:SlAt sgnR AV w (.slice i S.length K) S)(q:A5 S=true)(k:FAt AV w v f)(P:LkS S f)(M:LasG w c D h)
  (y:D.length<=60)(X:1<=h.length)(W:h.length<=40)(r:∀x∈D,0<=x/\x<CQ S)(T:∀x∈h,0<=x/\x<CQ S)(C:GF w)(s:KY w)(e:10<=w.heap.size):
  Fn Zp 14 [.slice i S.length K,v,.agg c.toArray] w fun u w'=>u=.bool (tv (sem (wdG S (D++h) D.length h.length) f 0))/\Ext w w':=by
 obtain⟨Q,rfl,n,o⟩:=k.cells;obtain⟨G,R,H,b,a,rfl⟩:=Ab n;have p:=M;obtain⟨B,A,V,z,rfl,t,I⟩:=M;refine AG Tryz.func14 rfl Tryz.ntmps14 (go ?_);refine Ai (L:=[G,R,H,b,a]) rfl (fun Z E=>?_);refine Ai (L:=[.slice B D.length A,.slice V h.length z]) rfl (fun F N=>?_);have l:=E.E.trans N.E;have m:=E.D.E N.E O;have d:=N.D;refine go ?_;refine AE (gholds_ok F i K S _ f _ D h (j.ext l) q (k.ext l) P (p.ext l) y X W r T (C.ext l) (s.E l O) (Nat.le_trans e l.size)) rfl ?_;rintro _ w3⟨rfl,g⟩;refine go ?_;exact AB rfl ⟨rfl,l.trans g⟩
section
attribute [local semireducible] WC AT Bo BI Bj Cw DV Be
variable {P:Program}{all:Array Oper}{Z:Fr->DS->List PanicEntry->World->Prop}{K:Fr->DS->World->Prop}{rest:List Oper}{f:Fr}{ds:DS}{w:World}{d:Nat}{ty:TypeId}{pos:String}{af:Array Edge}
theorem W_slNil{T e size F C n c:Nat}{z:Value}{x:Operand}{a:Option Addr}[hT:SlT P T e size F z](b:ev f x=.slice a n c)
  (h:AT P all Z K rest (upd f d (.bool a.isNone)) ds w):AT P all Z K (⟨some d,.binOp .eql T x (.const (.slice none 0 0)) C,ty,pos,af,none⟩::rest) f ds w:=by
 refine Aw rfl ?_ h;have g:ev f (.const (.slice none 0 0))=.slice none 0 0:=rfl
 have X:∀d:Nat,(Op.equalIn (d+1) T (.slice a n c) (.slice none 0 0)).run P w=.ok a.isNone w:=fun d=>by
  cases a<;>simp[Op.equalIn,run_underlying hT.und]
 have W:(binOp .eql T (.slice a n c) (.slice none 0 0)).run P w=.ok (.bool a.isNone) w:=by
  simp only[binOp];simp[Op.equal,Op.maxDepth,X 9999]
 simp[execOp,b,g,eqGuard,W]
end
theorem made0:(madeCells (Value.agg #[iV 0,AK [],iV 0,iV 0,.slice none 0 0]).cells (0*5)).toList=[]:=by kernel_rfl
theorem clone_ok(w:World)(a:Option Addr)(c:Nat)(l:LF)(L:List (LV))(ok:Nat->Prop)(D:Sl ok w (.slice a l.length c) l.length L.flatten)(g:FsAt ok w L l)(M:l.length<=1000000):
  Fn Zp 75 [.slice a l.length c] w fun u w'=>Ext w w'/\w'.ownsRow w.heap.size 36 5 u l.length L.flatten:=by
 have j:=g.oneC;have i:=g.flat;refine AG Tryz.func75 rfl Tryz.ntmps75 (go ?_);refine W_slNil rfl ?_;cases a with
 |none=>
  have s:l.length=0:=by
   obtain⟨_,_,e,_,_,_,h⟩:=D;cases e;rcases h with h|⟨b,o,e,_⟩
   ·exact h
   ·cases e
  refine go ?_;have A:L.flatten=[]:=List.eq_nil_of_length_eq_zero (by rw[i,s]);exact AB rfl ⟨Ext.refl _,by rw[A,s];exact⟨rfl,.inl ⟨rfl,rfl⟩⟩⟩
 |some a=>
  refine go ?_;refine AP (out:=[]) rfl U (by rw[made0];rfl) (fun m E=>?_);refine go ?_;have S:=E.own (n:=0) (size:=5) rfl D3 (Nat.le_refl _);refine Ap (B:=w.heap.size) (n:=0) rfl rfl S ((D.ext E.E)) U rfl i j U U (by have:=E.size;omega) (fun k p x=>?_);refine go ?_;have R:=x.own;rw[Nat.zero_add,List.nil_append]at R;exact AB rfl ⟨E.E.E x.E (fun y F=>(Ad S (Option.mem_toList.1 F)).1),R⟩
structure Rtg(ok:Nat->Prop)(W W':World)(g o:Nat)(v v':Value):Prop where
 sl:∃a n c,v=.slice a n c
 old:W.cell? ⟨g,o,none⟩=some v
 new:W'.cell? ⟨g,o,none⟩=some v'
 oth:∀(b i:Nat)(u:Value),¬(b=g/\i=o)->W.cell? ⟨b,i,none⟩=some u->W'.cell? ⟨b,i,none⟩=some u
 cpy:∀(n:Nat)(L:List (LV)),L.flatten.length=n*5->Sl ok W v n L.flatten->Sl ok W' v' n L.flatten
theorem row_at{L:List (LV)}(S:∀c∈L,c.length=5){k:Nat}{u:Value}(h:L.flatten[k]?=some u):∃c,L[k/5]?=some c/\c[k%5]?=some u:=by
 have B:=(List.getElem?_eq_some_iff.1 h).1;rw[CM 5 L S]at B;have H:k/5<L.length:=(Nat.div_lt_iff_lt_mul U).2 B;refine⟨L[k/5],List.getElem?_eq_getElem H,?_⟩;have y:L[k/5]∈L:=List.getElem_mem H;have z:k%5<(L[k/5]).length:=by rw[S _ y];omega
 have X:=CR 5 L (k/5) (k%5) _ _ S (List.getElem?_eq_getElem H) (List.getElem?_eq_getElem z);rw[show k/5*5+k%5=k by omega,h]at X;rw[List.getElem?_eq_getElem z];exact X.symm
theorem FAt.rtg{ok:Nat->Prop}{W l:World}{g o:Nat}{v M:Value}(R:Rtg ok W l g o v M):∀(n:Nat)(u:Value)(f:Fml),dpF f<=n->FAt ok W u f->FAt ok l u f
 |0,u,f,hn,_=>by rw[BQ]at hn;omega
 |n+1,u,f,hn,h=>by
  rw[BQ]at hn;obtain⟨av,rfl,L,hS,hL,S,hA⟩:=h.form;obtain⟨op,nm,vl,m,q⟩:=f;simp only[Fml.op,Fml.name,Fml.val,Fml.bound,Fml.args]at*
  obtain⟨a,Q,rfl,q1,q2,q3,q4⟩:=id hS;rcases q4 with h0|⟨b,p,rfl,hb,V⟩
  ·refine .mk op nm vl m q _ L ⟨a,Q,rfl,q1,q2,q3,.inl h0⟩ hL S fun i c x H T=>?_;have:=(List.getElem?_eq_some_iff.1 T).1;omega
  ·
   have a2:∀(i:Nat),i<L.length->∃s:LV,s.length=5/\(∀(j:Nat)(w:Value),s[j]?=some w->l.cell? ⟨b,p+i*5+j,none⟩=some w)/\∀x,q[i]?=some x->FAt ok l (.agg s.toArray) x:=by
    intro i H;have a0:=List.getElem?_eq_getElem H;have C:q[i]?=some q[i]:=List.getElem?_eq_getElem U;have hm:=List.mem_of_getElem? C;have b1:=Bi hm;have K:=hA i _ _ a0 C
    have e:∀(j:Nat)(w:Value),L[i][j]?=some w->W.cell? ⟨b,p+i*5+j,none⟩=some w:=fun j w d=>by
     have:=V (i*5+j) w (CR 5 L i j _ _ S a0 d)
     rwa [<-Nat.add_assoc]at this
    by_cases t:b=g/\p+i*5+4=o
    ·obtain⟨rfl,rfl⟩:=t;obtain⟨r,A,P,a6,N,Z,a5⟩:=K.form;have E:L[i]=[iV (q[i]).op,AK (q[i]).name,iV (q[i]).val,iV (q[i]).bound,r]:=by simpa using A
     have hv:v=r:=by
      have:=e 4 r (by rw[E];rfl);rw[R.old]at this;exact Option.some.inj this
     subst hv;refine⟨[iV (q[i]).op,AK (q[i]).name,iV (q[i]).val,iV (q[i]).bound,M],rfl,fun j w d=>?_,fun x T=>?_⟩
     ·match j,d with
      |0,d=>exact R.oth _ _ _ U (e 0 w (by rw[E];exact d))
      |1,d=>exact R.oth _ _ _ U (e 1 w (by rw[E];exact d))
      |2,d=>exact R.oth _ _ _ U (e 2 w (by rw[E];exact d))
      |3,d=>exact R.oth _ _ _ U (e 3 w (by rw[E];exact d))
      |4,d=>rw[<-Option.some.inj d];exact R.new
      |j+5,d=>simp at d
     ·rw[C]at T;obtain rfl:=Option.some.inj T;have a7:=BQ q[i];generalize q[i]=x at*
      obtain⟨a9,a8,b0,a4,a3⟩:=x;refine .mk a9 a8 b0 a4 a3 M P (R.cpy _ P (by rw[CM 5 P Z,N];rfl) a6) N Z fun k c y hk hy=>?_;have:=Bi (List.mem_of_getElem? hy);exact FAt.rtg R n _ y (by simp only[Fml.args]at a7;omega) (a5 k c y hk hy)
    ·refine⟨L[i],S _ (List.getElem_mem H),fun j w d=>R.oth _ _ _ (fun z=>?_) (e j w d),fun x T=>?_⟩
     ·
      obtain⟨rfl,z⟩:=z;obtain⟨r,A, -⟩:=K.form;have E:L[i]=[iV (q[i]).op,AK (q[i]).name,iV (q[i]).val,iV (q[i]).bound,r]:=by simpa using A
      have X:=e j w d;rw[z,R.old]at X;obtain⟨a',n',s,rfl⟩:=R.sl;obtain rfl:=Option.some.inj X;rw[E]at d
      match j,d,z with
      |0,d,_=>simp at d
      |1,d,_=>simp at d
      |2,d,_=>simp at d
      |3,d,_=>simp at d
      |4,_,z=>exact t ⟨rfl,z⟩
      |j+5,d,_=>simp at d
     ·rw[C]at T;obtain rfl:=Option.some.inj T;exact FAt.rtg R n _ _ U K
   obtain⟨D,F⟩:∃D:Nat->LV,∀i,i<L.length->(D i).length=5/\(∀(j:Nat)(w:Value),(D i)[j]?=some w->l.cell? ⟨b,p+i*5+j,none⟩=some w)/\∀x,q[i]?=some x->FAt ok l (.agg (D i).toArray) x:=
    ⟨fun i=>if h:i<L.length then Classical.choose (a2 i h)else[],fun i H=>by simp only[dif_pos H];exact Classical.choose_spec (a2 i H)⟩
   have a1:∀c∈(List.range L.length).map D,c.length=5:=by
    intro c V;obtain⟨i,H,rfl⟩:=List.mem_map.1 V;exact(F i (List.mem_range.1 H)).1
   refine .mk op nm vl m q _ ((List.range L.length).map D) ⟨some ⟨b,p,none⟩,Q,rfl,q1,q2,q3,.inr ⟨b,p,rfl,hb,fun k u I=>?_⟩⟩ (by simpa using hL) a1 fun i c x H T=>?_
   ·obtain⟨c,G,I⟩:=row_at a1 I;have B:k/5<L.length:=by have:=(List.getElem?_eq_some_iff.1 G).1;simpa using this
    rw[List.getElem?_map,List.getElem?_range B]at G;obtain rfl:=Option.some.inj G;have:=(F _ B).2.1 _ u I
    rwa [show p+k/5*5+k%5=p+k by omega]at this
   ·have B:i<L.length:=by have:=(List.getElem?_eq_some_iff.1 H).1;simpa using this
    rw[List.getElem?_map,List.getElem?_range B]at H;obtain rfl:=Option.some.inj H;exact(F i B).2.2 x T
theorem own_pop{w:World}{B e n:Nat}{a:Option Addr}{cap:Nat}{xs:LV}{u:Value}(h:w.ownsRow B e 1 (.slice a (n+1) cap) (n+1) (xs++[u])):w.ownsRow B e 1 (.slice a n cap) n xs:=by
 obtain⟨M,q⟩:=h;have d:xs.length=n*1:=by simp at M;omega
 rcases q with⟨e,s⟩|⟨g,cap,b,e,S,t,W,m,x,P⟩
 ·omega
 ·cases e;refine⟨d,.inr ⟨g,cap,b,rfl,S,t,by omega,m,x,?_⟩⟩;have:=congrArg (List.take (n*1)) P;rw[List.take_take,Nat.min_eq_left U]at this;rw[this,List.take_append_of_le_length U,List.take_of_length_le (l:=xs) U]
theorem PF.rtg{ok:Nat->Prop}{W l:World}{g o:Nat}{v s:Value}(R:Rtg ok W l g o v s){b i:Nat}{f:Fml}(h:PF ok W b i f):PF ok l b i f:=by
 obtain⟨m,d,C,r,K⟩:=h
 have X:FAt ok W (.agg #[iV 0,AK [],iV 0,iV 0,.slice (some ⟨b,i,none⟩) 1 1]) ⟨0,[],0,0,[f]⟩:=by
  refine .mk 0 [] 0 0 [f] _ [d] ⟨_,1,rfl,by simp,by omega,(fun e=>by cases e),.inr ⟨b,i,rfl,m,by simpa using r⟩⟩ rfl (fun c y=>by simp at y;rw[y];exact C) fun k c x P T=>?_;cases k with
  |zero=>simp at P T;subst P;subst T;exact K
  |succ k=>simp at P
 obtain⟨p,e,L,j,A,S,E⟩:=(FAt.rtg R _ _ _ (Nat.le_refl _) X).form;simp only[Value.agg.injEq,List.cons.injEq,and_true,Array.mk.injEq]at e;have e:=e.2.2.2.2;subst e;simp only[Fml.args]at j A E;obtain⟨a,c,e,_,_,_,T⟩:=j;cases e;obtain⟨n,t,e,q,V⟩:=T.resolve_left O;cases e
 match L,A with
 | [c],_=>
  simp at V;exact⟨q,c,S c O,V,E 0 c f rfl rfl⟩
abbrev Pn:=Nat×Nat×Fml
def ptrV(p:Pn):Value:=.pointer (some ⟨p.1,p.2.1,none⟩)
abbrev cok(ok0:Nat->Prop)(A c2:Nat)(v:Value)(b:Nat):Prop:=(ok0 b\/A<=b)/\b≠c2/\v.ownBlock≠some b
structure Cpy(ok0:Nat->Prop)(A B c2:Nat)(T2:TypeId)(zs:LV)(fx:List (Nat×Value))(roots ps:List Pn)(W:World)(v:Value):Prop where
 own:W.ownsRow B 96 1 v ps.length (ps.map ptrV)
 all:∀p,p∈roots\/p∈ps->PF (cok ok0 A c2 v) W p.1 p.2.1 p.2.2
 mine:∀p∈ps,A<=p.1/\∃T L,Blk W p.1 T L
 D:Blk W c2 T2 zs
 ab:A<B
 fix:∀q∈fx,W.cell? ⟨A,q.1,none⟩=some q.2
 nsl:∀q∈fx,∀a n c,q.2≠ .slice a n c
section
variable {ok0:Nat->Prop}{A B c2:Nat}{T2:TypeId}{zs:LV}{fx:List (Nat×Value)}{roots ps:List Pn}{W W':World}{v:Value}
theorem Cpy.ext(h:Cpy ok0 A B c2 T2 zs fx roots ps W v)(e:Ext W W'):Cpy ok0 A B c2 T2 zs fx roots ps W' v:=
 ⟨Ae h.own e,fun p a=>(h.all p a).E e (fun _ _=>by simp),fun p a=>⟨(h.mine p a).1,by obtain⟨T,L,S⟩:=(h.mine p a).2;exact⟨T,L,S.E e O⟩⟩,h.D.E e O,h.ab,fun q b=>e.cell (h.fix q b) O,h.nsl⟩
theorem Cpy.pop{p:Pn}(h:Cpy ok0 A B c2 T2 zs fx roots (ps++[p]) W v):∃a cap,v=.slice a (ps.length+1) cap/\Cpy ok0 A B c2 T2 zs fx (p::roots) ps W (.slice a ps.length cap)/\A<=p.1/\∃T L,Blk W p.1 T L:=by
 have R:=h.own;rw[List.length_append,List.map_append]at R;obtain⟨a,cap,rfl,_⟩:=Aa (ok:=AV) R fun _ _=>trivial;refine⟨a,cap,by simp,⟨own_pop (u:=ptrV p) (by simpa using R),fun q b=>?_,fun q b=>h.mine q (by simp[b]),h.D,h.ab,h.fix,h.nsl⟩,h.mine p O⟩
 have n:q∈roots\/q∈ps++[p]:=by
  rcases b with b|b
  ·rcases List.mem_cons.1 b with rfl|b
   ·exact .inr O
   ·exact .inl b
  ·exact .inr (by simp[b])
 have e:(Value.slice a (ps.length+1) cap).ownBlock=(Value.slice a ps.length cap).ownBlock:=by cases a<;>rfl
 have:=h.all q n;simp only[List.length_cons,List.length_nil,Nat.zero_add]at this;unfold cok at this⊢
 rwa [e]at this
theorem Cpy.push{p:Pn}{W1 i:World}{w:Value}(h:Cpy ok0 A B c2 T2 zs fx roots ps W v)(e:Ext W W1)(d:Apd W1 i B 96 1 v w (ps.length+1) (ps.map ptrV++[ptrV p]))(j:PF (cok ok0 A c2 v) W p.1 p.2.1 p.2.2)(c:A<=p.1/\∃T L,Blk W p.1 T L)(n:v.ownBlock≠some c2):Cpy ok0 A B c2 T2 zs fx roots (ps++[p]) i w:=by
 have z:=e.size
 have l:∀g,w.ownBlock=some g->v.ownBlock=some g\/g=W1.heap.size:=fun g t=>by
  rcases d.D with e|e
  ·exact .inl (by rw[<-e];exact t)
  ·rw[e]at t;exact .inr (Option.some.inj t).symm
 have f:∀y,y∈v.ownBlock.toList->v.ownBlock=some y:=fun y F=>Option.mem_toList.1 F
 have m:∀{b o:Nat}{x:Fml},PF (cok ok0 A c2 v) W b o x->PF (cok ok0 A c2 w) i b o x:=fun K=>by
  refine(((K.lt).E e (fun _ _=>by simp)).E d.E fun b S c=>S.1.2.2 (f b c)).mono fun b S=>⟨S.1.1,S.1.2.1,fun e=>?_⟩;rcases l b e with e|e
  ·exact S.1.2.2 e
  ·have:=S.2;omega
 have k:∀{b:Nat},v.ownBlock≠some b->(∃T L,Blk W b T L)->∃T L,Blk i b T L:=fun hne⟨T,L,S⟩=>⟨T,L,(S.E e O).E d.E fun c=>hne (f _ c)⟩;refine⟨by have:=d.own;simpa using this,fun q a=>?_,fun q a=>?_,(h.D.E e O).E d.E fun c=>n (f _ c),h.ab,fun q a=>d.E.cell (e.cell (h.fix q a) O) fun c=>by have:=(Ad h.own (f _ c)).1;have:=h.ab;omega,h.nsl⟩
 ·rcases a with a|a
  ·exact m (h.all q (.inl a))
  ·rcases List.mem_append.1 a with a|a
   ·exact m (h.all q (.inr a))
   ·simp at a;rw[a];exact m j
 ·rcases List.mem_append.1 a with a|a
  ·exact⟨(h.mine q a).1,k (h.all q (.inr a)).1.2.2 (h.mine q a).2⟩
  ·simp at a;rw[a];exact⟨c.1,k j.1.2.2 c.2⟩
end
theorem Blk.un{w:World}{b i:Nat}{T:TypeId}{L:LV}{u:Value}(h:Blk w b T L)(n:w.cell? ⟨b,i,none⟩=some u):L[i]?=some u:=by
 unfold Blk at h;simp only[World.cell?,h]at n;simpa using n
theorem Rtg.of_put{ok:Nat->Prop}{W l:World}{g o:Nat}{T:TypeId}{L:LV}{v d:Value}(S:Blk W g T L)(q:W.cell? ⟨g,o,none⟩=some v)(D:∃a n c,v=.slice a n c)(p:Put W l g T (L.set o d))
  (V:∀(n:Nat)(L:List (LV)),L.flatten.length=n*5->Sl ok W v n L.flatten->Sl ok l d n L.flatten):Rtg ok W l g o v d:=by
 have B:=(List.getElem?_eq_some_iff.1 (S.un q)).1;refine⟨D,q,p.D.cell (by simp[B]),fun b i u A h=>?_,V⟩;by_cases f:b=g
 ·subst f;have H:¬i=o:=fun e=>A ⟨rfl,e⟩;exact p.D.cell (by rw[List.getElem?_set_ne U];exact S.un h)
 ·exact p.E.cell h (by simpa using f)
theorem Cpy.store{X:Nat->Prop}{A B D:Nat}{d T:TypeId}{k L:LV}{z:List (Nat×Value)}{j ps:List Pn}{W l:World}{v v0 u:Value}{g o:Nat}(h:Cpy X A B D d k z j ps W v)(R:Rtg (cok X A D v) W l g o v0 u)(p:Put W l g T L)(r:g≠D)(s:v.ownBlock≠some g):Cpy X A B D d k z j ps l v:=by
 refine⟨Ac h.own p.E fun y i f=>?_,fun q b=>(h.all q b).rtg R,fun q b=>⟨(h.mine q b).1,?_⟩,h.D.E p.E ?_,h.ab,fun q b=>R.oth _ _ _ (fun F=>?_) (h.fix q b),h.nsl⟩
 ·rw[List.mem_singleton]at f;rw[f]at i;exact s i
 ·obtain⟨H,m,S⟩:=(h.mine q b).2;by_cases t:q.1=g
  ·rw[t];exact⟨_,_,p.D⟩
  ·exact⟨H,m,S.E p.E EP⟩
 ·rw[List.mem_singleton];exact fun e=>r e.symm
 ·have Q:=h.fix q b;rw[F.1,F.2,R.old]at Q;obtain⟨a,n,c,e⟩:=R.sl;exact h.nsl q b a n c (by rw[<-Option.some.inj Q];exact e)
theorem cpy_of{ok c:Nat->Prop}{W W1:World}{p u:Value}{l:LF}{L0:List (LV)}(D:Sl ok W p l.length L0.flatten)(s:L0.flatten.length=l.length*5)(o:Sl c W1 u l.length L0.flatten)(n:Nat)(L:List (LV))(f:L.flatten.length=n*5)(h:Sl ok W p n L.flatten):Sl c W1 u n L.flatten:=by
 obtain⟨a,x,rfl,v,C,r,Q⟩:=D;obtain⟨q,y,e,Z,k,E,w⟩:=h;cases e
 have:L.flatten=L0.flatten:=by
  by_cases G:l.length=0
  ·have d:L.flatten=[]:=List.eq_nil_of_length_eq_zero (by rw[f,G]);have A:L0.flatten=[]:=List.eq_nil_of_length_eq_zero (by rw[s,G]);rw[d,A]
  ·obtain⟨b,z,d,_,V⟩:=Q.resolve_left G;obtain⟨t,B,A,_,m⟩:=w.resolve_left G;rw[d]at A;cases A;refine List.ext_getElem (by rw[f,s]) fun i X j=>?_;have R:=V i _ (List.getElem?_eq_getElem j);have g:=m i _ (List.getElem?_eq_getElem X);rw[R]at g;exact(Option.some.inj g).symm
 rw[this];exact o
theorem PF.child{ok:Nat->Prop}{W:World}{g o n v k:Nat}{u:Option Addr}{x y:Fml}(h:PF ok W g o x)(V:W.cell? ⟨g,o+4,none⟩=some (.slice u n v))(P:x.args[k]?=some y):∃Q f,u=some ⟨Q,f,none⟩/\PF ok W Q (f+k*5) y:=by
 obtain⟨S,a,c,L,m,j,d⟩:=h.form;have e:=m 4 _ rfl;rw[V]at e;cases e;have B:=(List.getElem?_eq_some_iff.1 P).1;have C:L[k]?=some (L[k]'(by rw[d.1];exact B)):=List.getElem?_eq_getElem _;obtain⟨b,l,i,A,E⟩:=j.fml d.2.1 C B;exact⟨b,l,i,A,_,d.2.1 _ (List.getElem_mem _),E,d.2.2 k _ y C P⟩
def dtyR:Rp Dty where
 fits ok w c x:=∃r a b,c=r++(iV x.since::(a++b))/\reqR.fits ok w r x.req/\fmlR.fits ok w a x.first/\fmlR.fits ok w b x.now
 size:=19
 len h:=by
  obtain⟨r,a,b,rfl,X,W,Q⟩:=h;have d:r.length=8:=reqR.len X;have A:a.length=5:=fmlR.len W;have E:b.length=5:=fmlR.len Q;simp[d,A,E]
 one h:=by
  obtain⟨r,a,b,rfl,X,W,Q⟩:=h;refine oneC_app (reqR.one X) fun u n=>?_;rcases List.mem_cons.1 n with rfl|n
  ·rfl
  ·exact oneC_app (fmlR.one W) (fmlR.one Q) u n
 E h k hX:=by obtain⟨r,a,b,e,X,W,Q⟩:=h;exact⟨r,a,b,e,reqR.E X k hX,fmlR.E W k hX,fmlR.E Q k hX⟩
 lt h:=by obtain⟨r,a,b,e,X,W,Q⟩:=h;exact⟨r,a,b,e,reqR.lt X,fmlR.lt W,fmlR.lt Q⟩
 mono h hk:=by obtain⟨r,a,b,e,X,W,Q⟩:=h;exact⟨r,a,b,e,reqR.mono X hk,fmlR.mono W hk,fmlR.mono Q hk⟩
def wchR:Rp (Dty×Fml) where
 fits ok w c x:=∃a b,c=a++b/\dtyR.fits ok w a x.1/\fmlR.fits ok w b x.2
 size:=24
 len h:=by
  obtain⟨a,b,rfl,X,W⟩:=h;have d:a.length=19:=dtyR.len X;have A:b.length=5:=fmlR.len W;simp[d,A]
 one h:=by obtain⟨a,b,rfl,X,W⟩:=h;exact oneC_app (dtyR.one X) (fmlR.one W)
 E h k hX:=by obtain⟨a,b,e,X,W⟩:=h;exact⟨a,b,e,dtyR.E X k hX,fmlR.E W k hX⟩
 lt h:=by obtain⟨a,b,e,X,W⟩:=h;exact⟨a,b,e,dtyR.lt X,fmlR.lt W⟩
 mono h hk:=by obtain⟨a,b,e,X,W⟩:=h;exact⟨a,b,e,dtyR.mono X hk,fmlR.mono W hk⟩
theorem dty_cells{ok:Nat->Prop}{w:World}{c:LV}{x:Dty}(h:dtyR.fits ok w c x):∃q a b,c=[AK x.req.part,AK x.req.name,iV x.req.kind]++q++(iV x.since::(a++b))/\q.length=5/\a.length=5/\b.length=5/\FAt ok w (.agg q.toArray) x.req.formula/\FAt ok w (.agg a.toArray) x.first/\FAt ok w (.agg b.toArray) x.now:=by
 obtain⟨r,a,b,rfl,⟨q,rfl,T,X⟩,⟨I,W⟩,⟨S,Q⟩⟩:=h;exact⟨q,a,b,rfl,T,I,S,X,W,Q⟩
def wtP(ps:List Pn):Nat:=(ps.map fun p=>szF p.2.2).sum
theorem wtP_app(ps qs:List Pn):wtP (ps++qs)=wtP ps+wtP qs:=by simp[wtP]
theorem wtP_len:∀ps:List Pn,ps.length<=wtP ps
 | []=>Nat.le_refl _
 |p::ps=>by
  have X:=wtP_len ps;have W:=BJ p.2.2;simp only[wtP,List.map_cons,List.sum_cons,List.length_cons]at X⊢;omega
theorem last_of{α:Type}{l:List α}(h:l≠[]):∃m a,l=m++[a]:=⟨l.dropLast,l.getLast h,(List.dropLast_concat_getLast h).symm⟩
def chP(b o:Nat):Nat->LF->List Pn
 |_,[]=>[]
 |i,x::l=>(b,o+i*5,x)::chP b o (i+1) l
theorem chP_snoc(b o:Nat)(x:Fml):∀(l:LF)(i:Nat),chP b o i (l++[x])=chP b o i l++[(b,o+(i+l.length)*5,x)]
 | [],i=>by simp[chP]
 |y::l,i=>by
  have:=chP_snoc b o x l (i+1);simp only[List.cons_append,chP,this,List.length_cons];rw[show i+1+l.length=i+(l.length+1) by omega]
theorem chP_wt(b o:Nat):∀(l:LF)(i:Nat),wtP (chP b o i l)=szL l
 | [],i=>by simp[chP,wtP,szL]
 |y::l,i=>by
  have:=chP_wt b o l (i+1);simp only[chP,wtP,List.map_cons,List.sum_cons,szL]at this⊢;rw[this]
theorem chP_len(b o:Nat):∀(l:LF)(i:Nat),(chP b o i l).length=l.length
 | [],i=>rfl
 |y::l,i=>by simp[chP,chP_len b o l (i+1)]
theorem mcopied_ok(w:World)(v:Value)(f:Fml)(X:Nat->Prop)(hf:FAt X w v f)(hz:szF f<=1000000):
  Fn Zp 60 [v] w fun u w'=>Ext w w'/\FAt (fun b=>X b\/w.heap.size<=b) w' u f:=by
 obtain⟨c,rfl,c5,b3⟩:=hf.cells;obtain⟨x0,x1,x2,x3,x4,rfl⟩:=Ab c5;have c9:=hf.lt;refine AG Tryz.func60 rfl Tryz.ntmps60 (go ?_);refine Ai (L:=[x0,x1,x2,x3,x4]) rfl (fun R n1=>?_);refine AS (L:=zero5) (fun r I=>?_);have z1:=n1.size;have z2:=I.size;have kk:=n1.E.trans I.E;have b1:Blk r w.heap.size 36 [x0,x1,x2,x3,x4]:=n1.D.E I.E O;refine go ?_;refine CT (out:=[pt w.heap.size]) rfl U rfl rfl (fun w3 Z=>?_);have z3:=Z.size;have k3:=kk.trans Z.E
 have M:Cpy X w.heap.size r.heap.size R.heap.size 36 zero5 [] [(w.heap.size,0,f)] [(w.heap.size,0,f)] w3 (.slice (sm r.heap.size) 1 1):=by
  have hp:PF (cok X w.heap.size R.heap.size (Value.slice (sm r.heap.size) 1 1)) w3 w.heap.size 0 f:=⟨⟨.inr (Nat.le_refl _),by omega,by simp[Value.ownBlock];omega⟩,_,rfl,(b1.E Z.E O).cells,(c9.ext k3).mono fun b S=>⟨.inl S.1,by have:=S.2;omega,by have:=S.2;simp[Value.ownBlock];omega⟩⟩;refine⟨Z.own (n:=1) (size:=1) rfl D3 (Nat.le_refl _),fun p m=>?_,fun p m=>?_,I.D.E Z.E O,by omega,by simp,by simp⟩
  ·rcases m with m|m<;>(simp at m;rw[m];exact hp)
  ·simp at m;rw[m];exact⟨Nat.le_refl _,_,_,b1.E Z.E O⟩
 refine go ?_
 refine Ah (α:=List Pn×List Pn×Value) (fun y=>[(1,pt w.heap.size),(2,pt R.heap.size),(3,y.2.2)])
  (fun y W=>Ext w W/\(∀p∈[(w.heap.size,0,f)],p∈y.2.1)/\wtP y.1<=1000000/\Cpy X w.heap.size r.heap.size R.heap.size 36 zero5 [] y.2.1 y.1 W y.2.2) (fun y=>wtP y.1) ([(w.heap.size,0,f)],[(w.heap.size,0,f)],.slice (sm r.heap.size) 1 1) ag ⟨k3,fun p h=>h,by simpa[wtP]using hz,M⟩ ?_
 rintro⟨ps,rs,v⟩W fr⟨kW,hr,hw,M⟩;simp only at hr hw M;have ho:=M.own;obtain⟨va,j,rfl,e6,e7,e8,d7⟩:=Aa (ok:=AV) ho fun _ _=>trivial;refine go ?_;by_cases G:ps≠[]
 ·obtain⟨N,p,rfl⟩:=last_of G;have hl:(N++[p]).length=N.length+1:=by simp
  obtain⟨a2,e1,A,H,hA,T,L,S⟩:=M.pop;rw[hl]at A;cases A;obtain⟨z,B,rfl, -,d8⟩:=d7.resolve_left U;have e4:W.cell? ⟨z,B+N.length,none⟩=some (ptrV p):=d8 _ _ O;have hj:(((N++[p]).length:Nat):Int)-1=(N.length:Int):=by omega
  obtain⟨g,o,x⟩:=p;have a5:=H.all (g,o,x) (.inl O);simp only at a5 hA S;obtain⟨hok,d,C,c6,hfx⟩:=id a5;obtain⟨d9,A,P,a0,a4,a3,b6⟩:=hfx.form;obtain⟨d0,d1,d2,d3,d4,rfl⟩:=Ab C;simp only[Value.agg.injEq,List.toArray_eq_iff,List.cons.injEq,and_true]at A;obtain⟨rfl,rfl,rfl,rfl,rfl⟩:=A;obtain⟨aa,cc,rfl,r1,r2,r3,r4⟩:=id a0;have a6:W.cell? ⟨g,o+4,none⟩=some (.slice aa x.args.length cc):=c6 4 _ rfl;have b8:FsAt (cok X w.heap.size R.heap.size (Value.slice (some ⟨z,B,none⟩) N.length j)) W P x.args:=⟨a4,a3,b6⟩;have f2:wtP N+szF x=wtP (N++[(g,o,x)]):=by rw[wtP_app];simp[wtP]
  have f4:=BJ x;have f5:=Bz x.args;have hql:=wtP_len N;refine go ?_;have ht:((((N++[(g,o,x)]).length:Nat):Int)-1).toNat=N.length:=by omega
  rw[ht];refine AE (clone_ok W aa cc x.args P _ a0 b8 U) rfl ?_;rintro u w4⟨a,o4⟩;have hu:Sl (fun b=>W.heap.size<=b) w4 u x.args.length P.flatten:=Aa o4 fun b S=>(Ad o4 S).1;obtain⟨D,K,rfl,u1,u2,u3,u4⟩:=id hu;have c1:=H.ext a;have a7:=S.E a O;have e9:(Value.slice (some ⟨z,B,none⟩) N.length j).ownBlock≠some R.heap.size:=fun e=>by have:=(Ad H.own e).1;omega
  have e2:=S.lt;have zW:=kW.size;have f0:R.heap.size<W.heap.size:=M.D.lt;have b9:=S.un a6;have c0:=(List.getElem?_eq_some_iff.1 b9).1;refine go ?_;refine AR (v:=.slice D x.args.length K) rfl rfl rfl a7 c0 (fun w5 s=>?_)
  have c8:∀(n:Nat)(L:List (LV)),L.flatten.length=n*5->Sl (cok X w.heap.size R.heap.size (Value.slice (some ⟨z,B,none⟩) N.length j)) w4 (.slice aa x.args.length cc) n L.flatten->Sl (cok X w.heap.size R.heap.size (Value.slice (some ⟨z,B,none⟩) N.length j)) w5 (.slice D x.args.length K) n L.flatten:=fun n L hL h=>by
   refine cpy_of (a0.ext a) (by rw[CM 5 P a3,a4]) ?_ n L hL h;exact(hu.E s.E (fun b S l=>by rw[List.mem_singleton]at l;omega)).mono fun b S=>⟨.inr U,by omega,fun e=>by have:=(Ad H.own e).2;omega⟩
  have hR:=Rtg.of_put a7 (a.cell a6 O) ⟨_,_,_,rfl⟩ s c8;have c2:=c1.store hR s hok.2.1 hok.2.2;have c7:w5.cell? ⟨g,o+4,none⟩=some (.slice D x.args.length K):=hR.new;have e5:Ext w w5:=(kW.trans a).E s.E Dw
  obtain⟨Q,q,b4⟩:∃Q q,0<x.args.length->D=some ⟨Q,q,none⟩/\w.heap.size<=Q/\∃T L,Blk w5 Q T L:=by
   by_cases f3:x.args.length=0
   ·exact⟨0,0,fun h=>by omega⟩
   ·rcases o4.2 with⟨_,h⟩|⟨g',e0,b5,e,h1,h2, -⟩
    ·omega
    ·cases e;have hne:g'≠g:=fun e=>by omega
     have c4:Blk w4 g' 36 b5.toList:=by simpa[Blk]using h2
     exact⟨g',0,fun _=>⟨rfl,by omega,_,_,c4.E s.E (by simpa using hne)⟩⟩
  refine go ?_
  refine Ah (α:=Nat×Value) (fun y=>[(1,pt w.heap.size),(2,pt R.heap.size),(3,y.2),(4,.pointer (some ⟨g,o,none⟩)),(33,iV (x.args.length:Int)),(34,iV (y.1:Int))])
   (fun y V=>y.1<=x.args.length/\Ext w V/\V.cell? ⟨g,o+4,none⟩=some (.slice D x.args.length K)/\(0<x.args.length->∃T L,Blk V Q T L)/\Cpy X w.heap.size r.heap.size R.heap.size 36 zero5 [] ((g,o,x)::rs) (N++chP Q q 0 (x.args.take y.1)) V y.2) (fun y=>x.args.length-y.1) (0,.slice (some ⟨z,B,none⟩) N.length j) ag ⟨by simp,e5,c7,fun h=>(b4 h).2.2,by simpa[chP]using c2⟩ ?_
  rintro⟨k,v⟩V fr⟨hk,kV,a1,a9,i⟩;simp only at hk a1 i;refine go ?_;by_cases hlt:k<x.args.length
  ·obtain⟨y,F⟩:=gl hlt;obtain⟨rfl,d5, -⟩:=b4 U;have b2:=i.all (g,o,x) (.inl O);obtain⟨f6,f7,e,b0⟩:=b2.child a1 F;cases e;have hgo:=b2.1.2.2;have d6:=b0.1.2.2;refine go ?_;refine CT (out:=[.pointer (some ⟨Q,q+k*5,none⟩)]) rfl U rfl rfl (fun w6 t=>?_);have e3:(N++chP Q q 0 (x.args.take k)).length=N.length+k:=by rw[List.length_append,chP_len,List.length_take];omega
   have hX:∀y,y∈v.ownBlock.toList->v.ownBlock=some y:=fun y F=>Option.mem_toList.1 F;have z6:=t.size;have zV:r.heap.size<=V.heap.size:=by have:=i.D.lt;omega
   refine Ap (v:=v) rfl rfl (Ae i.own t.E) (Aa (ok:=AV) (t.own (n:=1) (size:=1) rfl D3 (Nat.le_refl _)) fun _ _=>trivial) U rfl rfl (AW rfl) U U U (fun v8 w8 E=>?_);have b7:=i.push (p:=(Q,q+k*5,y)) t.E E b0 ⟨d5,a9 U⟩ fun e=>by have:=(Ad i.own e).1;omega
   have c3:∀y∈v.ownBlock.toList,w.heap.size<=y:=fun y F=>by have:=(Ad i.own (hX y F)).1;have:=M.ab;omega
   refine go ?_;refine⟨(k+1,v8),⟨rfl,ag,⟨by simp only;omega,(kV.trans t.E).E E.E c3,E.E.cell (t.E.cell a1 O) (fun l=>hgo (hX _ l)),fun h=>?_,?_⟩⟩,by simp only;omega⟩
   ·obtain⟨T,L,S⟩:=a9 h;exact⟨T,L,(S.E t.E O).E E.E fun l=>d6 (hX _ l)⟩
   ·simp only;have htk:x.args.take (k+1)=x.args.take k++[y]:=by rw[List.take_add_one,F];rfl
    rw[htk,chP_snoc,List.length_take,Nat.min_eq_left hk,Nat.zero_add,<-List.append_assoc];exact b7
  ·obtain rfl:k=x.args.length:=by omega
   rw[List.take_length]at i;refine go ?_;have f1:wtP (N++chP Q q 0 x.args)=wtP N+szL x.args:=by rw[wtP_app,chP_wt]
   exact⟨(N++chP Q q 0 x.args,(g,o,x)::rs,v),⟨rfl,ag,⟨kV,fun p hp=>List.mem_cons_of_mem _ (hr p hp),by simp only;omega,i⟩⟩,by simp only;omega⟩
 ·have G:ps=[]:=Classical.not_not.1 G;subst G;have hl:([]:List Pn).length=0:=rfl;refine go ?_;obtain⟨⟨hok, -, -⟩,d,C,hc,hff⟩:=M.all (w.heap.size,0,f) (.inl (hr _ O));obtain⟨d',e,_,b3⟩:=hff.cells;obtain rfl:d=d':=by simpa using e
  refine AQ (L:=d) rfl C hc ?_;refine AH (cs:=d) rfl rfl C b3 M.D D0 (fun w9 p9=>?_);have a8:=p9.D;rw[BV zero5 d (by rw[C];rfl)]at a8;refine go ?_;exact AU rfl rfl C a8.cells ⟨kW.E p9.E Dw,(hff.E p9.E (fun b S l=>by rw[List.mem_singleton]at l;exact S.2.1 l)).mono fun b S=>S.1⟩
theorem mapStart_ok(w:World)(a:Option Addr)(c:Nat)(l:List (Rqm))(F:FuncId)[hF:AF Zp F](v1 v2:LV)(g:Rqm->Dty)(M:SlAt reqR AV w (.slice a l.length c) l)(hn:l.length<=1000)
  (K:∀(W:World)(d:LV)(x:Rqm),x∈l->Ext w W->(reqR).fits (fun b=>b<w.heap.size) W d x->Fn Zp F (v1++[.agg d.toArray]++v2) W fun u m=>∃e:LV,u=.agg e.toArray/\Ext W m/\(dtyR).fits (fun b=>b<w.heap.size\/W.heap.size<=b) m e (g x)):
  Fn Zp 58 [.slice a l.length c,.func (.func F) v1.toArray v2.toArray] w fun u w'=>Ext w w'/\SlAt dtyR AV w' u (l.map g):=by
 have D:=(M.lt (show 0<(reqR).size by decide)).mono (ok':=fun b=>b<w.heap.size) fun b S=>S.2;have a1:(dtyR).size=19:=rfl;refine AG Tryz.func58 rfl Tryz.ntmps58 (go ?_);refine W_make0S (n:=l.length) (DJ _ _) rfl rfl rfl rfl U U (fun w1 n1 z1 o1=>go ?_);refine Ah (α:=Nat×Value) (fun y=>[(1,.func (.func F) v1.toArray v2.toArray),(5,y.2),(11,.slice a l.length c),(12,iV (l.length:Int)),(13,iV (y.1:Int))]) (fun y W=>y.1<=l.length/\Ext w W/\w.heap.size<W.heap.size/\Acc AV dtyR 40 19 w.heap.size W y.2 ((l.take y.1).map g)) (fun y=>l.length-y.1) (0,.slice (sm w.heap.size) 0 l.length) ag ⟨by omega,n1,by omega,⟨[],o1,RsAt.nil⟩⟩ ?_;rintro⟨k,v⟩W fr⟨Q,V,zW,E⟩;simp only at Q V E;refine go ?_;by_cases R:k<l.length
 ·obtain⟨x,T⟩:=gl R;obtain⟨b,o,d,rfl,S,C,G⟩:=D.at (sz:=8) rfl T;have r:=C.E V O;have I:=(reqR).E G V (fun _ _=>by simp);have j:d.length=8:=(reqR).len G;have z:=(reqR).one G;refine go ?_;refine AQ (L:=d) rfl j r ?_;refine Au (cs:=d) rfl j rfl z (fun w2 N=>?_);have q:=N.D;refine go ?_;refine Bp rfl q j ?_;have z2:=N.size;refine Az (v1:=v1) (v2:=v2) (vs:=[.agg d.toArray]) rfl (K w2 d x (List.mem_of_getElem? T) (V.trans N.E) ((reqR).E I N.E (fun _ _=>by simp))) rfl ?_;rintro u w3⟨e,rfl,p,s⟩;exact Ec
 ·exact FT
theorem mapWatch_ok(w:World)(a:Option Addr)(c:Nat)(l:List (Dty))(F:FuncId)[hF:AF Zp F](v1 v2:LV)(g:Dty->Dty×Fml)(M:SlAt dtyR AV w (.slice a l.length c) l)(hn:l.length<=1000)
  (K:∀(W:World)(d:LV)(x:Dty),x∈l->Ext w W->(dtyR).fits (fun b=>b<w.heap.size) W d x->Fn Zp F (v1++[.agg d.toArray]++v2) W fun u m=>∃e:LV,u=.agg e.toArray/\Ext W m/\(wchR).fits (fun b=>b<w.heap.size\/W.heap.size<=b) m e (g x)):
  Fn Zp 39 [.slice a l.length c,.func (.func F) v1.toArray v2.toArray] w fun u w'=>Ext w w'/\SlAt wchR AV w' u (l.map g):=by
 have D:=(M.lt (show 0<(dtyR).size by decide)).mono (ok':=fun b=>b<w.heap.size) fun b S=>S.2;have a1:(wchR).size=24:=rfl;refine AG Tryz.func39 rfl Tryz.ntmps39 (go ?_);refine W_make0S (n:=l.length) (DJ _ _) rfl rfl rfl rfl U U (fun w1 n1 z1 o1=>go ?_);refine Ah (α:=Nat×Value) (fun y=>[(1,.func (.func F) v1.toArray v2.toArray),(5,y.2),(11,.slice a l.length c),(12,iV (l.length:Int)),(13,iV (y.1:Int))]) (fun y W=>y.1<=l.length/\Ext w W/\w.heap.size<W.heap.size/\Acc AV wchR 84 24 w.heap.size W y.2 ((l.take y.1).map g)) (fun y=>l.length-y.1) (0,.slice (sm w.heap.size) 0 l.length) ag ⟨by omega,n1,by omega,⟨[],o1,RsAt.nil⟩⟩ ?_;rintro⟨k,v⟩W fr⟨Q,V,zW,E⟩;simp only at Q V E;refine go ?_;by_cases R:k<l.length
 ·obtain⟨x,T⟩:=gl R;obtain⟨b,o,d,rfl,S,C,G⟩:=D.at (sz:=19) rfl T;have r:=C.E V O;have I:=(dtyR).E G V (fun _ _=>by simp);have j:d.length=19:=(dtyR).len G;have z:=(dtyR).one G;refine go ?_;refine AQ (L:=d) rfl j r ?_;refine Au (cs:=d) rfl j rfl z (fun w2 N=>?_);have q:=N.D;refine go ?_;refine Bp rfl q j ?_;have z2:=N.size;refine Az (v1:=v1) (v2:=v2) (vs:=[.agg d.toArray]) rfl (K w2 d x (List.mem_of_getElem? T) (V.trans N.E) ((dtyR).E I N.E (fun _ _=>by simp))) rfl ?_;rintro u w3⟨e,rfl,p,s⟩;have H:e.length=24:=(wchR).len s;refine AP (out:=e) rfl U (fill_one EQ H) (fun w4 h=>?_);obtain⟨L,P,B⟩:=E.ex;have f:=(N.E.trans p).trans h.E;have z3:=f.size;have z4:=h.size;have z5:=p.size;have a0:((l.take k).map g).length=k:=by rw[List.length_map,List.length_take];omega
  have X:∀b,v.ownBlock=some b->w.heap.size<=b/\b<W.heap.size:=fun b S=>Ad P S;refine Ap (ok:=AV) (v:=v) rfl rfl (Ae P f) (Aa (h.own (n:=1) (size:=24) U D3 (Nat.le_refl _)) fun _ _=>trivial) U Dx U ((wchR).one s) U U U (fun v8 w8 i=>?_);have A:∀y∈v.ownBlock.toList,w.heap.size<=y:=fun y hy=>(Ad P (Option.mem_toList.1 hy)).1;have t:=Acc.push P B f ((wchR).E ((wchR).mono s (ok':=fun b=>AV b/\v.ownBlock≠some b) fun b S=>⟨trivial,fun e=>by have:=X b e;omega⟩) h.E (fun _ _=>by simp)) i;refine go ?_;have z8:=i.E.size;refine⟨(k+1,v8),⟨rfl,ag,⟨by simp only;omega,(V.trans f).E i.E A,by omega,?_⟩⟩,by simp only;omega⟩;simp only;have Z:l.take (k+1)=l.take k++[x]:=by rw[List.take_add_one,T];rfl
  rw[Z,List.map_append];exact t
 ·exact FT
theorem mapNext_ok(w:World)(a:Option Addr)(c:Nat)(l:List (Dty×Fml))(F:FuncId)[hF:AF Zp F](v1 v2:LV)(g:Dty×Fml->Dty)(M:SlAt wchR AV w (.slice a l.length c) l)(hn:l.length<=1000)
  (K:∀(W:World)(d:LV)(x:Dty×Fml),x∈l->Ext w W->(wchR).fits (fun b=>b<w.heap.size) W d x->Fn Zp F (v1++[.agg d.toArray]++v2) W fun u m=>∃e:LV,u=.agg e.toArray/\Ext W m/\(dtyR).fits (fun b=>b<w.heap.size\/W.heap.size<=b) m e (g x)):
  Fn Zp 44 [.slice a l.length c,.func (.func F) v1.toArray v2.toArray] w fun u w'=>Ext w w'/\SlAt dtyR AV w' u (l.map g):=by
 have D:=(M.lt (show 0<(wchR).size by decide)).mono (ok':=fun b=>b<w.heap.size) fun b S=>S.2;have a1:(dtyR).size=19:=rfl;refine AG Tryz.func44 rfl Tryz.ntmps44 (go ?_);refine W_make0S (n:=l.length) (DJ _ _) rfl rfl rfl rfl U U (fun w1 n1 z1 o1=>go ?_);refine Ah (α:=Nat×Value) (fun y=>[(1,.func (.func F) v1.toArray v2.toArray),(5,y.2),(11,.slice a l.length c),(12,iV (l.length:Int)),(13,iV (y.1:Int))]) (fun y W=>y.1<=l.length/\Ext w W/\w.heap.size<W.heap.size/\Acc AV dtyR 40 19 w.heap.size W y.2 ((l.take y.1).map g)) (fun y=>l.length-y.1) (0,.slice (sm w.heap.size) 0 l.length) ag ⟨by omega,n1,by omega,⟨[],o1,RsAt.nil⟩⟩ ?_;rintro⟨k,v⟩W fr⟨Q,V,zW,E⟩;simp only at Q V E;refine go ?_;by_cases R:k<l.length
 ·obtain⟨x,T⟩:=gl R;obtain⟨b,o,d,rfl,S,C,G⟩:=D.at (sz:=24) rfl T;have r:=C.E V O;have I:=(wchR).E G V (fun _ _=>by simp);have j:d.length=24:=(wchR).len G;have z:=(wchR).one G;refine go ?_;refine AQ (L:=d) rfl j r ?_;refine Au (cs:=d) rfl j rfl z (fun w2 N=>?_);have q:=N.D;refine go ?_;refine Bp rfl q j ?_;have z2:=N.size;refine Az (v1:=v1) (v2:=v2) (vs:=[.agg d.toArray]) rfl (K w2 d x (List.mem_of_getElem? T) (V.trans N.E) ((wchR).E I N.E (fun _ _=>by simp))) rfl ?_;rintro u w3⟨e,rfl,p,s⟩;exact Ec
 ·exact FT
theorem dty19{ok:Nat->Prop}{w:World}{c:LV}{x:Dty}(h:dtyR.fits ok w c x):∃q0 q1 q2 q3 q4 H u t T v g m d y e,c=[AK x.req.part,AK x.req.name,iV x.req.kind,q0,q1,q2,q3,q4,iV x.since,H,u,t,T,v,g,m,d,y,e]/\FAt ok w (.agg [q0,q1,q2,q3,q4].toArray) x.req.formula/\FAt ok w (.agg [H,u,t,T,v].toArray) x.first/\FAt ok w (.agg [g,m,d,y,e].toArray) x.now:=by
 obtain⟨q,a,b,rfl,f,I,S,X,W,Q⟩:=dty_cells h;obtain⟨q0,q1,q2,q3,q4,rfl⟩:=Ab f;obtain⟨H,u,t,T,v,rfl⟩:=Ab I;obtain⟨g,m,d,y,e,rfl⟩:=Ab S;exact⟨q0,q1,q2,q3,q4,H,u,t,T,v,g,m,d,y,e,rfl,X,W,Q⟩
theorem dty_of{ok:Nat->Prop}{w:World}{p n:LU}{k t:Int}{f a b:Fml}{q0 q1 q2 q3 q4 H u c T v g m d y e:Value}(X:FAt ok w (.agg [q0,q1,q2,q3,q4].toArray) f)(W:FAt ok w (.agg [H,u,c,T,v].toArray) a)(Q:FAt ok w (.agg [g,m,d,y,e].toArray) b):
  dtyR.fits ok w [AK p,AK n,iV k,q0,q1,q2,q3,q4,iV t,H,u,c,T,v,g,m,d,y,e] ⟨⟨p,n,k,f⟩,t,a,b⟩:=
 ⟨[AK p,AK n,iV k,q0,q1,q2,q3,q4],[H,u,c,T,v],[g,m,d,y,e],rfl,⟨[q0,q1,q2,q3,q4],rfl,rfl,X⟩,⟨rfl,W⟩,⟨rfl,Q⟩⟩
theorem wch_of{ok:Nat->Prop}{w:World}{p n:LU}{k t:Int}{f a b g:Fml}{q0 q1 q2 q3 q4 H u e T v h m i y j d B D S c:Value}(X:FAt ok w (.agg [q0,q1,q2,q3,q4].toArray) f)(W:FAt ok w (.agg [H,u,e,T,v].toArray) a)(Q:FAt ok w (.agg [h,m,i,y,j].toArray) b)(z:FAt ok w (.agg [d,B,D,S,c].toArray) g):
  wchR.fits ok w [AK p,AK n,iV k,q0,q1,q2,q3,q4,iV t,H,u,e,T,v,h,m,i,y,j,d,B,D,S,c] (⟨⟨p,n,k,f⟩,t,a,b⟩,g):=
 ⟨_,[d,B,D,S,c],rfl,dty_of X W Q,⟨rfl,z⟩⟩
theorem wch24{ok:Nat->Prop}{w:World}{c:LV}{x:Dty×Fml}(h:wchR.fits ok w c x):∃q0 q1 q2 q3 q4 H u t T v g m d y e i B D S f,c=[AK x.1.req.part,AK x.1.req.name,iV x.1.req.kind,q0,q1,q2,q3,q4,iV x.1.since,H,u,t,T,v,g,m,d,y,e,i,B,D,S,f]/\FAt ok w (.agg [q0,q1,q2,q3,q4].toArray) x.1.req.formula/\FAt ok w (.agg [H,u,t,T,v].toArray) x.1.first/\FAt ok w (.agg [g,m,d,y,e].toArray) x.1.now/\FAt ok w (.agg [i,B,D,S,f].toArray) x.2:=by
 obtain⟨a,b,rfl,X,⟨k,W⟩⟩:=h;obtain⟨q0,q1,q2,q3,q4,H,u,t,T,v,g,m,d,y,e,rfl,F,j,n⟩:=dty19 X;obtain⟨i,B,D,S,f,rfl⟩:=Ab k;exact⟨q0,q1,q2,q3,q4,H,u,t,T,v,g,m,d,y,e,i,B,D,S,f,rfl,F,j,n,W⟩
theorem watch_ok(w:World)(sa:Option Addr)(sc:Nat)(S:List Sgn)(d:LV)(y:Dty)(x:Int)(b3:Nat->Prop)(hS:SlAt sgnR AV w (.slice sa S.length sc) S)(hd:dtyR.fits b3 w d y)(c9:szF y.req.formula<=1000000)(d0:szF y.first<=1000000)(hG:GF w)(hK:KY w)(hN:10<=w.heap.size):
  Fn Zp 41 [.slice sa S.length sc,.agg d.toArray,iV x] w fun u w'=>∃e:LV,u=.agg e.toArray/\Ext w w'/\wchR.fits (fun b=>b3 b\/w.heap.size<=b) w' e (y,CK S y.now x):=by
 have hone:=dtyR.one hd;have hd:=dtyR.lt hd;obtain⟨M,P,X,r,Q,D,E,F,T,I,g,m,o,q,s,rfl,f1,f2,f3⟩:=dty19 hd;refine AG Tryz.func41 rfl Tryz.ntmps41 (go ?_);refine Ai (L:=[AK y.req.part,AK y.req.name,iV y.req.kind,M,P,X,r,Q,iV y.since,D,E,F,T,I,g,m,o,q,s]) rfl (fun w1 n1=>?_);refine AS (fun w2 N=>?_);have z1:=n1.size;have z2:=N.size;have e2:Ext w w2:=n1.E.trans N.E;have B1:=n1.D.E N.E O;have B2:=N.D;refine go ?_;refine AX (rd 0 5 (.alt 5 (.read 6 (.alt 7 (.alt 8 .done .stop) .stop)) (.alt 7 (.alt 5 (.read 6 (.alt 8 .done .stop)) .stop) .stop))) An Dv (fun H kd G=>⟨Ext H,?_,?_⟩)
 ·exact Ew
 have a0:=B1.E kd O;have d2:=B2.E kd O;have c3:Cells H w.heap.size (0+14) [g,m,o,q,s]:=a0.cells.part 14 5;have G:=e2.trans kd;obtain⟨R,a3⟩:∃R:LV,Blk w2 w1.heap.size 84 R/\R.length=24:=⟨_,B2,rfl⟩;have b1:=a3.1.E kd O;obtain⟨A,hA⟩:∃A:LV,A=[AK y.req.part,AK y.req.name,iV y.req.kind,M,P,X,r,Q,iV y.since,D,E,F,T,I,g,m,o,q,s]:=⟨_,rfl⟩;refine go ?_;refine D_R (v:=.agg [g,m,o,q,s].toArray) rfl rfl (fun V hV=>by refine AQ (L:=[g,m,o,q,s]) rfl rfl (c3.E hV O) ?_;exact AA ⟨rfl,rfl,rfl⟩) ?_;refine go ?_;have a6:=hG.ext G;have a7:=hK.E G O;have a8:=Nat.le_trans hN G.size;have a9:=hS.ext G;have a4:FAt AV H (.agg [g,m,o,q,s].toArray) y.now:=(f3.ext G).mono fun _ _=>trivial
 refine D_leaf (α:=Nat×Value×Value×Value×Value×Value) (.alt 8 .done .stop) (fun u=>[(4,pt w.heap.size),(6,pt w1.heap.size),(7,pt u.1),(14,.agg [AK y.req.part,AK y.req.name,iV y.req.kind,M,P,X,r,Q,iV y.since,D,E,F,T,I,g,m,o,q,s,u.2.1,u.2.2.1,u.2.2.2.1,u.2.2.2.2.1,u.2.2.2.2.2].toArray)])
  (fun u V=>Ext H V/\H.heap.size<=u.1/\(∃R,Blk V u.1 84 R/\R.length=24)/\FAt (fun b=>H.heap.size<=b/\b≠u.1) V (.agg [u.2.1,u.2.2.1,u.2.2.2.1,u.2.2.2.2.1,u.2.2.2.2.2].toArray) (CK S y.now x)) ?_ (fun b2=>?_)
 ·rintro⟨c7,a,z,B,C,i⟩f' V⟨K,h7,⟨z7,B7,b0⟩,fs⟩;simp only at h7 B7 fs;have c8:oneC [a,z,B,C,i]:=fmlR.one (c:=[a,z,B,C,i]) ⟨rfl,fs⟩;have c6:oneC [AK y.req.part,AK y.req.name,iV y.req.kind,M,P,X,r,Q,iV y.since,D,E,F,T,I,g,m,o,q,s,a,z,B,C,i]:=oneC_app (l:=[AK y.req.part,AK y.req.name,iV y.req.kind,M,P,X,r,Q,iV y.since,D,E,F,T,I,g,m,o,q,s]) hone c8;refine D_E rfl ?_;refine AH (cs:=[AK y.req.part,AK y.req.name,iV y.req.kind,M,P,X,r,Q,iV y.since,D,E,F,T,I,g,m,o,q,s,a,z,B,C,i]) rfl rfl rfl c6 B7 (by simp[b0]) (fun W4 p4=>?_);have g4:=p4.D;rw[BV z7 _ (by rw[b0];rfl)]at g4;have zd:=kd.size;have W:Ext H W4:=K.E p4.E Dw;have b5:=G.trans W;have z4:=W.size;have b8:=fs.E p4.E (fun b f j=>by rw[List.mem_singleton]at j;exact f.2 j);have h1:=(a0.E W O);have cq:Cells W4 w.heap.size (0+0+3) [M,P,X,r,Q]:=h1.cells.part 3 5;have d7:=b1.E W O;refine wNl W ?_;refine go ?_;refine AQ (L:=[M,P,X,r,Q]) rfl rfl cq ?_;refine AE (mcopied_ok W4 _ y.req.formula _ (f1.ext b5) c9) rfl ?_;rintro u5 W5⟨k5,r5⟩;obtain⟨d5,rfl,c1,ho5⟩:=r5.cells;obtain⟨u0,u1,u2,u3,u4,rfl⟩:=Ab c1;have g5:=g4.E k5 O;refine go ?_;refine AH (cs:=[u0,u1,u2,u3,u4]) rfl rfl rfl ho5 g5 O (fun W6 p6=>?_);have g6:Blk W6 c7 84 [AK y.req.part,AK y.req.name,iV y.req.kind,u0,u1,u2,u3,u4,iV y.since,D,E,F,T,I,g,m,o,q,s,a,z,B,C,i]:=p6.D;have b4:=k5.any.trans p6.E (fun x h _=>h);have e6:Ext H W6:=(W.trans k5).E p6.E Dw;have b6:=G.trans e6;have d4:c7<W4.heap.size:=g4.lt;have r6:=r5.E p6.E (fun b f j=>by rw[List.mem_singleton]at j;simp only at j;rcases f with f|f<;>omega);have d8:=b4.size;have c0:=a0.E e6 O;have ca:Cells W6 w.heap.size (0+9) [D,E,F,T,I]:=c0.cells.part 9 5;have b9:=(b8.ext k5).E p6.E (fun b f j=>by rw[List.mem_singleton]at j;exact f.2 j);refine go ?_;refine AQ (L:=[D,E,F,T,I]) rfl rfl ca ?_;refine AE (mcopied_ok W6 _ y.first _ (f2.ext b6) d0) rfl ?_;rintro u7 W7⟨k7,r7⟩;obtain⟨d6,rfl,c2,c4⟩:=r7.cells;obtain⟨v0,v1,v2,v3,v4,rfl⟩:=Ab c2;have g7:=g6.E k7 O;refine go ?_;refine AH (cs:=[v0,v1,v2,v3,v4]) rfl rfl rfl c4 g7 O (fun W8 p8=>?_);have g8:Blk W8 c7 84 [AK y.req.part,AK y.req.name,iV y.req.kind,u0,u1,u2,u3,u4,iV y.since,v0,v1,v2,v3,v4,g,m,o,q,s,a,z,B,C,i]:=p8.D;have e8:Ext H W8:=(e6.trans k7).E p8.E Dw;have a1:=G.trans e8;have d1:=b1.E e8 O;refine go ?_;have r8:=(r6.ext k7).E p8.E (fun b f j=>by rw[List.mem_singleton]at j;simp only at j;rcases f with f|f<;>omega);have r9:=r7.E p8.E (fun b f j=>by rw[List.mem_singleton]at j;simp only at j;rcases f with f|f<;>omega);have a5:=(b9.ext k7).E p8.E (fun b f j=>by rw[List.mem_singleton]at j;exact f.2 j);have c5:oneC [AK y.req.part,AK y.req.name,iV y.req.kind,u0,u1,u2,u3,u4,iV y.since,v0,v1,v2,v3,v4,g,m,o,q,s,a,z,B,C,i]:=wchR.one (wch_of (p:=y.req.part) (n:=y.req.name) (k:=y.req.kind) (t:=y.since) (r8.mono fun _ _=>trivial) (r9.mono fun _ _=>trivial) ((f3.ext a1).mono (ok':=AV) fun _ _=>trivial) (a5.mono fun _ _=>trivial));refine AH (cs:=[AK y.req.part,AK y.req.name,iV y.req.kind,u0,u1,u2,u3,u4,iV y.since,v0,v1,v2,v3,v4,g,m,o,q,s,a,z,B,C,i]) rfl rfl rfl c5 d1 (by simp[a3.2]) (fun W9 Z=>?_);have g9:=Z.D;rw[BV R _ (by rw[a3.2];rfl)]at g9;have b7:Ext w W9:=a1.E Z.E Dw;have d3:w1.heap.size<w2.heap.size:=by omega
  refine go ?_;refine AU rfl rfl rfl g9.cells ⟨_,rfl,b7,?_⟩;refine wch_of ((r8.E Z.E ?_).mono ?_) ((r9.E Z.E ?_).mono ?_) (((f3.ext a1).E Z.E ?_).mono ?_) ((a5.lt.E Z.E ?_).mono ?_)
  ·intro b f j;rw[List.mem_singleton]at j;rcases f with f|f<;>omega
  ·intro b f;rcases f with f|f
   ·exact .inl f.1
   ·exact .inr U
  ·intro b f j;rw[List.mem_singleton]at j;rcases f with f|f<;>omega
  ·intro b f;rcases f with f|f
   ·exact .inl f.1
   ·exact .inr U
  ·intro b f j;rw[List.mem_singleton]at j;omega
  ·exact fun b f=>.inl f.1
  ·intro b f j;rw[List.mem_singleton]at j;have:=f.1.1;omega
  ·exact fun b f=>.inr (by have:=f.1.1;have:=G.size;omega)
 refine D_A rfl ?_ ?_
 ·refine AE (Step_ok H sa sc S _ y.now x a9 a4 a6 a7 a8) rfl ?_;rintro u V⟨K,fV⟩;obtain⟨cs,rfl,a2, -⟩:=fV.cells;obtain⟨a,z,B,C,i,rfl⟩:=Ab a2;refine wNl K ?_;refine go ?_;refine D_E rfl ?_;refine AS (fun V2 N=>?_);refine wNl (K.trans N.E) ?_;have:=K.size;have:=G.size;exact b2 (V.heap.size,a,z,B,C,i) _ _ ag ⟨K.trans N.E,by simp only;omega,⟨_,N.D,rfl⟩,(fV.lt.ext N.E).mono fun b f=>⟨by have:=f.1.1;omega,by have:=f.2;simp only;omega⟩⟩
 ·refine D_E rfl ?_;refine AS (fun V2 N=>?_);have z2:=N.size;refine wNl N.E ?_;refine D_E rfl ?_;refine AE (Step_ok V2 sa sc S _ y.now x (a9.ext N.E) (a4.ext N.E) (a6.ext N.E) (a7.E N.E O) (Nat.le_trans a8 N.E.size)) rfl ?_;rintro u V⟨K,fV⟩;obtain⟨cs,rfl,a2, -⟩:=fV.cells;obtain⟨a,z,B,C,i,rfl⟩:=Ab a2;refine wNl (N.E.trans K) ?_;refine go ?_;have:=G.size;exact b2 (H.heap.size,a,z,B,C,i) _ _ ag ⟨N.E.trans K,Nat.le_refl _,⟨_,N.D.E K O,rfl⟩,fV.mono fun b f=>⟨by have:=f.1;omega,by have:=f.1;simp only;omega⟩⟩
theorem req8{ok:Nat->Prop}{w:World}{c:LV}{x:Rqm}(h:reqR.fits ok w c x):∃q0 q1 q2 q3 q4,c=[AK x.part,AK x.name,iV x.kind,q0,q1,q2,q3,q4]/\FAt ok w (.agg [q0,q1,q2,q3,q4].toArray) x.formula:=by
 obtain⟨d,rfl,C,K⟩:=h;obtain⟨q0,q1,q2,q3,q4,rfl⟩:=Ab C;exact⟨q0,q1,q2,q3,q4,rfl,K⟩
theorem mstart1_ok(w:World)(tb:Nat)(t:Int)(d:LV)(r:Rqm)(ok0:Nat->Prop)(T:reqR.fits ok0 w d r)(ht:Blk w tb 3 [iV t])(b9:szF r.formula<=1000000)(C:GF w)(P:KY w)(R:10<=w.heap.size):
  Fn Zp 59 [.agg d.toArray,pt tb] w fun u w'=>∃e:LV,u=.agg e.toArray/\Ext w w'/\dtyR.fits (fun b=>ok0 b\/w.heap.size<=b) w' e (strD t r):=by
 have T:=reqR.lt T;obtain⟨g,v,X,l,Q,rfl,f1⟩:=req8 T;refine AG Tryz.func59 rfl Tryz.ntmps59 (go ?_);refine Ai (L:=[AK r.part,AK r.name,iV r.kind,g,v,X,l,Q]) rfl (fun w1 W=>?_);refine AS (fun F N=>?_);have z1:=W.size;have z2:=N.size;have A:Ext w F:=W.E.trans N.E;have B1:=W.D.E N.E O;have B2:=N.D;obtain⟨H,c1,hzl⟩:∃H:LV,Blk F w1.heap.size 40 H/\H.length=19:=⟨_,B2,rfl⟩;clear B2;have cq:Cells F w.heap.size (0+3) [g,v,X,l,Q]:=B1.cells.part 3 5;have a8:=f1.ext A;refine go ?_;refine AQ (L:=[g,v,X,l,Q]) rfl rfl cq ?_;refine AE (gkernel_ok F _ r.formula (a8.mono fun _ _=>trivial) (C.ext A) (P.E A O) (Nat.le_trans R A.size)) rfl ?_;rintro u w3⟨cu,rfl,k3,fk⟩;obtain⟨M,rfl,hcs,b7⟩:=fk.cells;obtain⟨y0,y1,y2,y3,y4,rfl⟩:=Ab hcs;refine go ?_;refine Au (cs:=[y0,y1,y2,y3,y4]) rfl rfl Dx b7 (fun w4 E=>?_);have z4:=E.size;have G:=k3.trans E.E;have e4:=A.trans G;have a9:=fk.ext E.E;have B4:=E.D;have V:=B1.E G O;have a7:Cells w4 w.heap.size (0+3) [g,v,X,l,Q]:=V.cells.part 3 5;refine go ?_;refine AQ (L:=[g,v,X,l,Q]) rfl rfl a7 ?_;refine AE (mcopied_ok w4 _ r.formula _ (f1.ext e4) b9) rfl ?_;rintro u5 w5⟨i,r5⟩;obtain⟨c5,rfl,hc5,b5⟩:=r5.cells;obtain⟨f,m,D,z,s,rfl⟩:=Ab hc5;have B15:=V.E i O;have e5:=e4.trans i;refine go ?_;refine AH (cs:=[f,m,D,z,s]) rfl rfl rfl b5 B15 O (fun w6 c=>?_);have a5:Blk w6 w.heap.size 38 [AK r.part,AK r.name,iV r.kind,f,m,D,z,s]:=c.D;have e6:Ext w w6:=e5.E c.E O;have d0:=G.size;have z5:=i.size;have z6:=c.size;have z3:=k3.size;have a6:=(B4.E i O).E c.E Dw;have c2:=((c1.E G O).E i O).E c.E Dw;have r6:=r5.E c.E (fun b S y=>by rw[List.mem_singleton]at y;rcases S with S|S<;>omega);have fk6:=(a9.ext i).E c.E (fun b S y=>by rw[List.mem_singleton]at y;omega);have b8:=ht.E e6 O;refine go ?_;refine AX (rd 0 3 (.read 4 (.alt 3 (.alt 5 (.read 6 (.alt 7 .done .stop)) .stop) .stop))) An Dv (fun wd I ed=>⟨Keep [w1.heap.size] wd,?_,?_⟩)
 ·exact FK
 have c3:=a5.E I O;have c4:=a6.E I O;have c8:=b8.E I O;have c9:=ht.lt;refine go ?_;have a:=e6.trans I;have fkd:=(fk6.ext I).mono (ok':=AV) fun _ _=>trivial;refine D_E rfl ?_;refine AE (BN wd _ _ fkd (C.ext a) (P.E a O) (Nat.le_trans R a.size)) rfl ?_;rintro ua Va⟨Z,fa⟩;obtain⟨c6,rfl,hca, -⟩:=fa.cells;obtain⟨a0,a1,a2,a3,a4,rfl⟩:=Ab hca;refine wNl Z.any ?_;refine D_E rfl ?_;have K:=a.trans Z;refine AE (BN Va _ _ (fkd.ext Z) (C.ext K) (P.E K O) (Nat.le_trans R K.size)) rfl ?_;rintro ub Vb⟨o,B⟩;obtain⟨c7,rfl,hcb, -⟩:=B.cells;obtain⟨b0,b1,b2,b3,b4,rfl⟩:=Ab hcb;have eb:=K.trans o;have q:=Z.trans o;refine wNl q.any ?_;refine go ?_;refine D_E rfl ?_;have c0:=(c2.E I O).E q O;have rb:=(r6.ext I).ext q;have fab:=fa.ext o;have zd:=I.size;have za:=Z.size;have b6:oneC [AK r.part,AK r.name,iV r.kind,f,m,D,z,s,iV t,a0,a1,a2,a3,a4,b0,b1,b2,b3,b4]:=dtyR.one (dty_of (p:=r.part) (n:=r.name) (k:=r.kind) (t:=t) (rb.mono (ok':=AV) fun _ _=>trivial) (fab.mono fun _ _=>trivial) (B.mono fun _ _=>trivial));refine AH (cs:=[AK r.part,AK r.name,iV r.kind,f,m,D,z,s,iV t,a0,a1,a2,a3,a4,b0,b1,b2,b3,b4]) rfl rfl rfl b6 c0 (by simp[hzl]) (fun W9 j=>?_);have g9:=j.D;rw[BV H _ (by rw[hzl];rfl)]at g9;have e9:Ext w W9:=eb.E j.E Dw;refine wNl (q.any.trans j.E (fun x h _=>h)) ?_;refine go ?_;refine AU rfl rfl rfl g9.cells ⟨_,rfl,e9,?_⟩;refine dty_of ((rb.E j.E ?_).mono ?_) ((fab.E j.E ?_).mono ?_) ((B.E j.E ?_).mono ?_)
 ·intro b S y;rw[List.mem_singleton]at y;rcases S with S|S<;>omega
 ·intro b S;rcases S with S|S
  ·exact .inl S.1
  ·exact .inr U
 ·intro b S y;rw[List.mem_singleton]at y;omega
 ·exact fun b S=>.inr U
 ·intro b S y;rw[List.mem_singleton]at y;omega
 ·exact fun b S=>.inr U
theorem tick1_ok(w:World)(n T:Nat)(h:Option Addr)(K:Nat)(S:List Sgn)(d:LV)(y:Dty)(x:Int)(o:Nat->Prop)(f:Blk w n 22 [.slice h S.length K])(P:Blk w T 3 [iV x])(j:SlAt sgnR AV w (.slice h S.length K) S)(C:dtyR.fits o w d y)(G:szF y.req.formula<=1000000)(a:szF y.first<=1000000)(q:GF w)(s:KY w)(t:10<=w.heap.size):
  Fn Zp 40 [.agg d.toArray,pt n,pt T] w fun u w'=>∃e:LV,u=.agg e.toArray/\Ext w w'/\wchR.fits (fun b=>o b\/w.heap.size<=b) w' e (y,CK S y.now x):=by
 have v:d.length=19:=dtyR.len C;have B:=dtyR.lt C;refine AG Tryz.func40 rfl Tryz.ntmps40 (go ?_);refine Ai (L:=d) rfl (fun R E=>?_);refine AS (fun i N=>?_);have c:=E.size;have M:=N.size;have A:Ext w i:=E.E.trans N.E;have k:=E.D.E N.E O;have r:=N.D;obtain⟨X,H,p⟩:∃X:LV,Blk i R.heap.size 84 X/\X.length=24:=⟨_,r,rfl⟩;clear r;have z:=f.E A O;have I:=P.E A O;refine go ?_;refine Bp rfl k v (go ?_);refine AE (watch_ok i h K S d y x _ (j.ext A) (dtyR.ext B A) G a (q.ext A) (s.E A O) (Nat.le_trans t A.size)) rfl ?_;rintro u Q⟨e,rfl,g,F⟩;have l:e.length=24:=wchR.len F;refine AH (cs:=e) rfl rfl l (wchR.one F) (H.E g O) U (fun W m=>?_);have V:=m.D;rw[BV X _ U]at V;refine go ?_;refine AU rfl rfl l V.cells ⟨_,rfl,(A.trans g).E m.E Dw,wchR.mono (wchR.E F m.E ?_) ?_⟩
 ·intro b f D;rw[List.mem_singleton]at D;rcases f with f|f<;>omega
 ·intro b f;rcases f with f|f
  ·exact .inl f.1
  ·exact .inr U
theorem gone_ok(w:World)(d:LV)(y:Dty×Fml)(h:wchR.fits AV w d y):Fn Zp 43 [.agg d.toArray] w fun u w'=>u=.bool (decide (y.2.op=0))/\Ext w w':=by
 obtain⟨i,j,X,r,Q,H,a,t,T,v,g,m,b,c,e,k,B,D,S,f,rfl, -, -, -,C⟩:=wch24 h;obtain rfl:=C.op0;refine AG Tryz.func43 rfl Tryz.ntmps43 (go ?_);refine Ai (L:=[AK y.1.req.part,AK y.1.req.name,iV y.1.req.kind,i,j,X,r,Q,iV y.1.since,H,a,t,T,v,g,m,b,c,e,iV y.2.op,B,D,S,f]) rfl (fun R E=>go ?_);by_cases s:y.2.op=0
 ·rw[s]at E;refine go ?_;exact AB rfl ⟨by rw[decide_eq_true s];rfl,E.E⟩
 ·refine go ?_;exact AB rfl ⟨by rw[decide_eq_false s];rfl,E.E⟩
theorem advanced_ok(w:World)(d:LV)(y:Dty×Fml)(M:Nat->Prop)(C:wchR.fits M w d y):Fn Zp 45 [.agg d.toArray] w fun u w'=>∃e:LV,u=.agg e.toArray/\Ext w w'/\dtyR.fits (fun b=>M b\/w.heap.size<=b) w' e (y.1.to y.2):=by
 have C:=wchR.lt C;have a1:=wchR.one C;obtain⟨g,i,X,r,Q,H,c,h,T,v,P,R,W,Z,b4,a,B,D,S,f,rfl,f1,f2, -,A⟩:=wch24 C;refine AG Tryz.func45 rfl Tryz.ntmps45 (go ?_);refine Ai (L:=[AK y.1.req.part,AK y.1.req.name,iV y.1.req.kind,g,i,X,r,Q,iV y.1.since,H,c,h,T,v,P,R,W,Z,b4,a,B,D,S,f]) rfl (fun w1 l=>?_);refine AS (fun o N=>?_);have z1:=l.size;have z2:=N.size;have e2:Ext w o:=l.E.trans N.E;have x:=l.D.E N.E O;have z:=N.D;obtain⟨j,a0,I⟩:∃j:LV,Blk o w1.heap.size 40 j/\j.length=19:=⟨_,z,rfl⟩;clear z;have cc:Cells o w.heap.size (0+19) [a,B,D,S,f]:=x.cells.part 19 5;refine go ?_;refine AQ (L:=[a,B,D,S,f]) rfl rfl cc (go ?_);refine AH (cs:=[a,B,D,S,f]) rfl rfl rfl (fmlR.one ⟨rfl,A⟩) x O (fun s K=>?_);have q:Blk s w.heap.size 84 [AK y.1.req.part,AK y.1.req.name,iV y.1.req.kind,g,i,X,r,Q,iV y.1.since,H,c,h,T,v,a,B,D,S,f,a,B,D,S,f]:=K.D;have ch:Cells s w.heap.size (0+0) [AK y.1.req.part,AK y.1.req.name,iV y.1.req.kind,g,i,X,r,Q,iV y.1.since,H,c,h,T,v,a,B,D,S,f]:=q.cells.part 0 19;have z3:=K.size;have E:Ext w s:=e2.E K.E O;refine go ?_;refine AQ (L:=[AK y.1.req.part,AK y.1.req.name,iV y.1.req.kind,g,i,X,r,Q,iV y.1.since,H,c,h,T,v,a,B,D,S,f]) rfl rfl ch ?_;have G:=dty_of (p:=y.1.req.part) (n:=y.1.req.name) (k:=y.1.req.kind) (t:=y.1.since) (f1.ext E) (f2.ext E) (A.ext E);refine AH (cs:=[AK y.1.req.part,AK y.1.req.name,iV y.1.req.kind,g,i,X,r,Q,iV y.1.since,H,c,h,T,v,a,B,D,S,f]) rfl rfl rfl (dtyR.one G) (a0.E K.E Dw) (by simp[I]) (fun w4 m=>?_);have V:=m.D;rw[BV j _ (by rw[I];rfl)]at V;refine go ?_;refine AU rfl rfl rfl V.cells ⟨_,rfl,E.E m.E Dw,dtyR.mono (dtyR.E G m.E ?_) ?_⟩
 ·intro b F hm;rw[List.mem_singleton]at hm;omega
 ·exact fun b F=>.inl F.1
end Go.Proofs.YtohodbnnhlddpaaGreatDoor
