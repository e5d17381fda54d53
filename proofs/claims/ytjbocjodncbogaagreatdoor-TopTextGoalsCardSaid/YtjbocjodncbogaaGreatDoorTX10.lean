/- TopTextGoals, part 10 of 16: rules, lemmas, walks. Conditions: none. -/
import Derived.Test.YtjbocjodncbogaaGreatDoorTX9
namespace Go.Proofs.YtjbocjodncbogaaGreatDoor
open Go.RowKit
set_option linter.unusedVariables false
def wordsB(r:Rqm):Bool:=(decide (r.kind=1)||decide (r.kind=2))&&BH r.part&&BH r.name
theorem nmI_self{o:List Rqm}{i:Nat}{x:Rqm}(h:o[i]?=some x):∃j,nmI o x.name=some j/\j<=i:=by
 unfold nmI;cases hj:o.findIdx? (fun r=>decide (r.name=x.name))with
 |none=>
  rw[List.findIdx?_eq_none_iff]at hj;have:=hj x (List.mem_of_getElem? h);simp at this
 |some j=>
  refine⟨j,rfl,?_⟩;obtain⟨a,Z,W⟩:=List.findIdx?_eq_some_iff_getElem.1 hj;refine Nat.le_of_not_lt fun d=>?_;have:=W i d;obtain⟨H,rfl⟩:=List.getElem?_eq_some_iff.1 h;simp at this
theorem rule1_ok(w:World)(b L:Nat)(sv:Value)(a:Option Addr)(S:Nat)(o:List Rqm)(i:Nat)(x:Rqm)(V:o[i]?=some x)(y:Blk w b 72 [pt L])(c:Blk w L 25 [sv,.slice a o.length S])(G:SlAt reqR Af w (.slice a o.length S) o)(H:KY w):
  Fn Zp 92 [iV (i:Int),pt b] w fun u w'=>u=iV (if wordsB x=true then 0 else 1)/\w'=w:=by
 have e:=(List.getElem?_eq_some_iff.1 V).1;obtain⟨f,I,d,rfl, -,C,T,P⟩:=G.req V;have n:=T 0 _ rfl;have B:=T 1 _ rfl;have Q:=T 2 _ rfl;unfold wordsB;refine AN Tryz.func92 rfl Tryz.ntmps92 (go ?_);by_cases Z:x.kind=1
 ·refine go ?_;refine AF (Do x.part w H) rfl ?_;rintro _ w⟨rfl,rfl⟩;cases hp1:BH x.part with
  |false=>
   refine go ?_;exact AC rfl ⟨by simp[Z];rfl,rfl⟩
  |true=>
   refine go ?_;refine AF (Do x.name w H) rfl ?_;rintro _ w⟨rfl,rfl⟩;cases hp2:BH x.name with
   |false=>
    refine go ?_;exact AC rfl ⟨by simp[Z];rfl,rfl⟩
   |true=>
    refine go ?_;exact AC rfl ⟨by simp[Z];rfl,rfl⟩
 by_cases W:x.kind=2
 ·refine go ?_;refine AF (Do x.part w H) rfl ?_;rintro _ w⟨rfl,rfl⟩;cases hp1:BH x.part with
  |false=>
   refine go ?_;exact AC rfl ⟨by simp[W];rfl,rfl⟩
  |true=>
   refine go ?_;refine AF (Do x.name w H) rfl ?_;rintro _ w⟨rfl,rfl⟩;cases hp2:BH x.name with
   |false=>
    refine go ?_;exact AC rfl ⟨by simp[W];rfl,rfl⟩
   |true=>
    refine go ?_;exact AC rfl ⟨by simp[W];rfl,rfl⟩
 refine go ?_;exact AC rfl ⟨by simp[Z,W];rfl,rfl⟩
theorem rule2_ok(w:World)(b h c:Nat)(sv:Value)(f:Option Addr)(S:Nat)(o:List Rqm)(i:Nat)(x:Rqm)(a:o[i]?=some x)(y:Blk w b 72 [pt h])(k:Blk w h 25 [sv,.slice f o.length S])(G:SlAt reqR Af w (.slice f o.length S) o)(s:fstM w c o)(I:o.length<=1000):
  Fn Zp 93 [iV (i:Int),pt c,pt b] w fun u w'=>u=iV (if nmI o x.name=some i then 0 else 4)/\Ext w w':=by
 have m:=(List.getElem?_eq_some_iff.1 a).1;obtain⟨z,A,d,rfl, -,p,l,q⟩:=G.req a;have B:=l 1 _ rfl;obtain⟨r,L,E,Q,K⟩:=s;obtain⟨j,T,t⟩:=nmI_self a;have C:=K x.name;rw[T]at C;refine AN Tryz.func93 rfl Tryz.ntmps93 (go ?_);refine Ac (rd 0 12 .done) Ap EO (fun N M H=>⟨Ext N,?_,?_⟩)
 ·exact FQ
 have g:=y.E M O;have n:=E.E M O;have P:=k.E M O;have F:=M.cell B O;have v:=Q.E M O;refine go ?_;apply D_R;rfl;rfl
 ·intro V e;refine W_lookupS rfl rfl (v.E e O) C ?_;exact AA ⟨rfl,rfl,rfl⟩
 rw[T];by_cases m:j<i
 ·refine go ?_;exact AC rfl ⟨by rw[if_neg EP];rfl,M⟩
 ·obtain rfl:j=i:=by omega
  refine go ?_;exact AC rfl ⟨by rw[if_pos rfl];rfl,M⟩
theorem rule3_ok(w:World)(b n:Nat)(X:Option Addr)(W:Nat)(S:List Sgn)(T:Option Addr)(m:Nat)(o:List Rqm)(i:Nat)(x:Rqm)(k:o[i]?=some x)(y:Blk w b 72 [pt n])(z:Blk w n 25 [.slice X S.length W,.slice T o.length m])(l:SlAt sgnR Af w (.slice X S.length W) S)(G:SlAt reqR Af w (.slice T o.length m) o)(p:GF w)(q:KY w)(t:10<=w.heap.size):
  Fn Zp 94 [iV (i:Int),pt b] w fun u w'=>∃e:Int,u=iV e/\Ext w w'/\(e=0↔fmOk S x.formula=true):=by
 have Z:=(List.getElem?_eq_some_iff.1 k).1;obtain⟨H,I,d,rfl, -,C,B,F⟩:=G.req k;obtain⟨f,c,a,s,r,rfl⟩:=Ak C
 have D:Cells w H (I+i*8+3) [f,c,a,s,r]:=fun j u g=>by
  have:=B (3+j) u (by rw[List.getElem?_append_right O];simpa using g)
  rwa [<-Nat.add_assoc]at this
 refine AN Tryz.func94 rfl Tryz.ntmps94 (go ?_);refine Ac (rd 0 12 (.alt 12 (.read 13 .done) .stop)) Ap EO (fun N M R=>⟨Ext N,?_,?_⟩)
 ·exact FQ
 have Q:=y.E M O;have K:=z.E M O;have P:∀V,Ext N V->Cells V H (I+i*8+3) [f,c,a,s,r]:=fun V e=>(D.E M O).E e O;refine go ?_;apply D_R;rfl;rfl
 ·intro V v;refine AQ (L:=[f,c,a,s,r]) rfl rfl (P V v) ?_;exact AA ⟨rfl,rfl,rfl⟩
 refine D_E rfl ?_;refine AF (gtyping_ok N X W S _ x.formula (l.ext M) (F.ext M) (p.ext M) (q.E M O) (Nat.le_trans t M.size)) rfl ?_;rintro _ w5⟨e,rfl,A,E⟩;refine wNl A ?_;refine go ?_;exact AC rfl ⟨e,rfl,M.trans A,E⟩
def reqB(S:List Sgn)(o:List Rqm)(i:Nat):Bool:=match o[i]? with
 |some x=>wordsB x&&decide (nmI o x.name=some i)&&fmOk S x.formula
 |none=>false
def chkB(s:Spc):Bool:=Bk s.sigs&&decide (s.reqs.length<=16)&&(List.range s.reqs.length).all (reqB s.sigs s.reqs)
def FltA(w:World)(B:Nat)(v:Value)(N:Nat)(Q:Prop):Prop:=∃n a,w.ownsRow B 78 2 v n a/\n<=N/\a.length=n*2/\(n=0↔Q)/\(n≠0->∃e:Int,e≠0/\a[1]?=some (iV e))
theorem FltA.push{w':World}{B N n:Nat}{E:Value}{xs:LV}{q:Prop}{k:Value}{e:Int}(Z:n<=N)(W:xs.length=n*2)(c:n≠0->∃e:Int,e≠0/\xs[1]?=some (iV e))(a:w'.ownsRow B 78 2 E (n+1) (xs++[k,iV e]))(P:e≠0)(K:¬q):FltA w' B E (N+1) q:=by
 refine⟨n+1,_,a,by omega,by simp[W];omega,by simp[K],fun _=>?_⟩;by_cases I:n=0
 ·subst I;have:xs=[]:=List.eq_nil_of_length_eq_zero U;subst this;exact⟨e,P,rfl⟩
 ·obtain⟨b,d,f⟩:=c I;exact⟨b,d,by rw[List.getElem?_append_left U];exact f⟩
theorem made2:(madeCells (Value.agg #[iV 0,iV 0]).cells (1*2)).toList=[iV 0,iV 0]:=by kernel_rfl
theorem check_ok(w:World)(sa:Option Addr)(sc:Nat)(T:Option Addr)(I:Nat)(s:Spc)(hS:SlAt sgnR Af w (.slice sa s.sigs.length sc) s.sigs)(Q:SlAt reqR Af w (.slice T s.reqs.length I) s.reqs)(hG:GF w)(hK:KY w)(hN:10<=w.heap.size):
  Fn Zp 10 [.agg #[.slice sa s.sigs.length sc,.slice T s.reqs.length I]] w fun u w'=>Ext w w'/\FltA w' w.heap.size u 16 (chkB s=true):=by
 obtain⟨S,o⟩:=s;simp only at hS Q;obtain⟨_,_,_,hrl⟩:=Q.len;refine AN Tryz.func10 rfl Tryz.ntmps10 (go ?_);refine A3 (L:=[.slice sa S.length sc,.slice T o.length I]) rfl (fun w1 n1=>?_);have z1:=n1.size;have b1:=n1.D;refine go ?_;refine AF (sigValid_ok w1 _ S (hS.ext n1.E) (hK.E n1.E O)) rfl ?_;rintro _ w3⟨rfl,k3⟩;have z3:=k3.size;have e3:=n1.E.trans k3;have b3:=b1.E k3 O;cases hv:Bk S with
 |false=>
  refine go ?_;have hq:(1:Nat)=0↔chkB ⟨S,o⟩=true:=by simp[chkB,hv]
  refine AP (out:=[iV (-1),iV 1]) rfl U Em (fun w5 n5=>?_);refine go ?_;exact AC rfl ⟨e3.trans n5.E,1,_,n5.own (n:=1) (size:=2) rfl EW U,by omega,rfl,hq,fun _=>⟨1,by omega,rfl⟩⟩
 |true=>
 refine go ?_;by_cases b2:16<o.length
 ·refine go ?_;have hq:(1:Nat)=0↔chkB ⟨S,o⟩=true:=by simp[chkB,hv];omega
  refine AP (out:=[iV (-1),iV 2]) rfl U Em (fun w5 n5=>?_);refine go ?_;exact AC rfl ⟨e3.trans n5.E,1,_,n5.own (n:=1) (size:=2) rfl EW U,by omega,rfl,hq,fun _=>⟨2,by omega,rfl⟩⟩
 refine go ?_;refine AF (rules_ok w3 w.heap.size _ T I o b3 (Q.ext e3) U) rfl ?_;rintro _ w4⟨g,b,F,rfl,c,bg,bp,bm⟩;have z4:=c.size;have e4:=e3.trans c;have b4:=b3.E c O;refine go ?_
 refine Ar (α:=Nat×Value) (fun y=>[(1,pt w.heap.size),(3,y.2),(4,.slice (sm g) 3 3),(24,iV (o.length:Int)),(25,iV (y.1:Int))])
  (fun y W=>y.1<=o.length/\Ext w W/\Ext w4 W/\FltA W w4.heap.size y.2 y.1 (∀i<y.1,reqB S o i=true)) (fun y=>o.length-y.1) (0,.slice none 0 0) ag ⟨by simp,e4,Ext.refl _,0,[],⟨rfl,.inl ⟨rfl,rfl⟩⟩,Nat.le_refl _,rfl,by simp,by simp⟩ ?_
 rintro⟨k,v⟩W fr⟨a9,X,M,N⟩;simp only at a9 X M N;have bW:=b4.E M O;have a4:=bg.E M O;have a5:=bp.E M O
 have a7:∀V,Ext W V->fstM V F o:=fun V f=>by
  obtain⟨r,L,h1,h2,h3⟩:=bm;exact⟨r,L,h1.E (M.trans f) O,h2.E (M.trans f) O,h3⟩
 refine go ?_;by_cases b0:k<o.length
 ·obtain⟨x,hx⟩:=gl b0;have a3:reqB S o k=(wordsB x&&decide (nmI o x.name=some k)&&fmOk S x.formula):=by unfold reqB;rw[hx]
  refine go ?_
  refine Ar (α:=Nat) (fun j=>[(1,pt w.heap.size),(3,v),(4,.slice (sm g) 3 3),(5,iV (k:Int)),(24,iV (o.length:Int)),(25,iV (k:Int)),(28,.slice (sm g) 3 3),(29,iV 3),(30,iV (j:Int))])
   (fun j V=>j<=3/\Ext W V/\(1<=j->wordsB x=true)/\(2<=j->nmI o x.name=some k)/\(3<=j->fmOk S x.formula=true)) (fun j=>3-j) 0 ag ⟨by simp,Ext.refl _,by omega,by omega,by omega⟩ ?_
  rintro j V fr⟨hj,P,h1,h2,h3⟩;refine go ?_;by_cases hj3:j<3
  ·rcases(show j=0\/j=1\/j=2 by omega)with rfl|rfl|rfl
   ·have a1:Cells V g 0 [rulV 92 [pt b]]:=fun i u z=>by
     obtain⟨rfl,rfl⟩:i=0/\u=rulV 92 [pt b]:=by
      cases i with
      |zero=>exact⟨rfl,by simpa using z.symm⟩
      |succ i=>simp at z
     exact(a4.E P O).cell rfl
    refine go ?_;refine AQ (L:=[rulV 92 [pt b]]) rfl rfl a1 ?_;refine AY (L:=[.nilFunc]) (fun V1 R=>?_);refine AI (cs:=[rulV 92 [pt b]]) rfl rfl rfl (AV rfl) R.D O (fun C m=>?_);have a2:Ext V C:=R.E.E m.E O;have bq:Blk C V.heap.size 83 [rulV 92 [pt b]]:=m.D;have f:=P.trans a2;have H:=X.trans f;have a0:=a5.E f O;have K:=bW.E f O;refine go ?_;refine A9 (v1:=[]) (v2:=[pt b]) (vs:=[iV (k:Int)]) rfl (rule1_ok C b w.heap.size _ T I o k x hx a0 K (Q.ext H) (hK.E H O)) rfl ?_;rintro _ _⟨rfl,rfl⟩;by_cases p:wordsB x=true;rotate_left
    ·rw[if_neg p];have B:reqB S o k=false:=by rw[a3];simp[p]
     obtain⟨n,xs,a,d,m,Z,G⟩:=N;refine go ?_;refine AP (out:=[iV (k:Int),iV 1]) rfl U Em (fun V3 l=>?_);have D:=(M.trans f).trans l.E;have a6:=D.size;refine Ax (ok:=Af) (v:=v) rfl rfl (As a (Ext.trans f l.E)) (Aa (l.own (n:=1) (size:=2) rfl EW (Nat.le_refl _)) fun _ _=>trivial) U rfl rfl (AV rfl) U U U (fun v8 w8 q=>?_);have t:∀y∈v.ownBlock.toList,w4.heap.size<=y:=fun y E=>(An a (Option.mem_toList.1 E)).1;refine go ?_;refine⟨(k+1,v8),⟨rfl,ag,⟨by simp only;omega,(e4.trans D).E q.E (fun y E=>by have:=t y E;omega),D.E q.E (fun y E=>by have:=t y E;omega),?_⟩⟩,by simp only;omega⟩;refine FltA.push d m G q.own U (fun h=>?_);have:=h k U;rw[B]at this;cases this
    ·rw[if_pos p];refine go ?_;exact⟨1,⟨rfl,ag,⟨by omega,f,fun _=>p,by omega,by omega⟩⟩,by omega⟩
   ·have a1:Cells V g 1 [rulV 93 [pt F,pt b]]:=fun i u z=>by
     obtain⟨rfl,rfl⟩:i=0/\u=rulV 93 [pt F,pt b]:=by
      cases i with
      |zero=>exact⟨rfl,by simpa using z.symm⟩
      |succ i=>simp at z
     exact(a4.E P O).cell rfl
    refine go ?_;refine AQ (L:=[rulV 93 [pt F,pt b]]) rfl rfl a1 ?_;refine AY (L:=[.nilFunc]) (fun V1 R=>?_);refine AI (cs:=[rulV 93 [pt F,pt b]]) rfl rfl rfl (AV rfl) R.D O (fun C m=>?_);have a2:Ext V C:=R.E.E m.E O;have bq:Blk C V.heap.size 83 [rulV 93 [pt F,pt b]]:=m.D;have f:=P.trans a2;have H:=X.trans f;have a0:=a5.E f O;have K:=bW.E f O;refine go ?_;refine A9 (v1:=[]) (v2:=[pt F,pt b]) (vs:=[iV (k:Int)]) rfl (rule2_ok C b w.heap.size F _ T I o k x hx a0 K (Q.ext H) (a7 C f) U) rfl ?_;rintro _ V4⟨rfl,c⟩;have A:=f.trans c;by_cases p:nmI o x.name=some k
    ·rw[if_pos p];refine go ?_;exact⟨2,⟨rfl,ag,⟨by omega,A,fun _=>h1 U,fun _=>p,by omega⟩⟩,by omega⟩
    ·rw[if_neg p];have B:reqB S o k=false:=by rw[a3];simp[p]
     obtain⟨n,xs,a,d,m,Z,G⟩:=N;refine go ?_;refine AP (out:=[iV (k:Int),iV 4]) rfl U Em (fun V3 l=>?_);have D:=(M.trans A).trans l.E;have a6:=D.size;refine Ax (ok:=Af) (v:=v) rfl rfl (As a (Ext.trans A l.E)) (Aa (l.own (n:=1) (size:=2) rfl EW (Nat.le_refl _)) fun _ _=>trivial) U rfl rfl (AV rfl) U U U (fun v8 w8 q=>?_);have t:∀y∈v.ownBlock.toList,w4.heap.size<=y:=fun y E=>(An a (Option.mem_toList.1 E)).1;refine go ?_;refine⟨(k+1,v8),⟨rfl,ag,⟨by simp only;omega,(e4.trans D).E q.E (fun y E=>by have:=t y E;omega),D.E q.E (fun y E=>by have:=t y E;omega),?_⟩⟩,by simp only;omega⟩;refine FltA.push d m G q.own U (fun h=>?_);have:=h k U;rw[B]at this;cases this
   ·have a1:Cells V g 2 [rulV 94 [pt b]]:=fun i u z=>by
     obtain⟨rfl,rfl⟩:i=0/\u=rulV 94 [pt b]:=by
      cases i with
      |zero=>exact⟨rfl,by simpa using z.symm⟩
      |succ i=>simp at z
     exact(a4.E P O).cell rfl
    refine go ?_;refine AQ (L:=[rulV 94 [pt b]]) rfl rfl a1 ?_;refine AY (L:=[.nilFunc]) (fun V1 R=>?_);refine AI (cs:=[rulV 94 [pt b]]) rfl rfl rfl (AV rfl) R.D O (fun C m=>?_);have a2:Ext V C:=R.E.E m.E O;have bq:Blk C V.heap.size 83 [rulV 94 [pt b]]:=m.D;have f:=P.trans a2;have H:=X.trans f;have a0:=a5.E f O;have K:=bW.E f O;refine go ?_;refine A9 (v1:=[]) (v2:=[pt b]) (vs:=[iV (k:Int)]) rfl (rule3_ok C b w.heap.size sa sc S T I o k x hx a0 K (hS.ext H) (Q.ext H) (hG.ext H) (hK.E H O) (Nat.le_trans hN H.size)) rfl ?_;rintro _ V4⟨e,rfl,c,he⟩;have A:=f.trans c;by_cases h0:e=0
    ·have hx3:=he.1 h0;subst h0;refine go ?_;exact⟨3,⟨rfl,ag,⟨by omega,A,fun _=>h1 U,fun _=>h2 U,fun _=>hx3⟩⟩,by omega⟩
    ·have p:fmOk S x.formula=false:=by rw[<-Bool.not_eq_true,<-he];exact h0
     have B:reqB S o k=false:=by rw[a3];simp[p]
     obtain⟨n,xs,a,d,m,Z,G⟩:=N;refine go ?_;refine AP (out:=[iV (k:Int),iV e]) rfl U Em (fun V3 l=>?_);have D:=(M.trans A).trans l.E;have a6:=D.size;refine Ax (ok:=Af) (v:=v) rfl rfl (As a (Ext.trans A l.E)) (Aa (l.own (n:=1) (size:=2) rfl EW (Nat.le_refl _)) fun _ _=>trivial) U rfl rfl (AV rfl) U U U (fun v8 w8 q=>?_);have t:∀y∈v.ownBlock.toList,w4.heap.size<=y:=fun y E=>(An a (Option.mem_toList.1 E)).1;refine go ?_;refine⟨(k+1,v8),⟨rfl,ag,⟨by simp only;omega,(e4.trans D).E q.E (fun y E=>by have:=t y E;omega),D.E q.E (fun y E=>by have:=t y E;omega),?_⟩⟩,by simp only;omega⟩;refine FltA.push d m G q.own U (fun h=>?_);have:=h k U;rw[B]at this;cases this
  ·obtain rfl:j=3:=by omega
   have B:reqB S o k=true:=by rw[a3,h1 U,h3 U,h2 U];simp
   refine go ?_;obtain⟨n,xs,a,d,m,Z,G⟩:=N;refine⟨(k+1,v),⟨rfl,ag,⟨by simp only;omega,X.trans P,M.trans P,n,xs,As a P,by simp only;omega,m,?_,G⟩⟩,by simp only;omega⟩;rw[Z];refine⟨fun h i hi=>?_,fun h i hi=>h i (by simp only;omega)⟩;simp only at hi;by_cases a8:i=k
   ·rw[a8];exact B
   ·exact h i U
 ·obtain rfl:k=o.length:=by omega
  refine go ?_;obtain⟨n,xs,a,d,m,Z,G⟩:=N;refine AC rfl ⟨X,n,xs,DI a e4.size,by omega,m,?_,G⟩;rw[Z];simp[chkB,hv];omega
structure Two(B:Nat)(W:World)(v1 v2:Value)(l1 l2:LF):Prop where
 o1:∃L,W.ownsRow B 37 5 v1 l1.length L.flatten/\FsAt (fun b=>B<=b/\v1.ownBlock≠some b/\v2.ownBlock≠some b) W L l1
 o2:∃L,W.ownsRow B 37 5 v2 l2.length L.flatten/\FsAt (fun b=>B<=b/\v1.ownBlock≠some b/\v2.ownBlock≠some b) W L l2
 ne:∀g,v1.ownBlock=some g->v2.ownBlock≠some g
theorem Two.start(B:Nat)(W:World):Two B W (.slice none 0 0) (.slice none 0 0) [] []:=
 ⟨⟨[],⟨rfl,.inl ⟨rfl,rfl⟩⟩,FsAt.nil _ _⟩,⟨[],⟨rfl,.inl ⟨rfl,rfl⟩⟩,FsAt.nil _ _⟩,fun g h=>by simp[Value.ownBlock]at h⟩
theorem Two.swap{B:Nat}{W:World}{v1 v2:Value}{l1 K:LF}(h:Two B W v1 v2 l1 K):Two B W v2 v1 K l1:=by
 obtain⟨⟨c,a,I⟩,⟨d,T,N⟩,z⟩:=h;exact⟨⟨d,T,N.mono fun b S=>⟨S.1,S.2.2,S.2.1⟩⟩,⟨c,a,I.mono fun b S=>⟨S.1,S.2.2,S.2.1⟩⟩,fun g Z e=>z g e Z⟩
theorem Two.sl{B:Nat}{W:World}{v1 v2:Value}{l1 K:LF}(h:Two B W v1 v2 l1 K):∃a c,v1=.slice a l1.length c/\SlAt fmlR Af W v1 l1:=by
 obtain⟨⟨S,b,I⟩, -, -⟩:=h;have F:Sl Af W v1 l1.length S.flatten:=Aa b fun _ _=>trivial;obtain⟨a,c,e,_⟩:=id F;exact⟨a,c,e,a,c,S,e,F,I.1,fun i d x C V=>⟨I.2.1 d (List.mem_of_getElem? C),(I.2.2 i d x C V).mono fun _ _=>trivial⟩⟩
theorem Two.push{B:Nat}{W Z m:World}{v1 v2 R:Value}{l1 K:LF}{c:List (LV)}{cs:LV}{f:Fml}(h:Two B W v1 v2 l1 K)(a:W.ownsRow B 37 5 v1 l1.length c.flatten)(I:FsAt (fun b=>B<=b/\v1.ownBlock≠some b/\v2.ownBlock≠some b) W c l1)
  (H:Ext W Z)(P:FAt (fun b=>W.heap.size<=b) Z (.agg cs.toArray) f)(r:cs.length=5)(v:B<=W.heap.size)(q:Apd Z m B 37 5 v1 R (l1.length+1) (c.flatten++cs)):Two B m R v2 (l1++[f]) K:=by
 obtain⟨-,⟨d,T,p⟩,o⟩:=h;have z:=H.size;have k:∀g,v1.ownBlock=some g->g<W.heap.size:=fun g w=>(An a w).2;have n:∀g,v2.ownBlock=some g->g<W.heap.size:=fun g w=>(An T w).2
 have i:∀g,R.ownBlock=some g->v1.ownBlock=some g\/g=Z.heap.size:=fun g w=>by
  rcases q.D with e|e
  ·exact .inl (by rw[<-e];exact w)
  ·rw[e]at w;exact .inr (Option.some.inj w).symm
 have j:∀y,y∈v1.ownBlock.toList->v1.ownBlock=some y:=fun y E=>Option.mem_toList.1 E
 have u:∀{L:List (LV)}{l:LF},FsAt (fun b=>B<=b/\v1.ownBlock≠some b/\v2.ownBlock≠some b) W L l->FsAt (fun b=>B<=b/\R.ownBlock≠some b/\v2.ownBlock≠some b) m L l:=fun P=>by
  refine((P.lt.ext H).E q.E fun b S s=>S.1.2.1 (j b s)).mono fun b S=>⟨S.1.1,fun e=>?_,S.1.2.2⟩;rcases i b e with e|e
  ·exact S.1.2.1 e
  ·have:=S.2;omega
 have t:FAt (fun b=>B<=b/\R.ownBlock≠some b/\v2.ownBlock≠some b) m (.agg cs.toArray) f:=by
  refine(P.lt.E q.E fun b S s=>by have:=k b (j b s);have:=S.1;omega).mono fun b S=>⟨by have:=S.1;omega,fun e=>?_,fun e=>by have:=n b e;have:=S.1;omega⟩;rcases i b e with e|e
  ·have:=k b e;have:=S.1;omega
  ·have:=S.2;omega
 refine⟨⟨c++[cs],?_,(u I).snoc t r⟩,⟨d,Ai (As T H) q.E fun g w s=>o g (j g s) w,u p⟩,fun g w N=>?_⟩
 ·have:=q.own;simpa using this
 ·rcases i g w with e|e
  ·exact o g e N
  ·have:=n g N;omega
def asmB(r:Rqm):Bool:=decide (r.kind=1)
def partsF(o:List Rqm):LF:=(o.filter asmB).map fun r=>notR (kernR r.formula).1
def guarsF(o:List Rqm):LF:=(o.filter fun r=> !asmB r).map fun r=>(kernR r.formula).1
def D7(s:Spc):Fml:=if chkB s=true then(if(conF 5 (guarsF s.reqs)).op=0 then Am else conF 6 (partsF s.reqs++[conF 5 (guarsF s.reqs)]))else Am
theorem filt_snoc{l:List Rqm}{k:Nat}{x:Rqm}(p:Rqm->Bool)(h:l[k]?=some x):(l.take (k+1)).filter p=(l.take k).filter p++if p x=true then[x]else[]:=by
 rw[List.take_add_one,h,List.filter_append];by_cases y:p x=true<;>simp[y]
theorem parts_snoc{l:List Rqm}{k:Nat}{x:Rqm}(h:l[k]?=some x):partsF (l.take (k+1))=partsF (l.take k)++(if x.kind=1 then[notR (kernR x.formula).1]else[])/\guarsF (l.take (k+1))=guarsF (l.take k)++if x.kind=1 then[]else[(kernR x.formula).1]:=by
 unfold partsF guarsF;rw[filt_snoc _ h,filt_snoc _ h,List.map_append,List.map_append];by_cases Z:x.kind=1<;>simp[asmB,Z]
theorem parts_len(l:List Rqm)(k:Nat):(partsF (l.take k)).length<=k/\(guarsF (l.take k)).length<=k:=by
 have Z:=List.length_filter_le asmB (l.take k);have W:=List.length_filter_le (fun r=> !asmB r) (l.take k);rw[List.length_take]at Z W;exact⟨by unfold partsF;rw[List.length_map];omega,by unfold guarsF;rw[List.length_map];omega⟩
theorem FAt.op0{ok:Nat->Prop}{w:World}{m p x z g:Value}{f:Fml}(h:FAt ok w (.agg [m,p,x,z,g].toArray) f):m=iV f.op:=by
 obtain⟨W,e,r,l,b,a,Q⟩:=h.form;simp only[Value.agg.injEq,List.toArray_eq_iff,List.cons.injEq,and_true]at e;exact e.1
theorem loose_op{f:Fml}(h:CB f=true):f.op≠0:=by
 obtain⟨_,_,R⟩:=Dh h;obtain⟨op,k,v,b,a⟩:=f;obtain⟨Z,_,_,_⟩:=DH R;have d:=loose_cases Z;simp only[Fml.op];omega
theorem con_cases(op:Int)(l:LF):conF op l=Am\/(CB (conF op l)=true/\conF op l=joinM op (l.map BR)/\∀x∈l,CB x=true):=by
 unfold conF;by_cases Z:l.all CB=true
 ·rw[if_pos Z];by_cases W:CB (joinM op (l.map BR))=true
  ·rw[if_pos W];exact .inr ⟨W,rfl,by simpa using Z⟩
  ·rw[if_neg W];exact .inl rfl
 ·rw[if_neg Z];exact .inl rfl
theorem con_zero{op:Int}{l:LF}(h:(conF op l).op=0):conF op l=Am:=by
 rcases con_cases op l with Z|⟨Z,_⟩
 ·exact Z
 ·exact absurd h (loose_op Z)
theorem goal_ok(w:World)(sa:Option Addr)(sc:Nat)(ra:Option Addr)(rc:Nat)(s:Spc)(hS:SlAt sgnR Af w (.slice sa s.sigs.length sc) s.sigs)(hr:SlAt reqR Af w (.slice ra s.reqs.length rc) s.reqs)(hG:GF w)(H:KY w)(hN:10<=w.heap.size):
  Fn Zp 11 [.agg #[.slice sa s.sigs.length sc,.slice ra s.reqs.length rc]] w fun u w'=>∃(c:Value)(e:Int),u=.tuple #[c,iV e]/\Ext w w'/\FAt (fun b=>w.heap.size<=b) w' c (D7 s)/\(e=0↔(D7 s).op≠0)/\(chkB s=true->e=0\/e=2):=by
 refine AN Tryz.func11 rfl Tryz.ntmps11 (go ?_);refine A3 (L:=[.slice sa s.sigs.length sc,.slice ra s.reqs.length rc]) rfl (fun w1 n1=>?_);refine AY (L:=zero5) (fun w2 n2=>?_);have z1:=n1.size;have z2:=n2.size;have r:=n1.E.trans n2.E;have b1:=n1.D.E n2.E O;have b2:=n2.D;refine go ?_;refine AF (check_ok w2 sa sc ra rc s (hS.ext r) (hr.ext r) (hG.ext r) (H.E r O) (Nat.le_trans hN r.size)) rfl ?_;rintro v z⟨k3,n,xs,ho,f1,f5,hz,d6⟩;have z3:=k3.size;have e3:=r.trans k3;have b13:=b1.E k3 O;have a6:=b2.E k3 O;have hs:Sl Af z v n xs:=Aa ho fun _ _=>trivial;obtain⟨va,vc,rfl,f2,f3,hs3,d9⟩:=hs;refine go ?_;unfold D7;by_cases a0:n=0;rotate_left
 ·have T:¬chkB s=true:=fun h=>a0 (hz.2 h);rw[if_neg T];obtain⟨e,he,e0⟩:=d6 a0;obtain⟨b,o,rfl, -,d1⟩:=d9.resolve_left a0;have b4:=d1 1 _ e0;have hbl:=World.block_lt_of_cell? z _ b4;simp only at hbl;have hbo:w2.heap.size<=b:=(An ho rfl).1;refine go ?_;refine Ac (rd 0 5 (.alt 5 (.read 6 .done) .stop)) Ap EO (fun wd kd ed=>⟨Keep [w1.heap.size] wd,?_,?_⟩)
  ·exact Ff
  have q1:∀V,Keep [w1.heap.size] wd V->V.cell? ⟨b,o+0*2+1,none⟩=some (iV e):=fun V k=>k.cell (kd.cell (by simpa using b4) O) EP;have b2d:=a6.E kd O;refine go ?_;refine D_E rfl ?_;refine AI (cs:=zero5) rfl rfl rfl (AV rfl) b2d EV (fun Q i=>?_);refine wNl i.E ?_;refine go ?_;exact BB rfl rfl rfl i.D.cells ⟨_,e,rfl,(e3.trans kd).E i.E EP,FAt.leaf _ _ 0 [] 0 0,by simp[Am,Fml.op,he],fun h=>absurd h T⟩
 ·have T:=hz.1 a0;have f0:s.reqs.length<=16:=by simp[chkB]at T;omega
  rw[if_pos T];subst a0;refine go ?_
  refine Ar (α:=Nat×Value×Value) (fun y=>[(1,pt w.heap.size),(2,pt w1.heap.size),(5,y.2.1),(6,y.2.2),(24,iV (s.reqs.length:Int)),(25,iV (y.1:Int))])
   (fun y W=>y.1<=s.reqs.length/\Ext w W/\Ext z W/\Two z.heap.size W y.2.1 y.2.2 (partsF (s.reqs.take y.1)) (guarsF (s.reqs.take y.1))) (fun y=>s.reqs.length-y.1) (0,.slice none 0 0,.slice none 0 0) ag ⟨by simp,e3,Ext.refl _,Two.start _ _⟩ ?_
  rintro⟨k,v1,v2⟩W fr⟨d4,q,P,m⟩;simp only at d4 q P m;have bW:=b13.E P O;have zW:=P.size;refine go ?_;by_cases d5:k<s.reqs.length
  ·obtain⟨x,hx⟩:=gl d5;obtain⟨rb,ro,d,rfl, -,hd,b5,hf⟩:=hr.req hx;obtain⟨x0,x1,x2,x3,x4,rfl⟩:=Ak hd
   have d0:Cells W rb (ro+k*8+3) [x0,x1,x2,x3,x4]:=fun j u hu=>by
    have:=(b5.E q O) (3+j) u (by rw[List.getElem?_append_right O];simpa using hu)
    rwa [<-Nat.add_assoc]at this
   have d2:=(b5.E q O) 2 _ rfl;refine go ?_;refine AQ (L:=[x0,x1,x2,x3,x4]) rfl rfl d0 ?_;refine AF (gkernel_ok W _ x.formula (hf.ext q) (hG.ext q) (H.E q O) (Nat.le_trans hN q.size)) rfl ?_;rintro u w5⟨cu,rfl,k5,fu⟩;obtain⟨t,rfl,C,b9⟩:=fu.cells;obtain⟨y0,p,D,K,M,rfl⟩:=Ak C;refine go ?_;refine A2 (cs:=[y0,p,D,K,M]) rfl rfl EQ b9 (fun w6 N=>?_);have F:=k5.trans N.E;have R:=q.trans F;have b6:Blk w6 w5.heap.size 37 [y0,p,D,K,M]:=N.D;have e6:=bW.E F O;have Z:=fu.ext N.E;have e7:=F.cell d2 O;refine go ?_;obtain⟨a4,a5⟩:=parts_snoc hx;obtain⟨hl1,b7⟩:=parts_len s.reqs k;by_cases h1:x.kind=1
   ·rw[if_pos h1]at a4 a5;refine go ?_;refine AF (not_ok w6 _ (kernR x.formula).1 (Z.mono fun _ _=>trivial) (hG.ext R) (H.E R O) (Nat.le_trans hN R.size)) rfl ?_;rintro u7 w7⟨k7,f7⟩;obtain⟨e8,rfl,d3,d7⟩:=f7.cells;obtain⟨c0,c1,c2,c3,c4,rfl⟩:=Ak d3;obtain⟨L1,a,I⟩:=id m.o1;have a1:=F.trans k7;refine AP (out:=[c0,c1,c2,c3,c4]) rfl U EZ (fun w8 X=>?_);have g:=a1.trans X.E;have z8:=g.size;refine Ax (ok:=Af) (v:=v1) rfl rfl (As a g) (Aa (X.own (n:=1) (size:=5) rfl EW (Nat.le_refl _)) fun _ _=>trivial) U rfl rfl d7 U U U (fun v8 Q f=>?_);have B:∀y∈(v1).ownBlock.toList,z.heap.size<=y:=fun y E=>(An a (Option.mem_toList.1 E)).1;refine go ?_;refine⟨(k+1,v8,v2),⟨rfl,ag,⟨by simp only;omega,(q.trans g).E f.E (fun y E=>by have:=B y E;omega),(P.trans g).E f.E (fun y E=>by have:=B y E;omega),?_⟩⟩,by simp only;omega⟩;simp only;rw[a4,a5,List.append_nil];exact m.push a I g ((f7.ext X.E).mono fun b S=>by have:=F.size;omega) rfl zW f
   ·rw[if_neg h1]at a4 a5;refine go ?_;obtain⟨L1,a,I⟩:=id m.o2;have a1:=F;refine AP (out:=[y0,p,D,K,M]) rfl U EZ (fun w8 X=>?_);have g:=a1.trans X.E;have z8:=g.size;refine Ax (ok:=Af) (v:=v2) rfl rfl (As a g) (Aa (X.own (n:=1) (size:=5) rfl EW (Nat.le_refl _)) fun _ _=>trivial) U rfl rfl b9 U U U (fun v8 Q f=>?_);have B:∀y∈(v2).ownBlock.toList,z.heap.size<=y:=fun y E=>(An a (Option.mem_toList.1 E)).1;refine go ?_;refine⟨(k+1,v1,v8),⟨rfl,ag,⟨by simp only;omega,(q.trans g).E f.E (fun y E=>by have:=B y E;omega),(P.trans g).E f.E (fun y E=>by have:=B y E;omega),?_⟩⟩,by simp only;omega⟩;simp only;rw[a4,a5,List.append_nil];exact(m.swap.push a (I.mono fun b S=>⟨S.1,S.2.2,S.2.1⟩) g ((Z.ext X.E).mono fun b S=>S) rfl zW f).swap
  ·obtain rfl:k=s.reqs.length:=by omega
   rw[List.take_length]at m;refine go ?_;obtain⟨a2,c2,e2',c6⟩:=m.swap.sl;subst e2';have b7:=(parts_len s.reqs s.reqs.length).2;have hl1:=(parts_len s.reqs s.reqs.length).1;rw[List.take_length]at hl1 b7;refine AF (andor_ok W 5 a2 c2 (guarsF s.reqs) c6 U (hG.ext q) (H.E q O) (Nat.le_trans hN q.size)).1 rfl ?_;rintro u4 w4⟨k4,f4⟩;obtain⟨t,rfl,C,b8⟩:=f4.cells;obtain⟨y0,p,D,K,M,rfl⟩:=Ak C;obtain rfl:=f4.op0;refine A2 (cs:=[iV (conF 5 (guarsF s.reqs)).op,p,D,K,M]) rfl rfl EQ b8 (fun w6 N=>?_);have F:=k4.trans N.E;have R:=q.trans F;have b6:Blk w6 w4.heap.size 37 [iV (conF 5 (guarsF s.reqs)).op,p,D,K,M]:=N.D;have Z:=f4.ext N.E;obtain⟨A,hA⟩:∃A,A=conF 5 (guarsF s.reqs):=⟨_,rfl⟩;rw[<-hA]at Z b6⊢;have b26:=a6.E (P.trans F) O;have z6:=F.size;refine go ?_;by_cases h0:A.op=0
   ·rw[if_pos h0];refine go ?_;refine AI (cs:=zero5) rfl rfl rfl (AV rfl) b26 EV (fun Q i=>go ?_);exact BB rfl rfl rfl i.D.cells ⟨_,2,rfl,R.E i.E EP,FAt.leaf _ _ 0 [] 0 0,by simp[Am,Fml.op],fun _=>.inr rfl⟩
   ·rw[if_neg h0];refine go ?_;obtain⟨L1,a,I⟩:=id m.o1;have a1:=F;refine AP (out:=[iV A.op,p,D,K,M]) rfl U EZ (fun w8 X=>?_);have g:=a1.trans X.E;have z8:=g.size;have d8:oneC [iV A.op,p,D,K,M]:=by rw[hA];exact b8
    refine Ax (ok:=Af) (v:=v1) rfl rfl (As a g) (Aa (X.own (n:=1) (size:=5) rfl EW (Nat.le_refl _)) fun _ _=>trivial) U rfl rfl d8 U U U (fun v8 Q f=>?_);have B:∀y∈v1.ownBlock.toList,z.heap.size<=y:=fun y E=>(An a (Option.mem_toList.1 E)).1;have c8:=m.push a I g ((Z.ext X.E).mono fun b S=>S.1) rfl zW f;have e9:Ext w Q:=(q.trans g).E f.E (fun y E=>by have:=B y E;omega);have e39:Ext z Q:=(P.trans g).E f.E (fun y E=>by have:=B y E;omega);obtain⟨a9,c9,e9',c7⟩:=c8.sl;subst e9';refine AF (andor_ok Q 6 a9 c9 (partsF s.reqs++[A]) c7 EP (hG.ext e9) (H.E e9 O) (Nat.le_trans hN e9.size)).2 rfl ?_;rintro f6 e2⟨e1,f10⟩;obtain⟨t,rfl,C,a7⟩:=f10.cells;obtain⟨t0,t1,t2,t3,t4,rfl⟩:=Ak C;obtain rfl:=f10.op0;obtain⟨G,b3⟩:∃G,G=conF 6 (partsF s.reqs++[A]):=⟨_,rfl⟩;rw[<-b3]at f10 a7 C⊢;refine A2 (cs:=[iV G.op,t1,t2,t3,t4]) rfl rfl EQ a7 (fun w11 n11=>?_);have a8:=e1.trans n11.E;have e11:=e9.trans a8;have z11:=a8.size;have e5:Blk w11 e2.heap.size 37 [iV G.op,t1,t2,t3,t4]:=n11.D;have b0:=a6.E (e39.trans a8) O;have c5:=f10.ext n11.E;refine go ?_;have z9:=e39.size;by_cases a3:G.op=0
    ·refine go ?_;refine AI (cs:=zero5) rfl rfl rfl (AV rfl) b0 EV (fun e4 l=>go ?_);refine BB rfl rfl rfl l.D.cells ⟨_,2,rfl,e11.E l.E EP,?_,by simp[a3],fun _=>.inr rfl⟩;rw[show G=Am by rw[b3]at a3⊢;exact con_zero a3];exact FAt.leaf _ _ 0 [] 0 0
    ·refine go ?_;refine AI (cs:=[iV G.op,t1,t2,t3,t4]) rfl rfl rfl a7 b0 EV (fun e4 l=>go ?_);exact BB rfl rfl rfl l.D.cells ⟨_,0,rfl,e11.E l.E EP,(c5.E l.E (fun y E hm=>by have:=E.1;simp at hm;omega)).mono fun y E=>by have:=E.1;omega,by simp[a3],fun _=>.inl rfl⟩
section
attribute [local semireducible] WC AT B6 BK Bz Cx DZ By
variable {P:Program}{all:Array Oper}{Z:Fr->DS->List PanicEntry->World->Prop}{K:Fr->DS->World->Prop}{rest:List Oper}{f:Fr}{ds:DS}{w:World}{d:Nat}{ty:TypeId}{pos:String}{af:Array Edge}
theorem W_slNil{T e size j M n c:Nat}{z:Value}{x:Operand}{a:Option Addr}[hT:SlT P T e size j z](V:ev f x=.slice a n c)
  (h:AT P all Z K rest (upd f d (.bool a.isNone)) ds w):AT P all Z K (⟨some d,.binOp .eql T x (.const (.slice none 0 0)) M,ty,pos,af,none⟩::rest) f ds w:=by
 refine A0 rfl ?_ h;have E:ev f (.const (.slice none 0 0))=.slice none 0 0:=rfl
 have b:∀d:Nat,(Op.equalIn (d+1) T (.slice a n c) (.slice none 0 0)).run P w=.ok a.isNone w:=fun d=>by
  cases a<;>simp[Op.equalIn,run_underlying hT.und]
 have W:(binOp .eql T (.slice a n c) (.slice none 0 0)).run P w=.ok (.bool a.isNone) w:=by
  simp only[binOp];simp[Op.equal,Op.maxDepth,b 9999]
 simp[execOp,V,E,eqGuard,W]
end
theorem made0:(madeCells (Value.agg #[iV 0,AL [],iV 0,iV 0,.slice none 0 0]).cells (0*5)).toList=[]:=by kernel_rfl
theorem clone_ok(w:World)(a:Option Addr)(c:Nat)(l:LF)(L:List (LV))(ok:Nat->Prop)(F:Sl ok w (.slice a l.length c) l.length L.flatten)(s:FsAt ok w L l)(p:l.length<=1000000):
  Fn Zp 113 [.slice a l.length c] w fun u w'=>Ext w w'/\w'.ownsRow w.heap.size 37 5 u l.length L.flatten:=by
 have i:=s.oneC;have N:=s.flat;refine AN Tryz.func113 rfl Tryz.ntmps113 (go ?_);refine W_slNil rfl ?_;cases a with
 |none=>
  have t:l.length=0:=by
   obtain⟨_,_,e,_,_,_,h⟩:=F;cases e;rcases h with h|⟨b,o,e,_⟩
   ·exact h
   ·cases e
  refine go ?_;have k:L.flatten=[]:=List.eq_nil_of_length_eq_zero (by rw[N,t]);exact AC rfl ⟨Ext.refl _,by rw[k,t];exact⟨rfl,.inl ⟨rfl,rfl⟩⟩⟩
 |some a=>
  refine go ?_;refine AP (out:=[]) rfl U (by rw[made0];rfl) (fun Q A=>?_);refine go ?_;have j:=A.own (n:=0) (size:=5) rfl EW (Nat.le_refl _);refine Ax (B:=w.heap.size) (n:=0) rfl rfl j ((F.ext A.E)) U rfl N i U U (by have:=A.size;omega) (fun R m q=>?_);refine go ?_;have g:=q.own;rw[Nat.zero_add,List.nil_append]at g;exact AC rfl ⟨A.E.E q.E (fun y E=>(An j (Option.mem_toList.1 E)).1),g⟩
structure Rtg(ok:Nat->Prop)(W W':World)(g o:Nat)(v v':Value):Prop where
 sl:∃a n c,v=.slice a n c
 old:W.cell? ⟨g,o,none⟩=some v
 new:W'.cell? ⟨g,o,none⟩=some v'
 oth:∀(b i:Nat)(u:Value),¬(b=g/\i=o)->W.cell? ⟨b,i,none⟩=some u->W'.cell? ⟨b,i,none⟩=some u
 cpy:∀(n:Nat)(L:List (LV)),L.flatten.length=n*5->Sl ok W v n L.flatten->Sl ok W' v' n L.flatten
theorem row_at{L:List (LV)}(d:∀c∈L,c.length=5){k:Nat}{u:Value}(h:L.flatten[k]?=some u):∃c,L[k/5]?=some c/\c[k%5]?=some u:=by
 have x:=(List.getElem?_eq_some_iff.1 h).1;rw[Bw 5 L d]at x;have H:k/5<L.length:=(Nat.div_lt_iff_lt_mul U).2 x;refine⟨L[k/5],List.getElem?_eq_getElem H,?_⟩;have s:L[k/5]∈L:=List.getElem_mem H;have T:k%5<(L[k/5]).length:=by rw[d _ s];omega
 have Z:=CR 5 L (k/5) (k%5) _ _ d (List.getElem?_eq_getElem H) (List.getElem?_eq_getElem T);rw[show k/5*5+k%5=k by omega,h]at Z;rw[List.getElem?_eq_getElem T];exact Z.symm
theorem FAt.rtg{ok:Nat->Prop}{W Z:World}{g o:Nat}{v E:Value}(R:Rtg ok W Z g o v E):∀(n:Nat)(u:Value)(f:Fml),dpF f<=n->FAt ok W u f->FAt ok Z u f
 |0,u,f,hn,_=>by rw[CX]at hn;omega
 |n+1,u,f,hn,h=>by
  rw[CX]at hn;obtain⟨av,rfl,L,hS,K,A,hA⟩:=h.form;obtain⟨op,nm,vl,N,p⟩:=f;simp only[Fml.op,Fml.name,Fml.val,Fml.bound,Fml.args]at*
  obtain⟨a,Q,rfl,q1,q2,q3,q4⟩:=id hS;rcases q4 with h0|⟨b,q,rfl,hb,F⟩
  ·refine .mk op nm vl N p _ L ⟨a,Q,rfl,q1,q2,q3,.inl h0⟩ K A fun i c x H V=>?_;have:=(List.getElem?_eq_some_iff.1 V).1;omega
  ·
   have a2:∀(i:Nat),i<L.length->∃z:LV,z.length=5/\(∀(j:Nat)(w:Value),z[j]?=some w->Z.cell? ⟨b,q+i*5+j,none⟩=some w)/\∀x,p[i]?=some x->FAt ok Z (.agg z.toArray) x:=by
    intro i H;have m:=List.getElem?_eq_getElem H;have l:p[i]?=some p[i]:=List.getElem?_eq_getElem U;have hm:=List.mem_of_getElem? l;have b0:=Ce hm;have P:=hA i _ _ m l
    have C:∀(j:Nat)(w:Value),L[i][j]?=some w->W.cell? ⟨b,q+i*5+j,none⟩=some w:=fun j w e=>by
     have:=F (i*5+j) w (CR 5 L i j _ _ A m e)
     rwa [<-Nat.add_assoc]at this
    by_cases hg:b=g/\q+i*5+4=o
    ·obtain⟨rfl,rfl⟩:=hg;obtain⟨s,r,d,a6,a0,X,a5⟩:=P.form;have I:L[i]=[iV (p[i]).op,AL (p[i]).name,iV (p[i]).val,iV (p[i]).bound,s]:=by simpa using r
     have hv:v=s:=by
      have:=C 4 s (by rw[I];rfl);rw[R.old]at this;exact Option.some.inj this
     subst hv;refine⟨[iV (p[i]).op,AL (p[i]).name,iV (p[i]).val,iV (p[i]).bound,E],rfl,fun j w e=>?_,fun x V=>?_⟩
     ·match j,e with
      |0,e=>exact R.oth _ _ _ U (C 0 w (by rw[I];exact e))
      |1,e=>exact R.oth _ _ _ U (C 1 w (by rw[I];exact e))
      |2,e=>exact R.oth _ _ _ U (C 2 w (by rw[I];exact e))
      |3,e=>exact R.oth _ _ _ U (C 3 w (by rw[I];exact e))
      |4,e=>rw[<-Option.some.inj e];exact R.new
      |j+5,e=>simp at e
     ·rw[l]at V;obtain rfl:=Option.some.inj V;have hd2:=CX p[i];generalize p[i]=x at*
      obtain⟨a8,a7,a9,a4,a3⟩:=x;refine .mk a8 a7 a9 a4 a3 E d (R.cpy _ d (by rw[Bw 5 d X,a0];rfl) a6) a0 X fun k c y hk hy=>?_;have:=Ce (List.mem_of_getElem? hy);exact FAt.rtg R n _ y (by simp only[Fml.args]at hd2;omega) (a5 k c y hk hy)
    ·refine⟨L[i],A _ (List.getElem_mem H),fun j w e=>R.oth _ _ _ (fun T=>?_) (C j w e),fun x V=>?_⟩
     ·
      obtain⟨rfl,T⟩:=T;obtain⟨s,r, -⟩:=P.form;have I:L[i]=[iV (p[i]).op,AL (p[i]).name,iV (p[i]).val,iV (p[i]).bound,s]:=by simpa using r
      have S:=C j w e;rw[T,R.old]at S;obtain⟨a',n',z,rfl⟩:=R.sl;obtain rfl:=Option.some.inj S;rw[I]at e
      match j,e,T with
      |0,e,_=>simp at e
      |1,e,_=>simp at e
      |2,e,_=>simp at e
      |3,e,_=>simp at e
      |4,_,T=>exact hg ⟨rfl,T⟩
      |j+5,e,_=>simp at e
     ·rw[l]at V;obtain rfl:=Option.some.inj V;exact FAt.rtg R n _ _ U P
   obtain⟨D,B⟩:∃D:Nat->LV,∀i,i<L.length->(D i).length=5/\(∀(j:Nat)(w:Value),(D i)[j]?=some w->Z.cell? ⟨b,q+i*5+j,none⟩=some w)/\∀x,p[i]?=some x->FAt ok Z (.agg (D i).toArray) x:=
    ⟨fun i=>if h:i<L.length then Classical.choose (a2 i h)else[],fun i H=>by simp only[dif_pos H];exact Classical.choose_spec (a2 i H)⟩
   have a1:∀c∈(List.range L.length).map D,c.length=5:=by
    intro c F;obtain⟨i,H,rfl⟩:=List.mem_map.1 F;exact(B i (List.mem_range.1 H)).1
   refine .mk op nm vl N p _ ((List.range L.length).map D) ⟨some ⟨b,q,none⟩,Q,rfl,q1,q2,q3,.inr ⟨b,q,rfl,hb,fun k u M=>?_⟩⟩ (by simpa using K) a1 fun i c x H V=>?_
   ·obtain⟨c,G,M⟩:=row_at a1 M;have t:k/5<L.length:=by have:=(List.getElem?_eq_some_iff.1 G).1;simpa using this
    rw[List.getElem?_map,List.getElem?_range t]at G;obtain rfl:=Option.some.inj G;have:=(B _ t).2.1 _ u M
    rwa [show q+k/5*5+k%5=q+k by omega]at this
   ·have t:i<L.length:=by have:=(List.getElem?_eq_some_iff.1 H).1;simpa using this
    rw[List.getElem?_map,List.getElem?_range t]at H;obtain rfl:=Option.some.inj H;exact(B i t).2.2 x V
theorem own_pop{w:World}{B e n:Nat}{a:Option Addr}{cap:Nat}{xs:LV}{u:Value}(h:w.ownsRow B e 1 (.slice a (n+1) cap) (n+1) (xs++[u])):w.ownsRow B e 1 (.slice a n cap) n xs:=by
 obtain⟨K,p⟩:=h;have Z:xs.length=n*1:=by simp at K;omega
 rcases p with⟨e,t⟩|⟨g,cap,G,e,S,b,I,m,C,c⟩
 ·omega
 ·cases e;refine⟨Z,.inr ⟨g,cap,G,rfl,S,b,by omega,m,C,?_⟩⟩;have:=congrArg (List.take (n*1)) c;rw[List.take_take,Nat.min_eq_left U]at this;rw[this,List.take_append_of_le_length U,List.take_of_length_le (l:=xs) U]
theorem PF.rtg{ok:Nat->Prop}{W Z:World}{g o:Nat}{v E:Value}(R:Rtg ok W Z g o v E){b i:Nat}{f:Fml}(h:PF ok W b i f):PF ok Z b i f:=by
 obtain⟨S,d,C,T,P⟩:=h
 have n:FAt ok W (.agg #[iV 0,AL [],iV 0,iV 0,.slice (some ⟨b,i,none⟩) 1 1]) ⟨0,[],0,0,[f]⟩:=by
  refine .mk 0 [] 0 0 [f] _ [d] ⟨_,1,rfl,by simp,by omega,(fun e=>by cases e),.inr ⟨b,i,rfl,S,by simpa using T⟩⟩ rfl (fun c s=>by simp at s;rw[s];exact C) fun k c x j V=>?_;cases k with
  |zero=>simp at j V;subst j;subst V;exact P
  |succ k=>simp at j
 obtain⟨q,e,L,l,K,p,Q⟩:=(FAt.rtg R _ _ _ (Nat.le_refl _) n).form;simp only[Value.agg.injEq,List.cons.injEq,and_true,Array.mk.injEq]at e;have e:=e.2.2.2.2;subst e;simp only[Fml.args]at l K Q;obtain⟨a,c,e,_,_,_,V⟩:=l;cases e;obtain⟨r,t,e,A,m⟩:=V.resolve_left O;cases e
 match L,K with
 | [c],_=>
  simp at m;exact⟨A,c,p c O,m,Q 0 c f rfl rfl⟩
abbrev Pn:=Nat×Nat×Fml
def ptrV(p:Pn):Value:=.pointer (some ⟨p.1,p.2.1,none⟩)
abbrev cok(ok0:Nat->Prop)(A c2:Nat)(v:Value)(b:Nat):Prop:=(ok0 b\/A<=b)/\b≠c2/\v.ownBlock≠some b
structure Cpy(ok0:Nat->Prop)(A B c2:Nat)(T2:TypeId)(zs:LV)(fx:List (Nat×Value))(roots ps:List Pn)(W:World)(v:Value):Prop where
 own:W.ownsRow B 89 1 v ps.length (ps.map ptrV)
 all:∀p,p∈roots\/p∈ps->PF (cok ok0 A c2 v) W p.1 p.2.1 p.2.2
 mine:∀p∈ps,A<=p.1/\∃T L,Blk W p.1 T L
 D:Blk W c2 T2 zs
 ab:A<B
 fix:∀q∈fx,W.cell? ⟨A,q.1,none⟩=some q.2
 nsl:∀q∈fx,∀a n c,q.2≠ .slice a n c
section
variable {ok0:Nat->Prop}{A B c2:Nat}{T2:TypeId}{zs:LV}{fx:List (Nat×Value)}{roots ps:List Pn}{W W':World}{v:Value}
theorem Cpy.ext(h:Cpy ok0 A B c2 T2 zs fx roots ps W v)(e:Ext W W'):Cpy ok0 A B c2 T2 zs fx roots ps W' v:=
 ⟨As h.own e,fun p y=>(h.all p y).E e (fun _ _=>by simp),fun p y=>⟨(h.mine p y).1,by obtain⟨T,L,S⟩:=(h.mine p y).2;exact⟨T,L,S.E e O⟩⟩,h.D.E e O,h.ab,fun q K=>e.cell (h.fix q K) O,h.nsl⟩
theorem Cpy.pop{p:Pn}(h:Cpy ok0 A B c2 T2 zs fx roots (ps++[p]) W v):∃a cap,v=.slice a (ps.length+1) cap/\Cpy ok0 A B c2 T2 zs fx (p::roots) ps W (.slice a ps.length cap)/\A<=p.1/\∃T L,Blk W p.1 T L:=by
 have b:=h.own;rw[List.length_append,List.map_append]at b;obtain⟨a,cap,rfl,_⟩:=Aa (ok:=Af) b fun _ _=>trivial;refine⟨a,cap,by simp,⟨own_pop (u:=ptrV p) (by simpa using b),fun q K=>?_,fun q K=>h.mine q (by simp[K]),h.D,h.ab,h.fix,h.nsl⟩,h.mine p O⟩
 have d:q∈roots\/q∈ps++[p]:=by
  rcases K with K|K
  ·rcases List.mem_cons.1 K with rfl|K
   ·exact .inr O
   ·exact .inl K
  ·exact .inr (by simp[K])
 have e:(Value.slice a (ps.length+1) cap).ownBlock=(Value.slice a ps.length cap).ownBlock:=by cases a<;>rfl
 have:=h.all q d;simp only[List.length_cons,List.length_nil,Nat.zero_add]at this;unfold cok at this⊢
 rwa [e]at this
theorem Cpy.push{p:Pn}{W1 m:World}{R:Value}(h:Cpy ok0 A B c2 T2 zs fx roots ps W v)(e:Ext W W1)(a:Apd W1 m B 89 1 v R (ps.length+1) (ps.map ptrV++[ptrV p]))(d:PF (cok ok0 A c2 v) W p.1 p.2.1 p.2.2)(s:A<=p.1/\∃T L,Blk W p.1 T L)(j:v.ownBlock≠some c2):Cpy ok0 A B c2 T2 zs fx roots (ps++[p]) m R:=by
 have z:=e.size
 have i:∀g,R.ownBlock=some g->v.ownBlock=some g\/g=W1.heap.size:=fun g w=>by
  rcases a.D with e|e
  ·exact .inl (by rw[<-e];exact w)
  ·rw[e]at w;exact .inr (Option.some.inj w).symm
 have c:∀y,y∈v.ownBlock.toList->v.ownBlock=some y:=fun y E=>Option.mem_toList.1 E
 have u:∀{b o:Nat}{x:Fml},PF (cok ok0 A c2 v) W b o x->PF (cok ok0 A c2 R) m b o x:=fun P=>by
  refine(((P.lt).E e (fun _ _=>by simp)).E a.E fun b S s=>S.1.2.2 (c b s)).mono fun b S=>⟨S.1.1,S.1.2.1,fun e=>?_⟩;rcases i b e with e|e
  ·exact S.1.2.2 e
  ·have:=S.2;omega
 have f:∀{b:Nat},v.ownBlock≠some b->(∃T L,Blk W b T L)->∃T L,Blk m b T L:=fun hne⟨T,L,S⟩=>⟨T,L,(S.E e O).E a.E fun s=>hne (c _ s)⟩;refine⟨by have:=a.own;simpa using this,fun q K=>?_,fun q K=>?_,(h.D.E e O).E a.E fun s=>j (c _ s),h.ab,fun q K=>a.E.cell (e.cell (h.fix q K) O) fun s=>by have:=(An h.own (c _ s)).1;have:=h.ab;omega,h.nsl⟩
 ·rcases K with K|K
  ·exact u (h.all q (.inl K))
  ·rcases List.mem_append.1 K with K|K
   ·exact u (h.all q (.inr K))
   ·simp at K;rw[K];exact u d
 ·rcases List.mem_append.1 K with K|K
  ·exact⟨(h.mine q K).1,f (h.all q (.inr K)).1.2.2 (h.mine q K).2⟩
  ·simp at K;rw[K];exact⟨s.1,f d.1.2.2 s.2⟩
end
theorem Blk.un{w:World}{b i:Nat}{T:TypeId}{L:LV}{u:Value}(h:Blk w b T L)(g:w.cell? ⟨b,i,none⟩=some u):L[i]?=some u:=by
 unfold Blk at h;simp only[World.cell?,h]at g;simpa using g
theorem Rtg.of_put{ok:Nat->Prop}{W Z:World}{g o:Nat}{T:TypeId}{L:LV}{v E:Value}(S:Blk W g T L)(f:W.cell? ⟨g,o,none⟩=some v)(F:∃a n c,v=.slice a n c)(p:Put W Z g T (L.set o E))
  (h:∀(n:Nat)(L:List (LV)),L.flatten.length=n*5->Sl ok W v n L.flatten->Sl ok Z E n L.flatten):Rtg ok W Z g o v E:=by
 have x:=(List.getElem?_eq_some_iff.1 (S.un f)).1;refine⟨F,f,p.D.cell (by simp[x]),fun b i u N d=>?_,h⟩;by_cases X:b=g
 ·subst X;have H:¬i=o:=fun e=>N ⟨rfl,e⟩;exact p.D.cell (by rw[List.getElem?_set_ne U];exact S.un d)
 ·exact p.E.cell d (by simpa using X)
theorem Cpy.store{G:Nat->Prop}{A B Q:Nat}{b T:TypeId}{zs L:LV}{X:List (Nat×Value)}{u l:List Pn}{W Z:World}{v v0 m:Value}{g o:Nat}(h:Cpy G A B Q b zs X u l W v)(R:Rtg (cok G A Q v) W Z g o v0 m)(p:Put W Z g T L)(i:g≠Q)(j:v.ownBlock≠some g):Cpy G A B Q b zs X u l Z v:=by
 refine⟨Ai h.own p.E fun y E s=>?_,fun q K=>(h.all q K).rtg R,fun q K=>⟨(h.mine q K).1,?_⟩,h.D.E p.E ?_,h.ab,fun q K=>R.oth _ _ _ (fun P=>?_) (h.fix q K),h.nsl⟩
 ·rw[List.mem_singleton]at s;rw[s]at E;exact j E
 ·obtain⟨f,S,k⟩:=(h.mine q K).2;by_cases w:q.1=g
  ·rw[w];exact⟨_,_,p.D⟩
  ·exact⟨f,S,k.E p.E (by simpa using w)⟩
 ·rw[List.mem_singleton];exact fun e=>i e.symm
 ·have d:=h.fix q K;rw[P.1,P.2,R.old]at d;obtain⟨a,n,c,e⟩:=R.sl;exact h.nsl q K a n c (by rw[<-Option.some.inj d];exact e)
theorem cpy_of{ok f:Nat->Prop}{W W1:World}{o u:Value}{l:LF}{L0:List (LV)}(F:Sl ok W o l.length L0.flatten)(t:L0.flatten.length=l.length*5)(g:Sl f W1 u l.length L0.flatten)(n:Nat)(L:List (LV))(K:L.flatten.length=n*5)(h:Sl ok W o n L.flatten):Sl f W1 u n L.flatten:=by
 obtain⟨a,E,rfl,d,y,z,G⟩:=F;obtain⟨w,V,e,A,B,C,s⟩:=h;cases e
 have:L.flatten=L0.flatten:=by
  by_cases I:l.length=0
  ·have m:L.flatten=[]:=List.eq_nil_of_length_eq_zero (by rw[K,I]);have r:L0.flatten=[]:=List.eq_nil_of_length_eq_zero (by rw[t,I]);rw[m,r]
  ·obtain⟨b,k,m,_,T⟩:=G.resolve_left I;obtain⟨v,x,r,_,q⟩:=s.resolve_left I;rw[m]at r;cases r;refine List.ext_getElem (by rw[K,t]) fun i Z p=>?_;have c:=T i _ (List.getElem?_eq_getElem p);have j:=q i _ (List.getElem?_eq_getElem Z);rw[c]at j;exact(Option.some.inj j).symm
 rw[this];exact g
theorem PF.child{ok:Nat->Prop}{W:World}{g o n V k:Nat}{i:Option Addr}{x y:Fml}(h:PF ok W g o x)(m:W.cell? ⟨g,o+4,none⟩=some (.slice i n V))(d:x.args[k]?=some y):∃T t,i=some ⟨T,t,none⟩/\PF ok W T (t+k*5) y:=by
 obtain⟨S,a,c,L,p,l,s⟩:=h.form;have e:=p 4 _ rfl;rw[m]at e;cases e;have f:=(List.getElem?_eq_some_iff.1 d).1;have C:L[k]?=some (L[k]'(by rw[s.1];exact f)):=List.getElem?_eq_getElem _;obtain⟨b,q,j,r,I⟩:=l.fml s.2.1 C f;exact⟨b,q,j,r,_,s.2.1 _ (List.getElem_mem _),I,s.2.2 k _ y C d⟩
section
variable {mk:Prop}[MK mk]
end


section
variable {mk:Prop}[MK mk]
end
section
variable {mk:Prop}[MK mk]
theorem fml_eq{f g:Fml}:f=g↔f.op=g.op/\f.name=g.name/\f.val=g.val/\f.bound=g.bound/\f.args=g.args:=by
 obtain⟨a,b,c,d,e⟩:=f;obtain⟨Z,v,I,w,n⟩:=g;simp[Fml.op,Fml.name,Fml.val,Fml.bound,Fml.args]
theorem ints_ok(a b:Int)(w:World):Fn Zp 101 [iV a,iV b] w fun v w'=>∃c:Int,v=iV c/\(c=0↔a=b)/\w'=w:=by
 refine AN Tryz.func101 rfl Tryz.ntmps101 (go ?_);by_cases Z:a<b
 ·refine go ?_;exact AC rfl ⟨-1,rfl,by omega,rfl⟩
 ·refine go ?_;by_cases W:b<a
  ·refine go ?_;exact AC rfl ⟨1,rfl,by omega,rfl⟩
  ·refine go ?_;exact AC rfl ⟨0,rfl,by omega,rfl⟩
theorem W_slss{P:Program}{c:Array Oper}{Z:Fr->DS->List PanicEntry->World->Prop}{K:Fr->DS->World->Prop}{rest:List Oper}{f:Fr}{ds:DS}{w:World}{d:Nat}{A:TypeId}{H:String}{G:Array Edge}{z M:TypeId}{x y:Operand}{s t:LU}
  (V:ev f x=AL s)(E:ev f y=AL t)(h:∀b:Bool,AT P c Z K rest (upd f d (.bool b)) ds w):AT P c Z K (⟨some d,.binOp .lss z x y M,A,H,G,none⟩::rest) f ds w:=
 A0 (v:=.bool (Op.bytesLess s t)) rfl (by simp[execOp,V,E,eqGuard,binOp,Op.stringOp]) (h _)
theorem compare_ok:∀(n:Nat)(f g:Fml),SizeOf.sizeOf f<=n->∀(w:World)(v v':Value),FAt Af w v f->FAt Af w v' g->Fn Zp 41 [v,v'] w fun r w'=>∃c:Int,r=iV c/\(c=0↔f=g)/\Ext w w':=by
 intro n
 induction n with
 |zero=>intro f g hn;cases f;simp at hn
 |succ n ih=>
 intro f g hn w v v' hf hg;obtain⟨av,rfl,L,hS,hL,d,hA⟩:=hf.form;obtain⟨bv,rfl,M,a5,c0,a3,a9⟩:=hg.form;obtain⟨C,K,rfl,_⟩:=id hS;obtain⟨I,t,rfl,_⟩:=id a5;have c1:f.args.length<=9223372036854775807:=by obtain⟨_,_,hv,g1,g2,_⟩:=id hS;cases hv;omega
 have b7:∀x∈f.args,SizeOf.sizeOf x<=n:=by
  intro x V;cases f with
  |mk o nm vl bd args=>
   have:=List.sizeOf_lt_of_mem V;simp[Fml.args]at this hn;omega
 refine AN Tryz.func41 rfl Tryz.ntmps41 (go ?_);refine A3 (L:=[iV f.op,AL f.name,iV f.val,iV f.bound,.slice C f.args.length K]) rfl (fun Q n1=>?_);refine A3 (L:=[iV g.op,AL g.name,iV g.val,iV g.bound,.slice I g.args.length t]) rfl (fun w2 n2=>?_);have R:Blk w2 w.heap.size 37 [iV f.op,AL f.name,iV f.val,iV f.bound,.slice C f.args.length K]:=n1.D.E n2.E O;have m:=n2.D;have l:Ext w w2:=n1.E.trans n2.E;refine go ?_;refine AF (ints_ok _ _ _) rfl ?_;rintro _ z⟨u,rfl,h0,rfl⟩;refine AO (AS rfl (AA ?_));refine Q_then ?_;refine C_seq ?_;refine CA (α:=Int) (fun c=>[(2,pt w.heap.size),(3,pt Q.heap.size),(4,iV 0),(5,iV c)]) (fun c W=>Blk W w.heap.size 37 [iV f.op,AL f.name,iV f.val,iV f.bound,.slice C f.args.length K]/\Blk W Q.heap.size 37 [iV g.op,AL g.name,iV g.val,iV g.bound,.slice I g.args.length t]/\Ext w W/\(c=0↔f.op=g.op/\f.name=g.name)) ?_ ?_
 ·repeat refine nx rfl ?_
  by_cases Z:u=0
  ·by_cases a8:f.name=g.name
   ·(refine AJ (AS rfl ?_)<;>(refine Bf rfl rfl (fun T=>?_) (fun T=>?_)<;>try omega)<;>refine AE rfl (AK rfl (AB rfl ?_))<;>(refine AK rfl ?_;refine AH rfl (Blk.cell ER EQ) ?_)<;>refine AK rfl (AB rfl ?_)<;>(refine AK rfl ?_;refine AH rfl (Blk.cell ER EQ) ?_)<;>(refine AK rfl ?_;refine W_sneq rfl rfl (fun T=>?_) (fun T=>?_))<;>refine Ae rfl (AE rfl (AA ?_)))
    ·exact absurd a8 ER
    repeat first|refine nx rfl ?_|refine nf rfl ?_
    exact Aj u ag ⟨R,m,l,by simp_all⟩
   ·(refine AJ (AS rfl ?_)<;>(refine Bf rfl rfl (fun T=>?_) (fun T=>?_)<;>try omega)<;>refine AE rfl (AK rfl (AB rfl ?_))<;>(refine AK rfl ?_;refine AH rfl (Blk.cell ER EQ) ?_)<;>refine AK rfl (AB rfl ?_)<;>(refine AK rfl ?_;refine AH rfl (Blk.cell ER EQ) ?_)<;>(refine AK rfl ?_;refine W_sneq rfl rfl (fun T=>?_) (fun T=>?_))<;>refine Ae rfl (AE rfl (AA ?_)))
    rotate_left
    ·exact absurd ER a8
    refine go ?_;refine W_slss rfl rfl (fun b=>go ?_);cases b with
    |true=>
     refine go ?_;exact Aj (-1) ag ⟨R,m,l,by simp_all⟩
    |false=>
     refine go ?_;exact Aj 1 ag ⟨R,m,l,by simp_all⟩
  ·refine go ?_;exact Aj u ag ⟨R,m,l,by simp_all⟩
 clear R m l;rintro c z S⟨R,m,l,q⟩;refine C_seq ?_;refine CA (α:=Int) (fun c=>[(2,pt w.heap.size),(3,pt Q.heap.size),(4,iV 0),(5,iV c)]) (fun c W=>Blk W w.heap.size 37 [iV f.op,AL f.name,iV f.val,iV f.bound,.slice C f.args.length K]/\Blk W Q.heap.size 37 [iV g.op,AL g.name,iV g.val,iV g.bound,.slice I g.args.length t]/\Ext w W/\(c=0↔f.op=g.op/\f.name=g.name/\f.val=g.val)) ?_ ?_
 ·refine go ?_;by_cases Z:c=0
  ·exact Fa
  ·exact GQ
 clear R m l q;rintro c z S⟨R,m,l,q⟩;refine C_seq ?_;refine CA (α:=Int) (fun c=>[(2,pt w.heap.size),(3,pt Q.heap.size),(4,iV 0),(5,iV c)]) (fun c W=>Blk W w.heap.size 37 [iV f.op,AL f.name,iV f.val,iV f.bound,.slice C f.args.length K]/\Blk W Q.heap.size 37 [iV g.op,AL g.name,iV g.val,iV g.bound,.slice I g.args.length t]/\Ext w W/\(c=0↔f.op=g.op/\f.name=g.name/\f.val=g.val/\f.bound=g.bound)) ?_ ?_
 ·refine go ?_;by_cases Z:c=0
  ·exact Fa
  ·exact GQ
 clear R m l q;rintro c z S⟨R,m,l,q⟩;refine C_seq ?_;refine CA (α:=Int) (fun c=>[(2,pt w.heap.size),(3,pt Q.heap.size),(4,iV 0),(5,iV c)]) (fun c W=>Blk W w.heap.size 37 [iV f.op,AL f.name,iV f.val,iV f.bound,.slice C f.args.length K]/\Blk W Q.heap.size 37 [iV g.op,AL g.name,iV g.val,iV g.bound,.slice I g.args.length t]/\Ext w W/\(c=0↔f.op=g.op/\f.name=g.name/\f.val=g.val/\f.bound=g.bound/\f.args.length=g.args.length)) ?_ ?_
 ·refine go ?_;by_cases Z:c=0
  ·exact Fa
  ·exact GQ
 clear R m l q;rintro c z S⟨R,m,l,q⟩;refine C_seq ?_;refine C_seq (go ?_)
 refine Ar (α:=Nat×Int) (fun x=>[(2,pt w.heap.size),(3,pt Q.heap.size),(4,iV 0),(5,iV x.2),(6,iV (x.1:Int))])
  (fun x W=>x.1<=f.args.length/\Ext z W/\(x.2=0↔(f.op=g.op/\f.name=g.name/\f.val=g.val/\f.bound=g.bound/\f.args.length=g.args.length)/\∀j,j<x.1->f.args[j]?=g.args[j]?)) (fun x=>f.args.length-x.1) (0,c) ag
  ⟨by simp,Ext.refl _,by simp only;rw[q];exact⟨fun h=>⟨h,fun j D=>by omega⟩,fun h=>h.1⟩⟩ ?_
 rintro⟨i,G⟩w4 f4⟨hi,A,E⟩;simp only at hi E⊢;refine go ?_
 have a6:∀(W:World),Ext z W->(G=0->i=f.args.length)->∃u:Int,iV G=iV u/\(u=0↔f=g)/\Ext w W:=by
  intro W kW hii;refine⟨G,rfl,?_,l.trans kW⟩;rw[fml_eq];constructor
  ·intro h;obtain⟨⟨X,h2,h3,B,d⟩,k⟩:=E.1 h;refine⟨X,h2,h3,B,List.ext_getElem? fun j=>?_⟩;by_cases D:j<i
   ·exact k j D
   ·have:=hii h;rw[List.getElem?_eq_none U,List.getElem?_eq_none U]
  ·rintro⟨X,h2,h3,B,d⟩;exact E.2 ⟨⟨X,h2,h3,B,by rw[d]⟩,fun j _=>by rw[d]⟩
 have a4:=R.E A O;have b4:=m.E A O;by_cases a7:i<f.args.length
 ·by_cases Z:G=0
  ·have c2:f.args.length=g.args.length:=(E.1 Z).1.2.2.2.2;have P:=l.trans A;obtain⟨x,V⟩:∃x,f.args[i]?=some x:=⟨_,List.getElem?_eq_getElem a7⟩;obtain⟨y,hy⟩:∃y,g.args[i]?=some y:=⟨_,List.getElem?_eq_getElem U⟩;obtain⟨H,a0⟩:∃H,L[i]?=some H:=⟨_,List.getElem?_eq_getElem U⟩;obtain⟨a,a1⟩:∃a,M[i]?=some a:=⟨_,List.getElem?_eq_getElem U⟩;have b2:=(hA i H x a0 V).ext P;have b3:=(a9 i a y a1 hy).ext P;have b8:=d H (List.mem_of_getElem? a0);have b9:=a3 a (List.mem_of_getElem? a1);obtain⟨bx,ox,rfl,_,b0⟩:=(hS.ext P).fml d a0 a7;obtain⟨a2,oy,rfl,_,b1⟩:=(a5.ext P).fml a3 a1 U;obtain⟨x0,x1,x2,x3,x4,rfl⟩:=Ak b8;obtain⟨y0,y1,y2,y3,y4,rfl⟩:=Ak b9;refine go ?_;refine Ac (rd 0 10 (.alt 10 (.read 11 .done) .stop)) Ap EO (fun N s ed=>⟨Ext N,?_,?_⟩)
   ·exact FQ
   have fa:∀W:World,Ext N W->W.cell? ⟨w.heap.size,0+4,none⟩=some (.slice (some ⟨bx,ox,none⟩) f.args.length K):=fun W e=>((a4.E s O).E e O).cell rfl;have fb:∀W:World,Ext N W->W.cell? ⟨Q.heap.size,0+4,none⟩=some (.slice (some ⟨a2,oy,none⟩) g.args.length t):=fun W e=>((b4.E s O).E e O).cell rfl;have fc:∀W:World,Ext N W->Cells W bx (ox+i*5) [x0,x1,x2,x3,x4]:=fun W e=>(b0.E s O).E e O;have fd:∀W:World,Ext N W->Cells W a2 (oy+i*5) [y0,y1,y2,y3,y4]:=fun W e=>(b1.E s O).E e O;((refine D_R rfl rfl (fun W p=>AB rfl dz) ?_)<;>(refine D_R rfl rfl (fun W p=>AH rfl (fa W p) dz) ?_)<;>(refine D_R rfl rfl (fun W p=>AS rfl dz) ?_)<;>(apply D_R rfl rfl;(intro W p;refine CG rfl rfl rfl U ?_;exact AA ⟨rfl,rfl,rfl⟩))<;>(apply D_R rfl rfl;(intro W p;refine AQ rfl EQ (fc W p) ?_;exact AA ⟨rfl,rfl,rfl⟩))<;>(refine D_R rfl rfl (fun W p=>AB rfl dz) ?_)<;>(refine D_R rfl rfl (fun W p=>AH rfl (fb W p) dz) ?_)<;>(refine D_R rfl rfl (fun W p=>AS rfl dz) ?_)<;>(apply D_R rfl rfl;(intro W p;refine CG rfl rfl rfl U ?_;exact AA ⟨rfl,rfl,rfl⟩))<;>(apply D_R rfl rfl;(intro W p;refine AQ rfl EQ (fd W p) ?_;exact AA ⟨rfl,rfl,rfl⟩)))
   refine D_E rfl ?_;refine AF (ih x y (b7 x (List.mem_of_getElem? V)) N _ _ (b2.ext s) (b3.ext s)) rfl ?_;rintro _ w6⟨c6,rfl,k,k6⟩;refine AA ⟨Ext w6,fun W e=>k6.trans e,Ext.refl _,?_⟩;refine go ?_;refine⟨(i+1,c6),⟨rfl,⟨rfl,rfl,rfl,rfl,?_,trivial⟩,⟨by simp only;omega,(A.trans s).trans k6,?_⟩⟩,by simp only;omega⟩
   ·show iV ((i:Int)+1)=_;rw[Int.natCast_add];rfl
   ·simp only;rw[k];obtain⟨hh,b6⟩:=E.1 Z;constructor
    ·rintro rfl;refine⟨hh,fun j D=>?_⟩;by_cases b5:j=i
     ·subst b5;rw[V,hy]
     ·exact b6 j U
    ·rintro⟨_,D⟩;have:=D i U;rw[V,hy]at this;exact Option.some.inj this
  ·refine go ?_;exact AC rfl (a6 w4 A (fun h=>absurd h Z))
 ·refine go ?_;exact AC rfl (a6 w4 A (fun h=>by omega))
theorem same_ok(w:World)(v E:Value)(f g:Fml)(P:FAt Af w v f)(d:FAt Af w E g):Fn Zp 12 [v,E] w fun r w'=>∃b:Bool,r=.bool b/\(b=true↔f=g)/\Ext w w':=by
 obtain⟨q,rfl,C,p⟩:=P.cells;obtain⟨F,rfl,m,s⟩:=d.cells;obtain⟨n,B,Q,S,h,rfl⟩:=Ak C;obtain⟨k,y,M,l,R,rfl⟩:=Ak m;refine AN Tryz.func12 rfl Tryz.ntmps12 (go ?_);refine A3 (L:=[n,B,Q,S,h]) rfl (fun u A=>?_);refine A3 (L:=[k,y,M,l,R]) rfl (fun N W=>?_);have o:=A.D.E W.E O;have j:=W.D;have a:Ext w N:=A.E.trans W.E;refine go ?_;refine AF (compare_ok _ f g (Nat.le_refl _) N _ _ (P.ext a) (d.ext a)) rfl ?_;rintro _ z⟨c,rfl,Z,i⟩;by_cases t:c=0
 ·refine go ?_;exact AC rfl ⟨true,rfl,by simp[Z.1 t],a.trans i⟩
 ·refine go ?_;exact AC rfl ⟨false,rfl,by simp;exact fun e=>t (Z.2 e),a.trans i⟩
theorem rop_ok(w:World)(op:Int)(ok:Nat->Prop)(a:Option Addr)(c:Nat)(L:List (LV))(l:LF)(d:Sl ok w (.slice a l.length c) l.length L.flatten)(s:FsAt ok w L l):
  Fn Zp 301 [iV op,.slice a l.length c] w fun v w'=>Ext w w'/\FAt ok w' v ⟨op,[],0,0,l⟩:=by
 refine AN Tryz.func301 rfl Tryz.ntmps301 (go ?_);refine AY (fun Q A=>?_);have n:Blk Q w.heap.size 37 zero5:=A.D;refine go ?_;refine AI (cs:=[iV op,AL [],iV 0,iV 0,.slice a l.length c]) rfl rfl rfl (AV rfl) n EV (fun N b=>?_);have j:Blk N w.heap.size 37 [iV op,AL [],iV 0,iV 0,.slice a l.length c]:=b.D;refine go ?_;have e:Ext w N:=A.E.E b.E O;exact AW rfl rfl rfl j.cells ⟨e,FAt.node op [] 0 0 (d.ext e) (s.ext e)⟩
theorem rlate_ok(w:World)(op b:Int)(ok:Nat->Prop)(a:Option Addr)(c:Nat)(L:List (LV))(l:LF)(f:Sl ok w (.slice a l.length c) l.length L.flatten)(s:FsAt ok w L l):
  Fn Zp 306 [iV op,iV b,.slice a l.length c] w fun v w'=>Ext w w'/\FAt ok w' v ⟨op,[],b,0,l⟩:=by
 refine AN Tryz.func306 rfl Tryz.ntmps306 (go ?_);refine AY (fun Q A=>?_);have n:Blk Q w.heap.size 37 zero5:=A.D;refine go ?_;refine AI (cs:=[iV op,AL [],iV b,iV 0,.slice a l.length c]) rfl rfl rfl (AV rfl) n EV (fun N d=>?_);have j:Blk N w.heap.size 37 [iV op,AL [],iV b,iV 0,.slice a l.length c]:=d.D;refine go ?_;have e:Ext w N:=A.E.E d.E O;exact AW rfl rfl rfl j.cells ⟨e,FAt.node op [] b 0 (f.ext e) (s.ext e)⟩
theorem FAt.ret{ok:Nat->Prop}{w w':World}{v:Value}{f:Fml}{b:Nat}{cs:LV}(h:FAt (fun x=>ok x/\x≠b) w v f)(e:v=.agg cs.toArray)(k:Keep [b] w w'):FAt ok w' (.agg cs.toArray) f:=by
 rw[<-e];exact(h.E k (fun x V=>by simpa using V.2)).mono fun x V=>V.1
theorem roneX_ok(w:World)(op:Int)(ok:Nat->Prop)(v:Value)(f:Fml)(P:FAt ok w v f)(u:ok w.heap.size)(V:∀x,w.heap.size<=x->ok x):Fn Zp 300 [iV op,v] w fun v w'=>Ext w w'/\FAt ok w' v ⟨op,[],0,0,[f]⟩:=by
 have o:=P.lt;obtain⟨q,rfl,C,i⟩:=P.cells;obtain⟨n,B,Q,S,b,rfl⟩:=Ak C;refine AN Tryz.func300 rfl Tryz.ntmps300 (go ?_);refine A3 (L:=[n,B,Q,S,b]) rfl (fun h A=>?_);refine AY (fun N W=>?_);have R:=A.D.E W.E O;have j:Blk N h.heap.size 37 zero5:=W.D;have d:Ext w N:=A.E.trans W.E;have m:=A.size;have F:=W.size;refine go ?_;refine AP (out:=[n,B,Q,S,b]) rfl U EZ (fun z r=>?_);have y:=r.size;obtain⟨k,p⟩:=FsAt.fresh (ok:=fun x=>ok x/\x≠h.heap.size) (L:=[[n,B,Q,S,b]]) r (FsAt.one ((o.ext d).mono fun x s=>⟨s.1,by omega⟩) rfl) ⟨V _ U,by omega⟩ O;refine AF (rop_ok z op _ _ _ _ [f] k p) rfl ?_;rintro v D⟨c,a⟩;have t:=(j.E r.E O).E c O;refine BE rfl rfl a t rfl (fun E q e C g G l=>go ?_);exact AW rfl rfl C l.cells ⟨((d.trans r.E).trans c).E g EP,a.ret e g⟩
theorem rtwoX_ok(w:World)(op:Int)(ok:Nat->Prop)(v p:Value)(f g:Fml)(P:FAt ok w v f)(k:FAt ok w p g)(G:∀x,w.heap.size<=x->ok x):Fn Zp 302 [iV op,v,p] w fun v w'=>Ext w w'/\FAt ok w' v ⟨op,[],0,0,[f,g]⟩:=by
 have u:=P.lt;have D:=k.lt;obtain⟨q,rfl,C,T⟩:=P.cells;obtain⟨F,rfl,t,Z⟩:=k.cells;obtain⟨n,B,Q,S,d,rfl⟩:=Ak C;obtain⟨E,y,M,h,R,rfl⟩:=Ak t;refine AN Tryz.func302 rfl Tryz.ntmps302 (go ?_);refine A3 (L:=[n,B,Q,S,d]) rfl (fun w1 A=>?_);refine A3 (L:=[E,y,M,h,R]) rfl (fun N W=>?_);refine AY (fun z r=>?_);have K:=(A.D.E W.E O).E r.E O;have X:=W.D.E r.E O;have s:Blk z N.heap.size 37 zero5:=r.D;have i:Ext w z:=(A.E.trans W.E).trans r.E;have z1:=A.size;have z2:=W.size;have z3:=r.size;refine go ?_;refine AP (out:=[n,B,Q,S,d,E,y,M,h,R]) rfl U Ei (fun H a=>?_);have z4:=a.size;obtain⟨b,I⟩:=FsAt.fresh (ok:=fun x=>ok x/\x≠N.heap.size) (L:=[[n,B,Q,S,d],[E,y,M,h,R]]) a (FsAt.two ((u.ext i).mono fun x V=>⟨V.1,by omega⟩) rfl ((D.ext i).mono fun x V=>⟨V.1,by omega⟩) rfl) ⟨G _ U,by omega⟩ O;refine AF (rop_ok H op _ _ _ _ [f,g] b I) rfl ?_;rintro v w5⟨l,o⟩;have j:=(s.E a.E O).E l O;refine BE rfl rfl o j rfl (fun w6 q e C m z6 c=>go ?_);exact AW rfl rfl C c.cells ⟨((i.trans a.E).trans l).E m EP,o.ret e m⟩
theorem FAt.any{ok ok':Nat->Prop}{w w':World}{v:Value}{f:Fml}(h:FAt ok w v f)(t:f.args=[]):FAt ok' w' v f:=by
 cases h with
 |mk op nm vl bd args av L hS hL h5 hA=>
  have W:args=[]:=t;subst W;obtain⟨a,c,rfl,Z,b,R,_⟩:=hS;exact .mk op nm vl bd [] _ [] ⟨a,c,rfl,Z,b,R,.inl rfl⟩ rfl (fun c T=>by cases T) (fun i c g h=>by simp at h)
theorem rqm_eq{r s:Rqm}:r=s↔r.part=s.part/\r.name=s.name/\r.kind=s.kind/\r.formula=s.formula:=by
 obtain⟨a,b,c,d⟩:=r;obtain⟨Z,v,I,w⟩:=s;simp
theorem sameReq_ok(w:World)(c d:LV)(r s:Rqm)(G:reqR.fits Af w c r)(F:reqR.fits Af w d s):Fn Zp 90 [.agg c.toArray,.agg d.toArray] w fun v w'=>∃b:Bool,v=.bool b/\(b=true↔r=s)/\Ext w w':=by
 obtain⟨I,rfl,D,t⟩:=G;obtain⟨x,rfl,m,K⟩:=F;obtain⟨n,B,Q,S,a,rfl⟩:=Ak D;obtain⟨E,y,M,f,R,rfl⟩:=Ak m;refine AN Tryz.func90 rfl Tryz.ntmps90 (go ?_);refine A3 (L:=[AL r.part,AL r.name,iV r.kind,n,B,Q,S,a]) rfl (fun u A=>?_);refine A3 (L:=[AL s.part,AL s.name,iV s.kind,E,y,M,f,R]) rfl (fun N W=>?_);have g:=A.D.E W.E O;have j:=W.D;have e:Ext w N:=A.E.trans W.E;((refine AO ?_;refine AE rfl ?_))
 repeat refine nx rfl ?_
 have k:Cells N w.heap.size 3 [n,B,Q,S,a]:=by
  have:=g.cells.part 3 5;simpa using this
 have l:Cells N u.heap.size 3 [E,y,M,f,R]:=by
  have:=j.cells.part 3 5;simpa using this
 (refine AJ (AB rfl ?_)<;>refine AH rfl (Blk.cell ER EQ) ?_<;>refine AB rfl ?_<;>refine AH rfl (Blk.cell ER EQ) ?_<;>refine Bg rfl rfl (fun T=>?_) (fun T=>?_)<;>refine AE rfl ?_<;>(first|refine Ah rfl ?_|(refine AK rfl ?_;refine AB rfl ?_))<;>(first|refine Ah rfl ?_|(refine AK rfl ?_;refine AH rfl (Blk.cell ER EQ) ?_))<;>(first|refine Ah rfl ?_|(refine AK rfl ?_;refine AB rfl ?_))<;>(first|refine Ah rfl ?_|(refine AK rfl ?_;refine AH rfl (Blk.cell ER EQ) ?_))<;>(first|refine Ah rfl ?_|(refine AK rfl ?_;refine Bg rfl rfl (fun T=>?_) (fun T=>?_)))<;>((first|refine Ae rfl ?_|refine Ad rfl ?_);refine AE rfl ?_)<;>refine AE rfl ?_<;>(first|refine Ah rfl ?_|(refine AK rfl ?_;refine AB rfl ?_))<;>(first|refine Ah rfl ?_|(refine AK rfl ?_;refine AH rfl (Blk.cell ER EQ) ?_))<;>(first|refine Ah rfl ?_|(refine AK rfl ?_;refine AB rfl ?_))<;>(first|refine Ah rfl ?_|(refine AK rfl ?_;refine AH rfl (Blk.cell ER EQ) ?_))<;>(first|refine Ah rfl ?_|(refine AK rfl ?_;(refine Bf rfl rfl (fun T=>?_) (fun T=>?_)<;>try omega)))<;>((first|refine Ae rfl ?_|refine Ad rfl ?_);refine AE rfl ?_)<;>refine AE rfl ?_<;>(first|refine Ah rfl ?_|(refine AK rfl ?_;refine AB rfl ?_)))
 ·refine go ?_;refine AQ (L:=[n,B,Q,S,a]) rfl rfl k (go ?_);refine AQ (L:=[E,y,M,f,R]) rfl rfl l (go ?_);refine AF (same_ok N _ _ r.formula s.formula (t.ext e) (K.ext e)) rfl ?_;rintro _ z⟨b,rfl,q,i⟩;refine go ?_;exact AC rfl ⟨b,rfl,by rw[q,rqm_eq];exact⟨fun h=>⟨by assumption,by assumption,by assumption,h⟩,fun h=>h.2.2.2⟩,e.trans i⟩
 all_goals
  refine go ?_;refine AC rfl ⟨false,rfl,?_,e⟩;rw[rqm_eq];constructor
  ·intro h;cases h
  ·rintro⟨Z,o,p,C⟩;exfalso;first|exact absurd Z ER|exact absurd o ER|exact absurd p ER
theorem sameReqs_ok(w:World)(v B:Value)(l m:List Rqm)(K:SlAt reqR Af w v l)(hm:SlAt reqR Af w B m):Fn Zp 34 [v,B] w fun v w'=>∃b:Bool,v=.bool b/\(b=true↔l=m)/\Ext w w':=by
 obtain⟨a,c,L,rfl,z,s⟩:=K;obtain⟨C,I,M,rfl,g,q⟩:=hm;have a4:l.length<=9223372036854775807:=by obtain⟨_,_,hv,g1,g2,_⟩:=id z;cases hv;omega
 refine AN Tryz.func34 rfl Tryz.ntmps34 (go ?_);by_cases Q:l.length=m.length
 ·refine go ?_;refine Ar (α:=Nat) (fun k=>[(0,.slice a l.length c),(1,.slice C m.length I),(5,iV (k:Int))]) (fun k W=>k<=l.length/\Ext w W/\∀j,j<k->l[j]?=m[j]?) (fun k=>l.length-k) 0 ag ⟨by omega,Ext.refl _,fun j T=>by omega⟩ ?_;rintro k w3 f3⟨hk,d,T⟩;refine go ?_;by_cases r:k<l.length
  ·obtain⟨x,V⟩:∃x,l[k]?=some x:=⟨_,List.getElem?_eq_getElem r⟩;obtain⟨y,E⟩:∃y,m[k]?=some y:=⟨_,List.getElem?_eq_getElem U⟩;obtain⟨f,A⟩:∃f,L[k]?=some f:=⟨_,List.getElem?_eq_getElem (by rw[s.1];exact r)⟩;obtain⟨n,Z⟩:∃n,M[k]?=some n:=⟨_,List.getElem?_eq_getElem (by rw[q.1];omega)⟩;have X:=reqR.ext (s.2 k f x A V) d;have u:=reqR.ext (q.2 k n y Z E) d;obtain⟨bx,ox,rfl,_,F⟩:=(z.ext d).recs (s.ext d) (sz:=8) rfl A r;obtain⟨a2,oy,rfl,_,G⟩:=(g.ext d).recs (q.ext d) (sz:=8) rfl Z U;have R:f.length=8:=reqR.len X;have a0:n.length=8:=reqR.len u;refine go ?_;refine Ac (rd 0 8 (.alt 8 (.read 9 .done) .stop)) Ap EO (fun N p ed=>⟨Ext N,?_,?_⟩)
   ·exact FQ
   refine D_R rfl rfl (fun W o=>by refine Cq ?_;exact AA ⟨rfl,rfl,rfl⟩) ?_;refine D_R rfl rfl (fun W o=>by refine Cq ?_;exact AA ⟨rfl,rfl,rfl⟩) ?_;refine D_R rfl rfl (fun W o=>by refine CG (k:=k) rfl rfl rfl U ?_;exact AA ⟨rfl,rfl,rfl⟩) ?_;refine D_R (v:=.agg f.toArray) rfl rfl (fun W o=>by refine AQ rfl R ((F.E p O).E o O) ?_;exact AA ⟨rfl,rfl,rfl⟩) ?_;refine D_R rfl rfl (fun W o=>by refine Cq ?_;exact AA ⟨rfl,rfl,rfl⟩) ?_;refine D_R rfl rfl (fun W o=>by refine Cq ?_;exact AA ⟨rfl,rfl,rfl⟩) ?_;refine D_R rfl rfl (fun W o=>by refine CG (k:=k) rfl rfl rfl U ?_;exact AA ⟨rfl,rfl,rfl⟩) ?_;refine D_R (v:=.agg n.toArray) rfl rfl (fun W o=>by refine AQ rfl a0 ((G.E p O).E o O) ?_;exact AA ⟨rfl,rfl,rfl⟩) ?_;refine D_E rfl ?_;refine AF (sameReq_ok N f n x y (reqR.ext X p) (reqR.ext u p)) rfl ?_;rintro _ w6⟨b,rfl,S,t⟩;refine AA ⟨Ext w6,fun W e=>t.trans e,Ext.refl _,?_⟩;refine go ?_;cases b with
   |true=>
    have a1:=S.1 rfl;subst a1;refine go ?_;refine⟨k+1,⟨rfl,⟨rfl,rfl,?_,trivial⟩,⟨by omega,(d.trans p).trans t,fun j a3=>?_⟩⟩,by omega⟩
    ·show iV ((k:Int)+1)=_;rw[Int.natCast_add];rfl
    ·by_cases P:j=k
     ·subst P;rw[V,E]
     ·exact T j U
   |false=>
    refine go ?_;refine AC rfl ⟨false,rfl,?_,(d.trans p).trans t⟩;constructor
    ·intro h;cases h
    ·intro h;exfalso;have D:x=y:=by rw[h,E]at V;exact(Option.some.inj V).symm
     have:=S.2 D;cases this
  ·refine go ?_;refine AC rfl ⟨true,rfl,?_,d⟩;refine⟨fun _=>List.ext_getElem? fun i=>?_,fun _=>rfl⟩;by_cases H:i<k
   ·exact T i H
   ·rw[List.getElem?_eq_none U,List.getElem?_eq_none U]
 ·refine go ?_;exact AC rfl ⟨false,rfl,⟨fun h=>Eh,fun h=>absurd (by rw[h]) Q⟩,Ext.refl _⟩
theorem sgn_same(x y:Sgn):∀p∈[(0,9),(1,4),(2,3)],∃a b,(sgnC x)[p.1]?=some a/\(sgnC y)[p.1]?=some b/\sameSort Zp p.2 a b:=by
 intro p c;simp only[List.mem_cons,List.not_mem_nil,or_false]at c;rcases c with rfl|rfl|rfl
 ·exact⟨_,_,rfl,rfl,Tryz.underlying9⟩
 ·exact⟨_,_,rfl,rfl,Tryz.underlying4⟩
 ·exact⟨_,_,rfl,rfl,rfl,Tryz.underlying3⟩
theorem sgn_eq{x y:Sgn}(h:∀p∈([(0,9),(1,4),(2,3)]:List (Nat×TypeId)),(sgnC x)[p.1]?=(sgnC y)[p.1]?):x=y:=by
 have t:=h (0,9) O;have Z:=h (1,4) O;have W:=h (2,3) O;cases x;cases y;simp[sgnC]at t Z W;simp[t,Z,W]
theorem sameSgn_ok(w:World)(v A:Value)(l m:List Sgn)(K:SlAt sgnR Af w v l)(Q:SlAt sgnR Af w A m):Fn Zp 33 [v,A] w fun v w'=>∃b:Bool,v=.bool b/\(b=true↔l=m)/\Ext w w':=by
 obtain⟨a,c,L,rfl,z,s⟩:=K;obtain⟨B,I,M,rfl,g,t⟩:=Q;have a1:l.length<=9223372036854775807:=by obtain⟨_,_,p,g1,g2,_⟩:=id z;cases p;omega
 refine AN Tryz.func33 rfl Tryz.ntmps33 (go ?_);by_cases P:l.length=m.length
 ·refine go ?_;refine Ar (α:=Nat) (fun k=>[(0,.slice a l.length c),(1,.slice B m.length I),(5,iV (k:Int))]) (fun k W=>k<=l.length/\Ext w W/\∀j,j<k->l[j]?=m[j]?) (fun k=>l.length-k) 0 ag ⟨by omega,Ext.refl _,fun j T=>by omega⟩ ?_;rintro k w3 f3⟨hk,d,T⟩;refine go ?_;by_cases u:k<l.length
  ·obtain⟨x,V⟩:∃x,l[k]?=some x:=⟨_,List.getElem?_eq_getElem u⟩;obtain⟨y,E⟩:∃y,m[k]?=some y:=⟨_,List.getElem?_eq_getElem U⟩;obtain⟨e,S⟩:∃e,L[k]?=some e:=⟨_,List.getElem?_eq_getElem (by rw[s.1];exact u)⟩;obtain⟨f,Z⟩:∃f,M[k]?=some f:=⟨_,List.getElem?_eq_getElem (by rw[t.1];omega)⟩;obtain rfl:e=sgnC x:=s.2 k e x S V;obtain rfl:f=sgnC y:=t.2 k f y Z E;obtain⟨R,ox,rfl,_,F⟩:=(z.ext d).recs (s.ext d) (sz:=3) rfl S u;obtain⟨X,oy,rfl,_,C⟩:=(g.ext d).recs (t.ext d) (sz:=3) rfl Z U;refine go ?_;refine Ac (rd 0 9 .done) Ap EO (fun N q ed=>⟨fun W=>W=N,?_,?_⟩)
   ·rfl
   refine D_R rfl rfl (fun W o=>by refine Cq ?_;exact AA ⟨rfl,rfl,rfl⟩) ?_;refine D_R rfl rfl (fun W o=>by refine Cq ?_;exact AA ⟨rfl,rfl,rfl⟩) ?_;refine D_R rfl rfl (fun W o=>by refine CG (k:=k) rfl rfl rfl U ?_;exact AA ⟨rfl,rfl,rfl⟩) ?_;refine D_R (v:=.agg (sgnC x).toArray) rfl rfl (fun W o=>by subst o;refine AQ rfl rfl (F.E q O) ?_;exact AA ⟨rfl,rfl,rfl⟩) ?_;refine D_R rfl rfl (fun W o=>by refine Cq ?_;exact AA ⟨rfl,rfl,rfl⟩) ?_;refine D_R rfl rfl (fun W o=>by refine Cq ?_;exact AA ⟨rfl,rfl,rfl⟩) ?_;refine D_R rfl rfl (fun W o=>by refine CG (k:=k) rfl rfl rfl U ?_;exact AA ⟨rfl,rfl,rfl⟩) ?_;refine D_R (v:=.agg (sgnC y).toArray) rfl rfl (fun W o=>by subst o;refine AQ rfl rfl (C.E q O) ?_;exact AA ⟨rfl,rfl,rfl⟩) ?_;by_cases n:x=y
   ·subst n;refine D_R (v:=.bool false) rfl rfl (fun W o=>?_) ?_
    ·refine W_flNeq (xs:=sgnC x) (ys:=sgnC x) rfl rfl (sgn_same x x) (fun r G=>?_);obtain rfl:r=true:=G.2 fun _ _=>rfl;exact AA ⟨rfl,rfl,rfl⟩
    refine go ?_;refine⟨k+1,⟨rfl,⟨rfl,rfl,?_,trivial⟩,⟨by omega,d.trans q,fun j a0=>?_⟩⟩,by omega⟩
    ·show iV ((k:Int)+1)=_;rw[Int.natCast_add];rfl
    ·by_cases D:j=k
     ·subst D;rw[V,E]
     ·exact T j U
   ·refine D_R (v:=.bool true) rfl rfl (fun W o=>?_) ?_
    ·refine W_flNeq (xs:=sgnC x) (ys:=sgnC y) rfl rfl (sgn_same x y) (fun r G=>?_)
     obtain rfl:r=false:=by
      cases r with
      |false=>rfl
      |true=>exact absurd (sgn_eq (G.1 rfl)) n
     exact AA ⟨rfl,rfl,rfl⟩
    refine go ?_;refine AC rfl ⟨false,rfl,?_,d.trans q⟩;constructor
    ·intro h;cases h
    ·intro h;exfalso;apply n;rw[h,E]at V;exact(Option.some.inj V).symm
  ·refine go ?_;refine AC rfl ⟨true,rfl,?_,d⟩;refine⟨fun _=>List.ext_getElem? fun i=>?_,fun _=>rfl⟩;by_cases H:i<k
   ·exact T i H
   ·rw[List.getElem?_eq_none U,List.getElem?_eq_none U]
 ·refine go ?_;exact AC rfl ⟨false,rfl,⟨fun h=>Eh,fun h=>absurd (by rw[h]) P⟩,Ext.refl _⟩
theorem spc_eq{r s:Spc}:r=s↔r.sigs=s.sigs/\r.reqs=s.reqs:=by
 obtain⟨a,b⟩:=r;obtain⟨Z,v⟩:=s;simp
theorem sameSpec_ok(w:World)(c d:LV)(r s:Spc)(G:spcR.fits Af w c r)(F:spcR.fits Af w d s):Fn Zp 9 [.agg c.toArray,.agg d.toArray] w fun v w'=>∃b:Bool,v=.bool b/\(b=true↔r=s)/\Ext w w':=by
 obtain⟨l,q,rfl,Z,f⟩:=G;obtain⟨u,t,rfl,a,g⟩:=F;have k:=Z;have m:=f;have C:=a;have K:=g;obtain⟨_,_,_,rfl,_⟩:=k;obtain⟨_,_,_,rfl,_⟩:=m;obtain⟨_,_,_,rfl,_⟩:=C;obtain⟨_,_,_,rfl,_⟩:=K;refine AN Tryz.func9 rfl Tryz.ntmps9 (go ?_);refine A3 (L:=[_,_]) rfl (fun Q A=>?_);refine A3 (L:=[_,_]) rfl (fun N W=>?_);have R:=A.D.E W.E O;have j:=W.D;have e:Ext w N:=A.E.trans W.E;refine go ?_;refine AF (sameSgn_ok N _ _ _ _ (Z.ext e) (a.ext e)) rfl ?_;rintro _ z⟨b,rfl,S,i⟩;have P:=R.E i O;have p:=j.E i O;cases b with
 |true=>
  refine go ?_;refine AF (sameReqs_ok z _ _ _ _ ((f.ext e).ext i) ((g.ext e).ext i)) rfl ?_;rintro _ x⟨b,rfl,n,o⟩;refine go ?_;exact AC rfl ⟨b,rfl,by rw[n,spc_eq];exact⟨fun h=>⟨S.1 rfl,h⟩,fun h=>h.2⟩,(e.trans i).trans o⟩
 |false=>
  refine go ?_;refine AC rfl ⟨false,rfl,?_,e.trans i⟩;rw[spc_eq];exact⟨fun h=>Eh,fun h=>absurd (S.2 h.1) O⟩
theorem in_ok(w:World)(v:Value)(l:List (LU))(s:LU)(m:Sl Af w v l.length (l.map AL)):Fn Zp 189 [v,AL s] w fun v w'=>v=.bool (decide (s∈l))/\w'=w:=by
 obtain⟨a,c,rfl,H,g,_,r⟩:=m;refine AN Tryz.func189 rfl Tryz.ntmps189 (go ?_);refine Ar (α:=Nat) (fun k=>[(0,.slice a l.length c),(1,AL s),(5,iV (k:Int))]) (fun k W=>k<=l.length/\s∉l.take k/\W=w) (fun k=>l.length-k) 0 ag ⟨by omega,by simp,rfl⟩ ?_;rintro k N f⟨L,I,rfl⟩;repeat refine nx rfl ?_
 by_cases x:k<l.length
 ·obtain⟨b,o,rfl,_,C⟩:=r.resolve_left U;obtain⟨y,E⟩:∃y,l[k]?=some y:=⟨_,List.getElem?_eq_getElem x⟩;have D:N.cell? ⟨b,o+k,none⟩=some (AL y):=C k _ (by simp[E]);have d:l.take (k+1)=l.take k++[y]:=by rw[List.take_add_one,E];rfl
  (refine AJ (AS rfl (Ay rfl (Bi rfl ?_)))<;>(refine C6 rfl rfl (fun T=>?_) (fun T=>?_)<;>try omega))
  repeat refine nx rfl ?_
  by_cases i:y=s
  ·(refine AJ (Ay rfl (AS rfl (W_idx1 rfl rfl rfl U (AH rfl ER ?_))))<;>refine BC rfl ?_<;>refine Bg rfl rfl (fun T=>?_) (fun T=>?_)<;>refine AA ?_)
   case refine_2=>exact absurd i ER
   repeat refine nx rfl ?_
   refine AJ (AO (AE rfl ?_));repeat refine nx rfl ?_
   exact AC rfl ⟨by rw[decide_eq_true (List.mem_of_getElem? (i▸E):s∈l)];rfl,rfl⟩
  ·(refine AJ (Ay rfl (AS rfl (W_idx1 rfl rfl rfl U (AH rfl ER ?_))))<;>refine BC rfl ?_<;>refine Bg rfl rfl (fun T=>?_) (fun T=>?_)<;>refine AA ?_)
   case refine_1=>exact absurd ER i
   refine go ?_;refine⟨k+1,⟨rfl,⟨rfl,rfl,?_,trivial⟩,⟨by omega,by rw[d];simp[I];exact fun e=>i e.symm,rfl⟩⟩,by omega⟩;show iV ((k:Int)+1)=_;rw[Int.natCast_add];rfl
 ·obtain rfl:k=l.length:=by omega
  refine go ?_;rw[List.take_length]at I;exact AC rfl ⟨by rw[decide_eq_false I];rfl,rfl⟩
theorem keywords_ok(w:World):Fn Zp 190 [] w fun v w'=>Sl Af w' v keysL.length (keysL.map AL)/\Ext w w':=by
 refine AN Tryz.func190 rfl Tryz.ntmps190 (go ?_);exact GA
theorem refName_ok(s:LU)(w:World):Fn Zp 130 [AL s] w fun v w'=>v=.bool (BH s)/\Ext w w':=by
 refine AN Tryz.func130 rfl Tryz.ntmps130 (go ?_);by_cases u:s.length<1
 ·refine go ?_;exact AC rfl ⟨by rw[DN,decide_eq_false (show¬1<=s.length by omega)];rfl,Ext.refl _⟩
 by_cases n:12<s.length
 ·refine go ?_;exact AC rfl ⟨by rw[DN,decide_eq_false (show¬s.length<=12 by omega)];simp[upd,Nat.beq],Ext.refl _⟩
 refine go ?_;refine AF (keywords_ok w) rfl ?_;rintro v Q⟨l,Z⟩;obtain⟨A,B,rfl,_⟩:=id l;refine go ?_;refine AF (in_ok Q _ keysL s l) rfl ?_;rintro _ E⟨rfl,e⟩;obtain rfl:=e.symm;refine go ?_;by_cases P:s∈keysL
 ·rw[decide_eq_true P];refine go ?_;exact AC rfl ⟨by rw[DN,decide_eq_true P];simp[upd,Nat.beq],Z⟩
 rw[decide_eq_false P];refine go ?_;refine Ar (α:=Nat) (fun k=>[(0,AL s),(3,iV (k:Int))]) (fun k W=>k<=s.length/\(∀(i:Nat)(c:UInt8),i<k->s[i]?=some c->okAt i c=true)/\W=Q) (fun k=>s.length-k) 0 ag ⟨by omega,fun i c H=>by omega,rfl⟩ ?_;rintro k m q⟨L,p,rfl⟩;repeat refine nx rfl ?_
 by_cases x:k<s.length
 ·have b:s[k]?=some s[k]:=List.getElem?_eq_getElem x;generalize s[k]=c at b;have o:=c.toNat_lt
  have z:okAt k c=true->∀(i:Nat)(d:UInt8),i<k+1->s[i]?=some d->okAt i d=true:=fun G i d H C=>by
   by_cases f:i=k
   ·subst f;rw[b]at C;cases C;exact G
   ·exact p i d U C
  (refine AJ (AS rfl (BC rfl (Cz rfl ?_)))<;>(refine C6 rfl rfl (fun T=>?_) (fun T=>?_)<;>try omega))
  repeat refine nx rfl ?_
  refine CA (α:=Unit) (fun _=>[(0,AL s),(3,iV (k:Int)),(4,.bool (A5 c))]) (fun _ W=>m=W) ?_ ?_
  ·by_cases D:97<=c.toNat
   ·by_cases S:c.toNat<=122
    ·rw[show A5 c=true by simp[A5,D,S]];exact FK
    ·rw[show A5 c=false by simp[A5,D,S]];exact FK
   ·rw[show A5 c=false by simp[A5,D]];exact FK
  rintro _ _ r rfl;repeat refine nx rfl ?_
  refine CA (α:=Unit) (fun _=>[(0,AL s),(3,iV (k:Int)),(4,.bool (A5 c)),(5,.bool (Au c||decide (c.toNat=95)))]) (fun _ W=>m=W) ?_ ?_
  ·by_cases D:48<=c.toNat
   ·by_cases S:c.toNat<=57
    ·rw[show(Au c||decide (c.toNat=95))=true by simp[Au,D,S]];exact FK
    ·by_cases g:c.toNat=95
     ·rw[show(Au c||decide (c.toNat=95))=true by simp[g]];exact FK
     ·rw[show(Au c||decide (c.toNat=95))=false by simp[Au,g,D,S]];exact FK
   ·rw[show(Au c||decide (c.toNat=95))=false by simp[Au,D];omega];exact FK
  rintro _ _ t rfl;refine go ?_
  have a:okAt k c=false->BH s=false:=fun h=>by
   have j:shapeB s=false:=by
    cases hsb:shapeB s with
    |false=>rfl
    |true=>rw[(shapeB_iff s U).1 hsb k c b]at h;cases h
   rw[DN,j];simp
  have N:okAt k c=(A5 c||(decide (0<k)&&(Au c||decide (c.toNat=95)))):=rfl;cases hsm:A5 c with
  |true=>
   refine go ?_;refine⟨k+1,⟨rfl,⟨rfl,?_,trivial⟩,⟨by omega,z (by rw[N,hsm];rfl),rfl⟩⟩,by omega⟩;show iV ((k:Int)+1)=_;rw[Int.natCast_add];rfl
  |false=>
   by_cases y:k=0
   ·have S:=a (by rw[N,hsm,decide_eq_false (show¬0<k by omega)];rfl);exact GH
   ·cases hrs:(Au c||decide (c.toNat=95))with
    |true=>
     refine go ?_;refine⟨k+1,⟨rfl,⟨rfl,?_,trivial⟩,⟨by omega,z (by rw[N,hsm,hrs,decide_eq_true (show 0<k by omega)];rfl),rfl⟩⟩,by omega⟩;show iV ((k:Int)+1)=_;rw[Int.natCast_add];rfl
    |false=>
     have S:=a (by rw[N,hsm,hrs];simp);exact GH
 ·obtain rfl:k=s.length:=by omega
  have j:shapeB s=true:=(shapeB_iff s U).2 fun i c T=>p i c (List.getElem?_eq_some_iff.1 T).1 T;refine go ?_;exact AC rfl ⟨by rw[DN,j,decide_eq_false P,decide_eq_true (show 1<=s.length by omega),decide_eq_true (show s.length<=12 by omega)];rfl,Z⟩
theorem G.bind_assoc{α β γ:Type}(p:G α)(u:α->G β)(q:β->G γ):(p.bind u).bind q=p.bind fun a=>(u a).bind q:=by
 induction p with
 |ret a=>rfl
 |fail=>rfl
 |look k ih=>simp only[G.bind];congr 1;funext o;exact ih o
 |next g ih=>simp only[G.bind];rw[ih]
 |call nt k ih=>simp only[G.bind];congr 1;funext v;exact ih v
theorem Cg{S:NT->Prop}{x:BT}{α:Type}{s:LU}{q:Bool->G α}(V:A4 s (some x)=false)(w:EF S x false (q true))(P:∀b,EF S x b (q false))(b:Bool):EF S x b ((Ba s).bind q):=by
 refine⟨fun y=>?_,.inr (.inr ⟨?_,?_⟩)⟩
 ·show EF S x true (G.bind (if A4 s (some y)=true then .next (.ret true)else .ret false) q)
  split
  ·exact⟨rfl,w⟩
  ·exact P true
 ·show G.bind (if A4 s none=true then .next (.ret true)else .ret false) q=G.bind (if A4 s (some x)=true then .next (.ret true)else .ret false) q;rw[V];rfl
 ·exact P false
theorem good_expect{S:NT->Prop}{x:BT}{α:Type}{s:LU}{q:Unit->G α}(h:EF S x false (q ()))(b:Bool):EF S x b ((CZ s).bind q):=by
 refine⟨fun y=>?_,.inr (.inl rfl)⟩;show EF S x true (G.bind (if A4 s (some y)=true then .next (.ret ())else .fail) q)
 split
 ·exact⟨rfl,h⟩
 ·trivial
theorem good_name{S:NT->Prop}{x:BT}{α:Type}{q:LU->G α}(h:∀s,EF S x false (q s))(b:Bool):EF S x b (nameG.bind q):=by
 refine⟨fun y=>?_,.inr (.inl rfl)⟩;show EF S x true (G.bind (if decide (y.1=1)&&BH y.2 then .next (.ret y.2)else .fail) q)
 split
 ·exact⟨rfl,h _⟩
 ·trivial
theorem good_number{S:NT->Prop}{x:BT}{α:Type}{q:Int->G α}(h:∀n,EF S x false (q n))(b:Bool):EF S x b (numberG.bind q):=by
 refine⟨fun y=>?_,.inr (.inl rfl)⟩;show EF S x true (G.bind (if decide (y.1=2)then .next (.ret (EL y.2))else .fail) q)
 split
 ·exact⟨rfl,h _⟩
 ·trivial
theorem good_take{S:NT->Prop}{x:BT}{α:Type}{s:List (LU×Opr)}{q:Option Opr->G α}(V:s.lookup x.2=none)(h:∀p,EF S x false (q (some p)))(I:∀b,EF S x b (q none))(b:Bool):EF S x b ((takeG s).bind q):=by
 refine⟨fun y=>?_,.inr (.inr ⟨?_,I false⟩)⟩
 ·show EF S x true (G.bind (match s.lookup y.2 with|some p=>.next (.ret (some p))|none=>.ret none) q);cases s.lookup y.2 with
  |none=>exact I true
  |some p=>exact⟨rfl,h p⟩
 ·show q none=G.bind (match s.lookup x.2 with|some p=>.next (.ret (some p))|none=>.ret none) q;rw[V];rfl
theorem good_index{S:NT->Prop}{x:BT}{α:Type}{o:Opr}{q:Option Int->G α}(V:A4 [91] (some x)=false)(h:∀n b,EF S x b (q n))(b:Bool):EF S x b ((Dy o).bind q):=by
 unfold Dy
 split
 ·exact h none b
 ·rw[G.bind_assoc];refine Cg V ?_ (fun b=>h none b) b;show EF S x false ((numberG.bind fun n=>(CZ [93]).bind fun _=>.ret (some n)).bind q);rw[G.bind_assoc];refine good_number (fun n=>?_) false;rw[G.bind_assoc];exact good_expect (h _ _) false
theorem CN{S:NT->Prop}{x:BT}{α:Type}{b:Bool}{nt:NT}{k:nt.T->G α}(F:S nt)(h:∀v,EF S x false (k v)):EF S x b (.call nt k):=And.intro F h
theorem CH{S:NT->Prop}{x:BT}{α:Type}{b:Bool}{a:α}:EF S x b (.ret a):=trivial
def fmlS:NT->Prop
 | .formula=>True
 | .orN=>True
 | .orL=>True
 | .andN=>True
 | .andL=>True
 | .untilN=>True
 | .unary=>True
 | .primary=>True
 |_=>False
structure StopF(x:BT):Prop where
 imp:A4 [45,62] (some x)=false
 or:A4 [124] (some x)=false
 and:A4 [38] (some x)=false
 tru:A4 [116,114,117,101] (some x)=false
 fls:A4 [102,97,108,115,101] (some x)=false
 opn:A4 [40] (some x)=false
 eq:A4 [61] (some x)=false
 ne:A4 [33,61] (some x)=false
 br:A4 [91] (some x)=false
 pre:prefixT.lookup x.2=none
 inf:infixT.lookup x.2=none
theorem good_formula{S:NT->Prop}{x:BT}(l:∀nt,fmlS nt->S nt)(h:StopF x):∀nt,fmlS nt->EF S x false (body nt)
 | .formula,_=>CN (l .orN trivial) fun a=>by
  refine Cg h.imp ?_ (fun _=>?_) false
  ·exact CN (l .formula trivial) fun _=>CH
  ·exact CH
 | .orN,_=>CN (l .andN trivial) fun a=>CN (l .orL trivial) fun _=>CH
 | .orL,_=>by
  refine Cg h.or ?_ (fun _=>?_) false
  ·exact CN (l .andN trivial) fun a=>CN (l .orL trivial) fun _=>CH
  ·exact CH
 | .andN,_=>CN (l .untilN trivial) fun a=>CN (l .andL trivial) fun _=>CH
 | .andL,_=>by
  refine Cg h.and ?_ (fun _=>?_) false
  ·exact CN (l .untilN trivial) fun a=>CN (l .andL trivial) fun _=>CH
  ·exact CH
 | .untilN,_=>CN (l .unary trivial) fun a=>by
  refine good_take h.inf (fun o=>?_) (fun _=>?_) false
  ·refine good_index h.br (fun n b=>?_) false;exact CN (l .untilN trivial) fun _=>CH
  ·exact CH
 | .unary,_=>by
  refine good_take h.pre (fun o=>?_) (fun _=>?_) false
  ·refine good_index h.br (fun n b=>?_) false;exact CN (l .unary trivial) fun _=>CH
  ·exact CN (l .primary trivial) fun _=>CH
 | .primary,_=>by
  refine Cg h.tru ?_ (fun b=>?_) false
  ·exact CH
  refine Cg h.fls ?_ (fun b=>?_) b
  ·exact CH
  refine Cg h.opn ?_ (fun b=>?_) b
  ·refine CN (l .formula trivial) fun f=>?_;refine good_expect ?_ false;exact CH
  refine good_name (fun s=>?_) b;refine Cg h.eq ?_ (fun b=>?_) false
  ·refine good_number (fun n=>?_) false;exact CH
  refine Cg h.ne ?_ (fun _=>?_) b
  ·refine good_number (fun n=>?_) false;exact CH
  ·exact CH
theorem stop_close:StopF (3,[41]):=⟨by decide,by decide,by decide,by decide,by decide,by decide,by decide,by decide,by decide,by decide,by decide⟩
theorem run_yes{β:Type}{s:LU}{q:Bool->G β}{x:Tok}{l:List Tok}{r:Ans β}(h:A4 s (some (bare x))=true)(T:Run (q true) l r):Run ((Ba s).bind q) (x::l) r:=by
 have:Run (Ba s) (x::l) (.ok (true,l)):=Run.look (by
  show Run (if A4 s (some (bare x))=true then .next (.ret true)else .ret false) _ _;rw[if_pos h];exact Run.next (Run.ret _ _))
 exact this.bind T
theorem Dg{β:Type}{s:LU}{q:Bool->G β}{l:List Tok}{r:Ans β}(h:A4 s (l.head?.map bare)=false)(T:Run (q false) l r):Run ((Ba s).bind q) l r:=by
 have:Run (Ba s) l (.ok (false,l)):=Run.look (by
  show Run (if A4 s (l.head?.map bare)=true then .next (.ret true)else .ret false) _ _;rw[h];exact Run.ret _ _)
 exact this.bind T
theorem Cy{β:Type}{s:LU}{q:Unit->G β}{x:Tok}{l:List Tok}{r:Ans β}(h:A4 s (some (bare x))=true)(T:Run (q ()) l r):Run ((CZ s).bind q) (x::l) r:=by
 have:Run (CZ s) (x::l) (.ok ((),l)):=Run.look (by
  show Run (if A4 s (some (bare x))=true then .next (.ret ())else .fail) _ _;rw[if_pos h];exact Run.next (Run.ret _ _))
 exact this.bind T
theorem run_name{β:Type}{q:LU->G β}{x:Tok}{l:List Tok}{r:Ans β}(L:x.kind=1)(I:BH x.text=true)(T:Run (q x.text) l r):Run (nameG.bind q) (x::l) r:=by
 have:Run nameG (x::l) (.ok (x.text,l)):=Run.look (by
  show Run (if decide (x.kind=1)&&BH x.text then .next (.ret x.text)else .fail) _ _;rw[if_pos (by simp[L,I])];exact Run.next (Run.ret _ _))
 exact this.bind T
theorem run_number{β:Type}{q:Int->G β}{x:Tok}{l:List Tok}{r:Ans β}(L:x.kind=2)(T:Run (q (EL x.text)) l r):Run (numberG.bind q) (x::l) r:=by
 have:Run numberG (x::l) (.ok (EL x.text,l)):=Run.look (by
  show Run (if decide (x.kind=2)then .next (.ret (EL x.text))else .fail) _ _;rw[if_pos (by simp[L])];exact Run.next (Run.ret _ _))
 exact this.bind T
theorem run_take{β:Type}{s:List (LU×Opr)}{q:Option Opr->G β}{x:Tok}{l:List Tok}{o:Opr}{r:Ans β}(h:s.lookup x.text=some o)(T:Run (q (some o)) l r):Run ((takeG s).bind q) (x::l) r:=by
 have:Run (takeG s) (x::l) (.ok (some o,l)):=Run.look (by
  show Run (match s.lookup x.text with|some p=>.next (.ret (some p))|none=>.ret none) _ _;rw[h];exact Run.next (Run.ret _ _))
 exact this.bind T
theorem run_take_no{β:Type}{s:List (LU×Opr)}{q:Option Opr->G β}{l:List Tok}{r:Ans β}(h:∀x,l.head?=some x->s.lookup x.text=none)(T:Run (q none) l r):Run ((takeG s).bind q) l r:=by
 have:Run (takeG s) l (.ok (none,l)):=Run.look (by
  cases l with
  |nil=>exact Run.ret _ _
  |cons x l=>
   show Run (match s.lookup x.text with|some p=>.next (.ret (some p))|none=>.ret none) _ _;rw[h x rfl];exact Run.ret _ _)
 exact this.bind T
theorem paren{x y:Tok}{A:List Tok}{f:Fml}(r:List Tok)(V:bare x=(3,[40]))(E:bare y=(3,[41]))(h:RunN .formula A (.ok (f,[]))):RunN .unary (x::(A++y::r)) (.ok (f,r)):=by
 have Z:RunN .formula (A++y::r) (.ok (f,y::r)):=RunN.stop (S:=fmlS) (nt:=.formula) (fun D=>good_formula (fun _ h=>h) (by rw[E];exact stop_close) D) trivial r h;have M:x.text=[40]:=congrArg Prod.snd V
 have a:RunN .primary (x::(A++y::r)) (.ok (f,r)):=by
  refine Dg (by show A4 _ (some (bare x))=false;rw[V];decide) (Dg (by show A4 _ (some (bare x))=false;rw[V];decide) (run_yes (by rw[V];decide) ?_));exact Run.call Z (Cy (by rw[E];decide) (Run.ret _ _))
 refine run_take_no (fun z o=>?_) (Run.call a (Run.ret _ _));cases o;rw[M];decide
theorem up_until{l r:List Tok}{f:Fml}(h:RunN .unary l (.ok (f,r)))(G:∀x,r.head?=some x->infixT.lookup x.text=none):RunN .untilN l (.ok (f,r)):=
 Run.call h (run_take_no G (Run.ret _ _))
theorem up_and{l r:List Tok}{f:Fml}(h:RunN .untilN l (.ok (f,r)))(G:A4 [38] (r.head?.map bare)=false):RunN .andN l (.ok (f,r)):=
 Run.call h (Run.call (show RunN .andL r (.ok ([],r))from Dg G (Run.ret _ _)) (Run.ret _ _))
theorem up_or{l r:List Tok}{f:Fml}(h:RunN .andN l (.ok (f,r)))(G:A4 [124] (r.head?.map bare)=false):RunN .orN l (.ok (f,r)):=
 Run.call h (Run.call (show RunN .orL r (.ok ([],r))from Dg G (Run.ret _ _)) (Run.ret _ _))
theorem up_imp{l r:List Tok}{f:Fml}(h:RunN .orN l (.ok (f,r)))(G:A4 [45,62] (r.head?.map bare)=false):RunN .formula l (.ok (f,r)):=
 Run.call h (Dg G (Run.ret _ _))
inductive ReadL:LU->List BT->Prop
 |nil:ReadL [] []
 |gap {c:UInt8} {s:LU} {bs:List BT} (h:c=32\/c=10) (hr:ReadL s bs):ReadL (c::s) bs
 |tok {k:Int} {y s:LU} {bs:List BT} (hy:1<=y.length) (hs:BU (y++s) 0 []=.ok (y.length,[⟨k,y,0⟩])) (hr:ReadL s bs):ReadL (y++s) ((k,y)::bs)
theorem gap_step1{c:UInt8}(h:c=32\/c=10)(s:LU)(ts:List Tok):BU (c::s) 0 ts=.ok (1,ts):=by
 rcases h with rfl|rfl<;>rfl
theorem ReadL.det{s:LU}{f:List BT}(h:ReadL s f):∀{L K},ReadL L K->s=L->f=K:=by
 induction h with
 |nil=>
  intro L K T e;cases T with
  |nil=>rfl
  |gap=>cases e
  |tok hy=>have:=congrArg List.length e.symm;rw[List.length_append]at this;simp only[List.length_nil]at this;omega
 |gap hc hr ih=>
  intro L K T e;cases T with
  |nil=>cases e
  |gap _ hr'=>cases e;exact ih hr' rfl
  |tok hy hs=>
   rw[<-e,gap_step1 hc]at hs;simp at hs
 |tok hy hs hr ih=>
  intro L K T e;cases T with
  |nil=>have:=congrArg List.length e;rw[List.length_append]at this;simp only[List.length_nil]at this;omega
  |gap hc hr'=>
   rw[e,gap_step1 hc]at hs;simp at hs
  |tok hy' hs' hr'=>
   rw[e,hs']at hs;simp only[Except.ok.injEq,Prod.mk.injEq,List.cons.injEq,Tok.mk.injEq,and_true]at hs;obtain⟨Z,rfl,rfl⟩:=hs;rw[ih hr' (List.append_cancel_left e)]
theorem step_full{v u:LU}{B:Nat}{x:Tok}{ts:List Tok}(h:BU u 0 []=.ok (B,[x]))(T:ts.length=2000):BU (v++u) v.length ts=.error (2,v.length):=by
 unfold BU at h⊢;have w:=getD_sh v u 0;simp only[Nat.add_zero]at w;rw[w]
 split at h
 ·simp[blankM]at h
 ·simp[commM]at h
 ·rename_i hk;unfold EN at h⊢;have e:=Dv (q:=BD) v u 1
  split at h
  ·cases h
  ·rename_i hn;rw[e,if_neg (by simp only[Nat.zero_add]at hn;omega)];unfold C8;rw[if_pos T]
 ·rename_i hk;unfold EI at h⊢;have S:=numBad_sh v u 0;simp only[Nat.add_zero]at S;rw[S]
  split at h
  ·cases h
  ·rename_i hn;rw[if_neg hn];unfold C8;rw[if_pos T]
 ·unfold symM at h⊢;have C:=drop_sh v u 0;simp only[Nat.add_zero,List.drop_zero]at C;rw[C]
  split at h
  ·rename_i y hy;rw[List.drop_zero]at hy;rw[hy];show C8 (v++u) v.length ts 3 _=_;unfold C8;rw[if_pos T]
  ·cases h
 ·cases h
theorem ReadL.scan{s:LU}{f:List BT}(h:ReadL s f):∀(v:LU)(ts:List Tok),ts.length<=2000->
  (∃Q,Q.map bare=f/\scanW (v++s) v.length ts=.ok ((v++s).length,ts++Q))\/∃p,scanW (v++s) v.length ts=.error (2,p):=by
 induction h with
 |nil=>
  intro v ts T;refine .inl ⟨[],rfl,?_⟩;rw[List.append_nil,List.append_nil];exact scanW_end
 | @gap c s f T hr ih=>
  intro v ts K;rw[Di O]
  have Z:BU (v++c::s) v.length ts=.ok (v.length+1,ts):=by
   have w:=getD_sh v (c::s) 0;simp only[Nat.add_zero]at w;unfold BU;rw[w];rcases T with rfl|rfl<;>rfl
  rw[Z];have:=ih (v++[c]) ts K;simp only[List.append_assoc,List.length_append,List.length_cons,List.length_nil,List.cons_append,List.nil_append]at this⊢;exact this
 | @tok k y s f hy hs hr ih=>
  intro v ts K;rw[Di EP];by_cases P:ts.length=2000
  ·rw[step_full hs P];exact .inr ⟨_,rfl⟩
  ·have Z:=step_sh (v:=v) (ts:=ts) (ts':=[]) hs EP;simp only[List.map_nil,List.append_nil,Nat.add_zero,List.map_cons]at Z;rw[Z];have:=ih (v++y) (ts++[shT v.length ⟨k,y,0⟩]) EP;simp only[List.append_assoc,List.length_append]at this⊢;rcases this with⟨Q,e,W⟩|⟨p,W⟩
   ·refine .inl ⟨shT v.length ⟨k,y,0⟩::Q,by rw[List.map_cons,e];rfl,?_⟩;simpa using W
   ·exact .inr ⟨p,W⟩
theorem ReadL.lex{s:LU}{f:List BT}(h:ReadL s f):(∃Q,Q.map bare=f/\EE s=.ok Q)\/∃p,EE s=.error (2,p):=by
 by_cases K:s.length<=6000
 ·rw[lexM_of K];rcases h.scan [] [] O with⟨Q,e,Z⟩|⟨p,Z⟩
  ·simp only[List.nil_append,List.length_nil]at Z;rw[Z];exact .inl ⟨Q,e,rfl⟩
  ·simp only[List.nil_append,List.length_nil]at Z;rw[Z];exact .inr ⟨p,rfl⟩
 ·unfold EE;rw[if_pos U];exact .inr ⟨_,rfl⟩
def folB:Option UInt8->Bool
 |none=>true
 |some c=> !(Ch c||Au c||decide (c.toNat=95))
theorem ReadL.sym{s:LU}{f:List BT}{y:LU}(E:1<=y.length)(L:∃k,Df (y.getD 0 0)=some (k+4))(P:symsL.find? (CC (y++s))=some y)(h:ReadL s f):ReadL (y++s) ((3,y)::f):=by
 refine .tok E ?_ h;obtain⟨k,L⟩:=L;unfold BU
 have:(y++s).getD 0 0=y.getD 0 0:=by
  cases y with
  |nil=>simp at E
  |cons c y=>rfl
 rw[this,L];show symM _ 0 []=_;unfold symM;rw[List.drop_zero,P];show C8 _ 0 [] 3 (0+y.length)=_;unfold C8;rw[if_neg O,Nat.zero_add];simp
structure Sty where
 sign:LU
 level:Nat
 first:Nat
 next:Nat
 least:Nat
 most:Nat
 val:Nat
 bound:Nat
 usual:Nat
def many:Nat:=1099511627776
def styL:List (Int×Sty):=[
 (1,⟨[116,114,117,101],5,0,0,0,0,0,0,0⟩),
 (2,⟨[102,97,108,115,101],5,0,0,0,0,0,0,0⟩),
 (3,⟨[61],5,0,0,0,0,9999,0,1⟩),
 (4,⟨[33],4,4,0,1,1,0,0,0⟩),
 (5,⟨[32,38,32],2,3,3,2,many,0,0,0⟩),
 (6,⟨[32,124,32],1,2,2,2,many,0,0,0⟩),
 (7,⟨[32,45,62,32],0,1,0,2,2,0,0,0⟩),
 (8,⟨[88,32],4,4,0,1,1,0,0,0⟩),
 (9,⟨[32,85,32],3,4,3,2,2,0,0,0⟩),
 (10,⟨[32,82,32],3,4,3,2,2,0,0,0⟩),
 (11,⟨[70,32],4,4,0,1,1,0,0,0⟩),
 (12,⟨[71,32],4,4,0,1,1,0,0,0⟩),
 (13,⟨[70,91],4,4,0,1,1,0,9999,0⟩),
 (14,⟨[71,91],4,4,0,1,1,0,9999,0⟩),
 (15,⟨[89,32],4,4,0,1,1,1,0,0⟩),
 (16,⟨[32,83],3,4,3,2,2,9999,0,0⟩),
 (17,⟨[32,84],3,4,3,2,2,9999,0,1⟩),
 (18,⟨[79,32],4,4,0,1,1,0,0,0⟩),
 (19,⟨[72,32],4,4,0,1,1,0,0,0⟩)]
def Cb(op:Int):Option Sty:=styL.lookup op
def Br(op:Int):Sty:=(Cb op).getD ⟨[],4,0,0,0,0,0,0,0⟩
def digs(n:Nat):LU:=if n<10 then[UInt8.ofNat (48+n)]else digs (n/10)++[UInt8.ofNat (48+n%10)]
def Ci(n:Int):LU:=digs n.toNat
def sgT(op:Int)(k:LU)(v b:Int):LU:=
 if op=3 then(if v=1 then k else k++[61]++Ci v)
 else if op=13\/op=14 then(Br op).sign++Ci b++[93,32]
 else if op=15 then(if v=0 then[89,32]else[90,32])
 else if op=16\/op=17 then(if v=((Br op).usual:Int)then(Br op).sign++[32]else(Br op).sign++[91]++Ci v++[93,32])
 else(Br op).sign
def wrapT(b:Bool)(s:LU):LU:=if b then[40]++(s++[41])else s
mutual
def prF:Nat->Fml->LU
 |n,.mk op nm v b args=>wrapT (decide ((Br op).level<n)) (prA (Br op).first (Br op).next (sgT op nm v b) args)
def prA:Nat->Nat->LU->LF->LU
 |_,_,sg,[]=>sg
 |first,next,sg,a::l=>(if l.isEmpty then sg else[])++(prF first a++prR next sg l)
def prR:Nat->LU->LF->LU
 |_,_,[]=>[]
 |next,sg,a::l=>sg++(prF next a++prR next sg l)
end
def DX(op:Int)(k:LU)(v b:Int)(n:Nat):Bool:=match Cb op with
 |none=>false
 |some s=>decide (s.least<=n/\n<=s.most/\0<=v/\v<=(s.val:Int)/\0<=b/\b<=(s.bound:Int))&&(if op=3 then BH k else k.isEmpty)
mutual
def okF:Fml->Bool
 | .mk op nm v b args=>DX op nm v b args.length&&okL args
def okL:LF->Bool
 | []=>true
 |a::l=>okF a&&okL l
end
def sgK(op:Int)(k:LU)(v b:Int):List BT:=
 if op=1 then[(1,[116,114,117,101])]else if op=2 then[(1,[102,97,108,115,101])]
 else if op=3 then(1,k)::(if v=1 then[]else[(3,[61]),(2,Ci v)])
 else if op=4 then[(3,[33])]else if op=5 then[(3,[38])]else if op=6 then[(3,[124])]else if op=7 then[(3,[45,62])]
 else if op=8 then[(1,[88])]else if op=9 then[(1,[85])]else if op=10 then[(1,[82])]else if op=11 then[(1,[70])]else if op=12 then[(1,[71])]
 else if op=13 then[(1,[70]),(3,[91]),(2,Ci b),(3,[93])]else if op=14 then[(1,[71]),(3,[91]),(2,Ci b),(3,[93])]
 else if op=15 then(if v=0 then[(1,[89])]else[(1,[90])])
 else if op=16 then(1,[83])::(if v=0 then[]else[(3,[91]),(2,Ci v),(3,[93])])
 else if op=17 then(1,[84])::(if v=1 then[]else[(3,[91]),(2,Ci v),(3,[93])])
 else if op=18 then[(1,[79])]else[(1,[72])]
def wrapK(b:Bool)(s:List BT):List BT:=if b then(3,[40])::(s++[(3,[41])])else s
mutual
def tkF:Nat->Fml->List BT
 |n,.mk op nm v b args=>wrapK (decide ((Br op).level<n)) (tkA (Br op).first (Br op).next (sgK op nm v b) args)
def tkA:Nat->Nat->List BT->LF->List BT
 |_,_,sg,[]=>sg
 |first,next,sg,a::l=>(if l.isEmpty then sg else[])++(tkF first a++tkR next sg l)
def tkR:Nat->List BT->LF->List BT
 |_,_,[]=>[]
 |next,sg,a::l=>sg++(tkF next a++tkR next sg l)
end
theorem CV{n:Nat}(h:n<10):digs n=[UInt8.ofNat (48+n)]:=by rw[digs,if_pos h]
theorem digs_big{n:Nat}(h:10<=n):digs n=digs (n/10)++[UInt8.ofNat (48+n%10)]:=by rw[digs,if_neg U]
theorem dig_byte{k:Nat}(h:k<10):(UInt8.ofNat (48+k)).toNat=48+k:=by simp;omega
theorem digs_dig:∀(m n:Nat),n<=m->∀c∈digs n,Au c=true
 |0,n,h,c,T=>by
  rw[CV U]at T;simp only[List.mem_singleton]at T;subst T;simp only[Au,dig_byte (show n<10 by omega)];simp;omega
 |m+1,n,h,c,T=>by
  by_cases Z:n<10
  ·rw[CV Z]at T;simp only[List.mem_singleton]at T;subst T;simp only[Au,dig_byte Z];simp;omega
  ·rw[digs_big U]at T;rcases List.mem_append.1 T with T|T
   ·exact digs_dig m (n/10) U c T
   ·simp only[List.mem_singleton]at T;subst T;simp only[Au,dig_byte (show n%10<10 by omega)];simp;omega
theorem digs_pos(n:Nat):1<=(digs n).length:=by
 rw[digs];split<;>simp
theorem digs_len{n:Nat}(h:n<=9999):(digs n).length<=4:=by
 by_cases Z:n<10
 ·rw[CV Z];simp
 rw[digs_big U];by_cases W:n/10<10
 ·rw[CV W];simp
 rw[digs_big U];by_cases R:n/10/10<10
 ·rw[CV R];simp
 rw[digs_big U];rw[CV U];simp
theorem getD_left{a b:LU}{i:Nat}(h:i<a.length):(a++b).getD i 0=a.getD i 0:=by
 simp[List.getD_eq_getElem?_getD,List.getElem?_append_left h]
theorem digs_head:∀(m n:Nat),n<=m->10<=n->((digs n).getD 0 0).toNat≠48
 |0,n,h,h1=>by omega
 |m+1,n,h,h1=>by
  rw[digs_big h1];by_cases W:n/10<10
  ·rw[CV W];show(UInt8.ofNat (48+n/10)).toNat≠48;rw[dig_byte W];omega
  ·have y:=digs_pos (n/10);have:=digs_head m (n/10) U U;rw[getD_left U];exact this
theorem numOf_digs:∀(m n:Nat),n<=m->EL (digs n)=(n:Int)
 |0,n,h=>by
  rw[CV U];show 10*(0:Int)+(((UInt8.ofNat (48+n)).toNat:Int)-48)=_;rw[dig_byte U];omega
 |m+1,n,h=>by
  by_cases Z:n<10
  ·rw[CV Z];show 10*(0:Int)+(((UInt8.ofNat (48+n)).toNat:Int)-48)=_;rw[dig_byte Z];omega
  ·rw[digs_big U];have x:=numOf_digs m (n/10) U;unfold EL at x⊢;rw[List.foldl_append,x];show 10*((n/10:Nat):Int)+(((UInt8.ofNat (48+n%10)).toNat:Int)-48)=_;rw[dig_byte U];omega
theorem numOf_numT{n:Int}(h:0<=n):EL (Ci n)=n:=by
 unfold Ci;rw[numOf_digs _ _ (Nat.le_refl _)];omega
end
end Go.Proofs.YtjbocjodncbogaaGreatDoor
