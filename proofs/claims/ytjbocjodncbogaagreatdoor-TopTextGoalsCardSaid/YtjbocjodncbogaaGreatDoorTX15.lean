/- TopTextGoals, part 15 of 16: rules, lemmas, walks. Conditions: none. -/
import Derived.Test.YtjbocjodncbogaaGreatDoorTX14
import Derived.WalkKit
import Derived.ProofKit
import Derived.OpenShut
import Derived.JoinedCond
import Derived.ChangeStays
import Derived.ReadAgain
import Derived.Deep.Slices
namespace Go.Proofs.YtjbocjodncbogaaGreatDoor
open Go.RowKit
set_option linter.unusedVariables false
theorem valid3_ok(w:World)(v:Value)(f:Fml)(P:FAt Af w v f):Fn Zp 174 [v] w fun u w'=>∃b:Bool,u=.bool b/\Ext w w'/\(b=true->vaQ f):=by
 obtain⟨F,rfl,D,p⟩:=P.cells;obtain⟨a,g,k,s,l,rfl⟩:=Ak D;refine AN Tryz.func174 rfl Tryz.ntmps174 (go ?_);refine A3 (L:=[a,g,k,s,l]) rfl (fun Q A=>?_);have m:=A.size;have M:PF Af Q w.heap.size 0 f:=⟨trivial,_,rfl,A.D.cells,P.ext A.E⟩;obtain⟨C,K,o,q,d,t,V,G,x⟩:=M.all;refine go ?_;refine AF (rsmall_ok Q _ f 60 U (P.ext A.E)) rfl ?_;rintro _ N⟨rfl,e⟩;have r:=A.E.trans e;have j:=A.D.E e O;by_cases Z:szF f<=60;rotate_left
 ·rw[decide_eq_false Z];refine go ?_;exact Fq
 rw[decide_eq_true Z];refine go ?_;refine AF (depth3_ok _ f (Nat.le_refl _) U N _ (P.ext r)) rfl ?_;rintro _ z⟨rfl,i⟩;have I:=r.trans i;have n:=j.E i O;by_cases W:dpF f<=20;rotate_left
 ·refine go ?_;exact AC rfl ⟨false,rfl,I,fun h=>by cases h⟩
 refine go ?_;refine AF (nodes3_ok _ f (Nat.le_refl _) z _ (P.ext I)) rfl ?_;rintro _ y⟨b,rfl,c,R⟩;refine go ?_;exact AC rfl ⟨b,rfl,I.trans c,fun h=>⟨Z,W,R h⟩⟩
set_option maxHeartbeats 1000000 in
theorem kernel3_ok(w:World)(v:Value)(f:Fml)(P:FAt Af w v f):Fn Zp 176 [v] w fun u w'=>∃(c:Value)(e:Int),u=.tuple #[c,iV e]/\Ext w w'/\(∃g,FAt Af w' c g)/\(e=0->vaQ f/\Cj layQ f/\(xtF f false).1<=60/\(xtF f false).2<=20):=by
 obtain⟨c5,rfl,D,a3⟩:=P.cells;obtain⟨X,x1,x2,x3,x4,rfl⟩:=Ak D;refine AN Tryz.func176 rfl Tryz.ntmps176 (go ?_);refine A3 (L:=[X,x1,x2,x3,x4]) rfl (fun Q A=>?_);have z1:=A.size;have M:PF Af Q w.heap.size 0 f:=⟨trivial,_,rfl,A.D.cells,P.ext A.E⟩;obtain⟨aa,ac,a2,q0,q1,q2,q3,q4,qa⟩:=M.all;refine AY (L:=zero5) (fun N W=>?_);have z2:=W.size;have r:=A.E.trans W.E;have n:=A.D.E W.E O;have y:Blk N Q.heap.size 37 zero5:=W.D;refine go ?_;refine AF (valid3_ok N _ f (P.ext r)) rfl ?_;rintro _ z⟨b,rfl,d,F⟩;have I:=r.trans d;have Z:=n.E d O;have R:=y.E d O;cases b with
 |false=>
  refine go ?_;refine AI (cs:=zero5) rfl rfl rfl (AV rfl) R EV (fun m i=>go ?_);exact BB rfl rfl rfl i.D.cells ⟨_,30,rfl,I.E i.E EP,⟨_,FAt.leaf _ _ 0 [] 0 0⟩,fun h=>absurd h ET⟩
 |true=>
 have p:=F rfl;refine go ?_;refine AF (lay3_ok _ f (Nat.le_refl _) z _ (P.ext I)) rfl ?_;rintro _ H⟨b,rfl,k,B⟩;have s:=I.trans k;have j:=Z.E k O;have a:=R.E k O;cases b with
 |false=>
  refine go ?_;refine AI (cs:=zero5) rfl rfl rfl (AV rfl) a EV (fun m i=>go ?_);exact BB rfl rfl rfl i.D.cells ⟨_,30,rfl,s.E i.E EP,⟨_,FAt.leaf _ _ 0 [] 0 0⟩,fun h=>absurd h ET⟩
 |true=>
 have K:=B rfl;have a4:=p.1;refine go ?_;refine AF (rext_ok _ f (Nat.le_refl _) U p.2.2 H _ false (P.ext s)) rfl ?_;rintro _ T⟨rfl,l⟩;have C:=s.trans l;have a0:=j.E l O;have q:=a.E l O;by_cases h5:60<(xtF f false).1
 ·exact Fy
 by_cases h6:20<(xtF f false).2
 ·exact Fy
 refine go ?_;refine AF (rform_ok _ f (Nat.le_refl _) U p.2.2 T _ false (P.ext C)) rfl ?_;rintro u6 w6⟨o,g,t⟩;have z3:=d.size;have z4:=k.size;have z5:=l.size;refine BE rfl rfl t (q.E o O) rfl (fun m a1 E G V z9 S=>go ?_);exact BB rfl rfl G S.cells ⟨_,0,rfl,(C.trans o).E V EP,⟨g,FAt.ret (ok:=Af) (t.mono fun x hx=>⟨trivial,by omega⟩) E V⟩,fun _=>⟨p,K,by omega,by omega⟩⟩
theorem pastOp_ok(w:World)(op:Int):Fn Zp 230 [iV op] w fun u w'=>(∃b:Bool,u=.bool b/\b=pstB op)/\w'=w:=by
 refine AN Tryz.func230 rfl Tryz.ntmps230 ?_;unfold pstB;refine go ?_;by_cases Z:15<=op
 ·by_cases W:op<=19
  ·refine go ?_;exact AC rfl ⟨⟨_,rfl,by simp[Z,W]⟩,rfl⟩
  ·refine go ?_;exact AC rfl ⟨⟨_,rfl,by simp[W]⟩,rfl⟩
 ·refine go ?_;exact AC rfl ⟨⟨_,rfl,by simp[Z]⟩,rfl⟩
set_option maxHeartbeats 2000000 in
theorem first_ok7(S:List Sgn)(sa:Option Addr)(Z:Nat):∀(N:Nat)(f:Fml),szF f<=N->∀(w:World)(v:Value),SlAt sgnR Af w (.slice sa S.length Z) S->FAt Af w v f->Fn Zp 175 [.slice sa S.length Z,v] w fun u w'=>∃e:Int,u=iV e/\Ext w w'/\(e=0->Cj (ndS S) f):=by
 intro N
 induction N with
 |zero=>intro f hN;have:=C1 f;omega
 |succ N ih=>
 intro f hN w v hS hf;have b1:=BL f;obtain⟨c5,rfl,a4,b0⟩:=hf.cells;obtain⟨x0,x1,x2,x3,x4,rfl⟩:=Ak a4;refine AN Tryz.func175 rfl Tryz.ntmps175 (go ?_);refine A3 (L:=[x0,x1,x2,x3,x4]) rfl (fun w1 A=>?_);have z1:=A.size;have P1:PF Af w1 w.heap.size 0 f:=⟨trivial,_,rfl,A.D.cells,hf.ext A.E⟩;obtain⟨aa,ac,a8,q0,q1,q2,q3,q4,qa⟩:=P1.all;refine go ?_;by_cases e3:f.op=3
 ·refine go ?_;refine AF (rfind_ok w1 _ S f.name (hS.ext A.E)) rfl ?_;rintro _ _⟨rfl,rfl⟩;rcases find_cases S f.name with⟨hm,X⟩|⟨i,s,hm,hs,X⟩
  ·rw[hm];refine go ?_;exact AC rfl ⟨70,rfl,A.E,fun h=>absurd h ET⟩
  ·rw[hm];have a9:=(List.getElem?_eq_some_iff.1 hs).1;obtain⟨_,sb,so,rfl,_,a6⟩:=hS.sig hs;have a3:=a6 2 _ rfl;refine go ?_;refine Ac (rd 0 8 .done) Ap EO (fun wd kd ed=>⟨Ext wd,?_,?_⟩)
   ·exact FQ
   have s1:wd.cell? ⟨w.heap.size,0+2,none⟩=some (iV f.val):=kd.cell q2 O;have s2:wd.cell? ⟨sb,so+i*3+2,none⟩=some (iV s.size):=(A.E.trans kd).cell a3 O;by_cases hv:f.val<s.size;rotate_left
   ·refine go ?_;exact AC rfl ⟨71,rfl,A.E.trans kd,fun h=>absurd h ET⟩
   have a5:f.op=3->knS S f.name f.val=true:=fun _=>by rw[X];simpa using hv
   refine go ?_;refine Ar (α:=Nat) (fun k=>[(0,.slice (some ⟨sb,so,none⟩) S.length Z),(3,pt w.heap.size),(4,iV 0),(6,iV (k:Int))]) (fun k W=>k<=f.args.length/\Ext wd W/\∀(i:Nat)(y:Fml),i<k->f.args[i]?=some y->pstB f.op=true->Cj futQ y) (fun k=>f.args.length-k) 0 ag ⟨by omega,Ext.refl _,fun i y h=>by omega⟩ ?_;rintro k W fr⟨X,P,G⟩;have q:=Ext.trans kd P;have B:=A.E.trans q;have r0:=q.cell q0 O;have r4:=q.cell q4 O;refine go ?_;by_cases I:k<f.args.length
   ·obtain⟨x,V⟩:=gl I;obtain⟨p,T,rfl,t⟩:=qa k x V;obtain⟨_,d,C,z,j⟩:=t;obtain⟨b,g,M,l,R,rfl⟩:=Ak C;have r:Cells W p (T+k*5) [b,g,M,l,R]:=z.E q O;refine go ?_;refine AF (pastOp_ok W f.op) rfl ?_;rintro _ W9⟨⟨pb,rfl,a2⟩,a0⟩;rw[a0];cases pb with
    |false=>
     exact GZ
    |true=>
     refine go ?_;refine AQ (L:=[b,g,M,l,R]) rfl rfl r (go ?_);refine AF (past3_ok _ x (Nat.le_refl _) W _ (j.ext q)) rfl ?_;rintro _ w4⟨pc,rfl,c,h4⟩;cases pc with
     |false=>
      refine go ?_;exact AC rfl ⟨72,rfl,B.trans c,fun h=>absurd h ET⟩
     |true=>
      refine go ?_;refine⟨k+1,⟨rfl,ag,⟨by omega,P.trans c,fun i y H E m=>?_⟩⟩,by omega⟩;by_cases F:i=k
      ·subst F;rw[V]at E;cases E;exact h4 rfl
      ·exact G i y U E m
   obtain rfl:k=f.args.length:=by omega
   have a1:pstB f.op=true->∀a∈f.args,Cj futQ a:=fun m a D=>by
    obtain⟨i,H⟩:=List.getElem?_of_mem D;exact G i a (List.getElem?_eq_some_iff.1 H).1 H m
   refine go ?_;refine Ar (α:=Nat) (fun k=>[(0,.slice (some ⟨sb,so,none⟩) S.length Z),(3,pt w.heap.size),(4,iV 0),(7,iV (k:Int))]) (fun k n=>k<=f.args.length/\Ext W n/\∀(i:Nat)(y:Fml),i<k->f.args[i]?=some y->Cj (ndS S) y) (fun k=>f.args.length-k) 0 ag ⟨by omega,Ext.refl _,fun i y h=>by omega⟩ ?_;rintro k n fr⟨X,K,G⟩;have o:=q.trans K;have Q:=B.trans K;have r0:=o.cell q0 O;have r4:=o.cell q4 O;refine go ?_;by_cases I:k<f.args.length
   ·obtain⟨x,V⟩:=gl I;obtain⟨p,T,rfl,t⟩:=qa k x V;obtain⟨_,d,C,z,j⟩:=t;obtain⟨b,g,M,l,R,rfl⟩:=Ak C;have r:Cells n p (T+k*5) [b,g,M,l,R]:=z.E o O;have a7:=Bb (List.mem_of_getElem? V);refine go ?_;refine AQ (L:=[b,g,M,l,R]) rfl rfl r (go ?_);refine AF (ih x U n _ (hS.ext Q) (j.ext o)) rfl ?_;rintro _ w5⟨e,rfl,k5,h5⟩;by_cases he:e=0
    ·subst he;refine go ?_;refine⟨k+1,⟨rfl,ag,⟨by omega,K.trans k5,fun i y H E=>?_⟩⟩,by omega⟩;by_cases F:i=k
     ·subst F;rw[V]at E;cases E;exact h5 rfl
     ·exact G i y U E
    ·refine go ?_;exact AC rfl ⟨e,rfl,Q.trans k5,fun h=>absurd h he⟩
   obtain rfl:k=f.args.length:=by omega
   refine go ?_
   exact AC rfl ⟨0,rfl,Q,fun _=>allF_iff.2 ⟨⟨a5,a1⟩,fun a D=>by
    obtain⟨i,H⟩:=List.getElem?_of_mem D;exact G i a (List.getElem?_eq_some_iff.1 H).1 H⟩⟩
 ·refine go ?_;refine Ar (α:=Nat) (fun k=>[(0,.slice sa S.length Z),(3,pt w.heap.size),(4,iV 0),(6,iV (k:Int))]) (fun k W=>k<=f.args.length/\Ext w1 W/\∀(i:Nat)(y:Fml),i<k->f.args[i]?=some y->pstB f.op=true->Cj futQ y) (fun k=>f.args.length-k) 0 ag ⟨by omega,Ext.refl _,fun i y h=>by omega⟩ ?_;rintro k W fr⟨X,P,G⟩;have q:=Ext.trans (Ext.refl w1) P;have B:=A.E.trans q;have r0:=q.cell q0 O;have r4:=q.cell q4 O;refine go ?_;by_cases I:k<f.args.length
  ·obtain⟨x,V⟩:=gl I;obtain⟨p,T,rfl,t⟩:=qa k x V;obtain⟨_,d,C,z,j⟩:=t;obtain⟨b,g,M,l,R,rfl⟩:=Ak C;have r:Cells W p (T+k*5) [b,g,M,l,R]:=z.E q O;refine go ?_;refine AF (pastOp_ok W f.op) rfl ?_;rintro _ W9⟨⟨pb,rfl,a2⟩,a0⟩;rw[a0];cases pb with
   |false=>
    exact GZ
   |true=>
    refine go ?_;refine AQ (L:=[b,g,M,l,R]) rfl rfl r (go ?_);refine AF (past3_ok _ x (Nat.le_refl _) W _ (j.ext q)) rfl ?_;rintro _ w4⟨pc,rfl,c,h4⟩;cases pc with
    |false=>
     refine go ?_;exact AC rfl ⟨72,rfl,B.trans c,fun h=>absurd h ET⟩
    |true=>
     refine go ?_;refine⟨k+1,⟨rfl,ag,⟨by omega,P.trans c,fun i y H E m=>?_⟩⟩,by omega⟩;by_cases F:i=k
     ·subst F;rw[V]at E;cases E;exact h4 rfl
     ·exact G i y U E m
  obtain rfl:k=f.args.length:=by omega
  have a1:pstB f.op=true->∀a∈f.args,Cj futQ a:=fun m a D=>by
   obtain⟨i,H⟩:=List.getElem?_of_mem D;exact G i a (List.getElem?_eq_some_iff.1 H).1 H m
  refine go ?_;refine Ar (α:=Nat) (fun k=>[(0,.slice sa S.length Z),(3,pt w.heap.size),(4,iV 0),(7,iV (k:Int))]) (fun k n=>k<=f.args.length/\Ext W n/\∀(i:Nat)(y:Fml),i<k->f.args[i]?=some y->Cj (ndS S) y) (fun k=>f.args.length-k) 0 ag ⟨by omega,Ext.refl _,fun i y h=>by omega⟩ ?_;rintro k n fr⟨X,K,G⟩;have o:=q.trans K;have Q:=B.trans K;have r0:=o.cell q0 O;have r4:=o.cell q4 O;refine go ?_;by_cases I:k<f.args.length
  ·obtain⟨x,V⟩:=gl I;obtain⟨p,T,rfl,t⟩:=qa k x V;obtain⟨_,d,C,z,j⟩:=t;obtain⟨b,g,M,l,R,rfl⟩:=Ak C;have r:Cells n p (T+k*5) [b,g,M,l,R]:=z.E o O;have a7:=Bb (List.mem_of_getElem? V);refine go ?_;refine AQ (L:=[b,g,M,l,R]) rfl rfl r (go ?_);refine AF (ih x U n _ (hS.ext Q) (j.ext o)) rfl ?_;rintro _ w5⟨e,rfl,k5,h5⟩;by_cases he:e=0
   ·subst he;refine go ?_;refine⟨k+1,⟨rfl,ag,⟨by omega,K.trans k5,fun i y H E=>?_⟩⟩,by omega⟩;by_cases F:i=k
    ·subst F;rw[V]at E;cases E;exact h5 rfl
    ·exact G i y U E
   ·refine go ?_;exact AC rfl ⟨e,rfl,Q.trans k5,fun h=>absurd h he⟩
  obtain rfl:k=f.args.length:=by omega
  refine go ?_
  exact AC rfl ⟨0,rfl,Q,fun _=>allF_iff.2 ⟨⟨(fun h=>absurd h e3),a1⟩,fun a D=>by
   obtain⟨i,H⟩:=List.getElem?_of_mem D;exact G i a (List.getElem?_eq_some_iff.1 H).1 H⟩⟩
set_option maxHeartbeats 1000000 in
theorem formula7_ok(w:World)(X:Option Addr)(W:Nat)(S:List Sgn)(v:Value)(f:Fml)(l:SlAt sgnR Af w (.slice X S.length W) S)(P:FAt Af w v f):Fn Zp 117 [.slice X S.length W,v] w fun u w'=>∃e:Int,u=iV e/\Ext w w'/\(e=0->fmS S f):=by
 obtain⟨c5,rfl,D,a1⟩:=P.cells;obtain⟨x0,x1,x2,x3,x4,rfl⟩:=Ak D;refine AN Tryz.func117 rfl Tryz.ntmps117 (go ?_);refine A3 (L:=[x0,x1,x2,x3,x4]) rfl (fun Q A=>?_);have z1:=A.size;have M:PF Af Q w.heap.size 0 f:=⟨trivial,_,rfl,A.D.cells,P.ext A.E⟩;obtain⟨aa,ac,a0,q0,q1,q2,q3,q4,qa⟩:=M.all;refine go ?_;refine AF (rsvalid_ok Q _ S (l.ext A.E)) rfl ?_;rintro _ T⟨rfl,n⟩;have r:=A.E.trans n;have j:=A.D.E n O;cases hv:Bk S with
 |false=>
  refine go ?_;exact AC rfl ⟨1,rfl,r,fun h=>absurd h ET⟩
 |true=>
 refine go ?_;refine AF (valid3_ok T _ f (P.ext r)) rfl ?_;rintro _ V⟨b,rfl,i,R⟩;have I:=r.trans i;have z:=j.E i O;cases b with
 |false=>
  refine go ?_;exact AC rfl ⟨30,rfl,I,fun h=>absurd h ET⟩
 |true=>
 refine go ?_;refine AF (first_ok7 S X W _ f (Nat.le_refl _) V _ (l.ext I) (P.ext I)) rfl ?_;rintro _ Z⟨e,rfl,o,B⟩;have k:=I.trans o;have b4:=z.E o O;by_cases a:e=0;rotate_left
 ·refine go ?_;exact AC rfl ⟨e,rfl,k,fun h=>absurd h a⟩
 subst a;refine go ?_;refine AF (kernel3_ok Z _ f (P.ext k)) rfl ?_;rintro _ w5⟨c,e,rfl,y,⟨g,s⟩,d⟩;obtain⟨q,rfl,C,p⟩:=s.cells;obtain⟨E,F,H,G,K,rfl⟩:=Ak C;refine go ?_;refine A2 (cs:=[E,F,H,G,K]) rfl rfl EQ p (fun w6 N=>?_);have m:=(k.trans y).trans N.E;by_cases a:e=0
 ·subst a;refine go ?_;obtain⟨g1,t,x⟩:=d rfl;exact AC rfl ⟨0,rfl,m,fun _=>⟨hv,R rfl,B rfl,t,x⟩⟩
 ·refine go ?_;exact AC rfl ⟨2,rfl,m,fun h=>absurd h ET⟩
set_option maxHeartbeats 2000000 in
theorem fault7_ok(w:World)(X:Option Addr)(C:Nat)(T:Option Addr)(S:Nat)(s:Spc)(hS:SlAt sgnR Af w (.slice X s.sigs.length C) s.sigs)(G:SlAt reqR Af w (.slice T s.reqs.length S) s.reqs)(i:Nat)(x:Rqm)(hx:s.reqs[i]?=some x):
  Fn Zp 71 [.agg #[.slice X s.sigs.length C,.slice T s.reqs.length S],iV (i:Int)] w fun u w'=>∃e:Int,u=iV e/\Ext w w'/\(e=0->rqS s.sigs s.reqs i x):=by
 have b0:=(List.getElem?_eq_some_iff.1 hx).1;obtain⟨H,I,d,a7, -,hd,a2,P⟩:=G.req hx;obtain⟨f,c,g,m,r,rfl⟩:=Ak hd;obtain⟨cF,a1, -,a6⟩:=P.cells;obtain rfl:[f,c,g,m,r]=cF:=by have:=congrArg Array.toList (Value.agg.inj a1);simpa using this
 subst a7;obtain⟨_,_,_,b4⟩:=G.len;refine AN Tryz.func71 rfl Tryz.ntmps71 (go ?_);refine A3 (L:=[.slice X s.sigs.length C,.slice (some ⟨H,I,none⟩) s.reqs.length S]) rfl (fun Q A=>?_);have z1:=A.size;have a0:=a2.E A.E O;refine go ?_;refine AQ (L:=[AL x.part,AL x.name,iV x.kind,f,c,g,m,r]) rfl rfl a0 ?_;refine A2 (cs:=[AL x.part,AL x.name,iV x.kind,f,c,g,m,r]) rfl rfl EQ (oneC_app (l:=[AL x.part,AL x.name,iV x.kind]) (AV rfl) a6) (fun w2 t=>?_);have z2:=t.size;have n:=A.E.trans t.E;have b:=A.D.E t.E O;have a:Blk w2 Q.heap.size 57 [AL x.part,AL x.name,iV x.kind,f,c,g,m,r]:=t.D;have a5:x.kind=1\/x.kind=2\/(x.kind≠1/\x.kind≠2):=by omega
 refine go ?_;rcases a5 with D|D|⟨D,b1⟩
 rotate_right
 ·exact Gi
 all_goals
  refine go ?_;refine AF (refName_ok x.part w2) rfl ?_;rintro _ w3⟨rfl,K⟩;have n:=n.trans K;have b:=b.E K O;have a:=a.E K O;cases hp:BH x.part with
  |false=>
   exact Gi
  |true=>
  refine go ?_;refine AF (refName_ok x.name w3) rfl ?_;rintro _ w4⟨rfl,R⟩;have n:=n.trans R;have b:=b.E R O;have a:=a.E R O;cases hnm:BH x.name with
  |false=>
   exact Gi
  |true=>
  have a8:wordsB x=true:=by simp[wordsB,hp,hnm,D]
  refine go ?_;refine Ar (α:=Nat) (fun k=>[(1,iV (i:Int)),(2,pt w.heap.size),(4,iV 0),(5,pt Q.heap.size),(6,iV (k:Int))]) (fun k W=>k<=i/\Ext w4 W/\∀j y,j<k->s.reqs[j]?=some y->y.name≠x.name) (fun k=>i-k) 0 ag ⟨by omega,Ext.refl _,fun j y h=>by omega⟩ ?_;rintro k W fr⟨b2,q,Z⟩;have n:=n.trans q;have b:=b.E q O;have a:=a.E q O;refine go ?_;by_cases b3:k<i
  ·obtain⟨y,E⟩:=gl (show k<s.reqs.length by omega);obtain⟨b5,b6,d',e', -,a9,a3, -⟩:=G.req E;cases e';have B:=(a3.E n O) 1 _ rfl;refine go ?_;refine Ac (rd 0 9 .done) Ap EO (fun N M ed=>⟨Ext N,?_,?_⟩)
   ·exact FQ
   have s1:N.cell? ⟨H,I+k*8+1,none⟩=some (AL y.name):=M.cell B O;have s2:N.cell? ⟨Q.heap.size,0+1,none⟩=some (AL x.name):=M.cell (a.cell rfl) O;have s3:N.cell? ⟨w.heap.size,0+1,none⟩=some (.slice (some ⟨H,I,none⟩) s.reqs.length S):=M.cell (b.cell rfl) O;have n:=n.trans M;by_cases p:y.name=x.name
   ·refine go ?_;refine D_R (v:=.bool true) rfl rfl (fun V hV=>Bg rfl rfl (fun _=>AA ⟨rfl,rfl,rfl⟩) (fun h=>absurd p h)) (go ?_);exact AC rfl ⟨4,rfl,n,fun h=>absurd h ET⟩
   ·refine go ?_;refine D_R (v:=.bool false) rfl rfl (fun V hV=>Bg rfl rfl (fun h=>absurd h p) (fun _=>AA ⟨rfl,rfl,rfl⟩)) (go ?_);refine⟨k+1,⟨rfl,ag,⟨by omega,q.trans M,fun j z hj o=>?_⟩⟩,by omega⟩;by_cases a4:j=k
    ·subst a4;rw[E]at o;cases o;exact p
    ·exact Z j z U o
  ·obtain rfl:k=i:=by omega
   have F:Cells W Q.heap.size (0+3) [f,c,g,m,r]:=a.cells.part 3 5;refine go ?_;refine AQ (L:=[f,c,g,m,r]) rfl rfl F (go ?_);refine AF (formula7_ok W X C s.sigs _ x.formula (hS.ext n) (P.ext n)) rfl ?_;rintro _ w9⟨e,rfl,k9,h9⟩;refine go ?_;exact AC rfl ⟨e,rfl,n.trans k9,fun h=>⟨a8,Z,h9 h⟩⟩
theorem madeF0:(madeCells (Value.agg #[iV 0,iV 0]).cells (0*2)).toList=[]:=by kernel_rfl
def FlsA(w:World)(u:Value)(w':World)(Q:Prop):Prop:=∃(n:Nat)(a:Option Addr)(c:Nat),u=.slice a n c/\n<=100/\Ext w w'/\(n=0->Q)
set_option maxHeartbeats 1000000 in
theorem check7_ok(w:World)(X:Option Addr)(j:Nat)(T:Option Addr)(S:Nat)(s:Spc)(l:SlAt sgnR Af w (.slice X s.sigs.length j) s.sigs)(F:SlAt reqR Af w (.slice T s.reqs.length S) s.reqs):
  Fn Zp 27 [.agg #[.slice X s.sigs.length j,.slice T s.reqs.length S]] w fun u w'=>FlsA w u w' (chkB s=true):=by
 obtain⟨_,_,_,a3⟩:=F.len;refine AN Tryz.func27 rfl Tryz.ntmps27 (go ?_);refine A3 (L:=[.slice X s.sigs.length j,.slice T s.reqs.length S]) rfl (fun w1 r=>?_);have z1:=r.size;have N:=r.D;refine go ?_;refine AF (rsvalid_ok w1 _ s.sigs (l.ext r.E)) rfl ?_;rintro _ z⟨rfl,D⟩;have z3:=D.size;have I:=r.E.trans D;have Q:=N.E D O;cases hv:Bk s.sigs with
 |false=>
  refine go ?_;refine AP (out:=[iV (-1),iV 1]) rfl U Em (fun f G=>?_);refine go ?_;exact AC rfl ⟨1,_,_,rfl,by omega,I.trans G.E,fun h=>absurd h ET⟩
 |true=>
 by_cases a2:16<s.reqs.length
 ·refine go ?_;refine AP (out:=[iV (-1),iV 2]) rfl U Em (fun f G=>?_);refine go ?_;exact AC rfl ⟨1,_,_,rfl,by omega,I.trans G.E,fun h=>absurd h ET⟩
 refine go ?_;refine AP (out:=[]) rfl U (by rw[madeF0];rfl) (fun w4 c=>?_);have z4:=c.size;have Z:=I.trans c.E;have R:=Q.E c.E O;refine go ?_
 refine Ar (α:=Nat×Value) (fun y=>[(1,pt w.heap.size),(3,y.2),(4,iV (y.1:Int))])
  (fun y W=>y.1<=s.reqs.length/\Ext w W/\Ext z W/\Blk W w.heap.size 25 [.slice X s.sigs.length j,.slice T s.reqs.length S]/\∃n m,W.ownsRow z.heap.size 78 2 y.2 n m/\n<=y.1/\m.length=n*2/\(n=0->∀i x,i<y.1->s.reqs[i]?=some x->rqS s.sigs s.reqs i x)) (fun y=>s.reqs.length-y.1) (0,.slice (sm z.heap.size) 0 0) ag
  ⟨by simp,Z,c.E,R,0,[],c.own (n:=0) (size:=2) rfl EW (Nat.le_refl _),Nat.le_refl _,rfl,fun _ i x h=>by omega⟩ ?_
 rintro⟨k,v⟩W fr⟨hk,q,p,B,n,m,a,hn,C,K⟩;simp only at hk q p B a hn C K;have zW:=p.size;refine go ?_;by_cases a1:k<s.reqs.length
 ·obtain⟨x,V⟩:=gl a1;refine go ?_;refine AF (fault7_ok W X j T S s (l.ext q) (F.ext q) k x V) rfl ?_;rintro _ f⟨e,rfl,A,d⟩;have z5:=A.size;by_cases P:e=0
  ·subst P;refine go ?_;refine⟨(k+1,v),⟨rfl,ag,⟨by simp only;omega,q.trans A,p.trans A,B.E A O,n,m,As a A,by simp only;omega,C,fun t i y H E=>?_⟩⟩,by simp only;omega⟩;simp only at H;by_cases a0:i=k
   ·subst a0;rw[V]at E;cases E;exact d rfl
   ·exact K t i y U E
  ·refine go ?_;refine AP (out:=[iV (k:Int),iV e]) rfl U Em (fun V3 M=>?_);have g:=A.trans M.E;have z8:=g.size;refine Ax (ok:=Af) (v:=v) rfl rfl (As a g) (Aa (M.own (n:=1) (size:=2) rfl EW (Nat.le_refl _)) fun _ _=>trivial) U rfl rfl (AV rfl) U U U (fun v8 w8 o=>?_);have b:∀y∈v.ownBlock.toList,z.heap.size<=y:=fun y E=>(An a (Option.mem_toList.1 E)).1;refine go ?_;exact⟨(k+1,v8),⟨rfl,ag,⟨by simp only;omega,(q.trans g).E o.E (fun y E=>by have:=b y E;omega),(p.trans g).E o.E (fun y E=>by have:=b y E;omega),(B.E g O).E o.E (fun hm=>by have:=b _ hm;omega),n+1,_,o.own,by simp only;omega,by simp[C];omega,fun h=>absurd h U⟩⟩,by simp only;omega⟩
 ·obtain rfl:k=s.reqs.length:=by omega
  have hs:Sl Af W v n m:=Aa a fun _ _=>trivial;obtain⟨va,vc,rfl, -⟩:=hs;refine go ?_;exact AC rfl ⟨n,va,vc,rfl,by omega,q,fun t=>chk_of hv U fun i x V=>K t i x (List.getElem?_eq_some_iff.1 V).1 V⟩
section
variable {mk:Prop}[MK mk]
theorem gap_ok(t:LU)(w:World)(K:t.length<=1000000):Fn Zp 106 [AL t] w fun v w'=>v=iV (gapW t 0:Int)/\w'=w:=by
 refine AN Tryz.func106 rfl Tryz.ntmps106 (go ?_);refine Ar (α:=Nat) (fun a=>[(0,AL t),(3,iV (a:Int))]) (fun a Q=>a<=t.length/\gapW t a=gapW t 0/\Q=w) (fun a=>t.length-a) 0 ag ⟨by omega,rfl,rfl⟩ ?_;rintro a Q I⟨h,b,rfl⟩;refine go ?_;by_cases x:a<t.length
 ·have Z:t[a]?=some t[a]:=List.getElem?_eq_getElem x;generalize t[a]=c at Z;rw[gapW_step Z]at b;refine go ?_;by_cases o:c.toNat=37
  ·rw[if_pos o]at b;refine go ?_;have C:=Bv (p:=BQ) (t:=t) (a:=a) U;have X:=Bp (p:=BQ) Z (by simp[BQ,o]);have i:=CK BQ t (a+1);refine Ar (α:=Nat) (fun j=>[(0,AL t),(3,iV (j:Int))]) (fun j N=>j<=t.length/\Ao BQ t j=Ao BQ t a/\N=Q) (fun j=>t.length-j) a ag ⟨by omega,rfl,rfl⟩ ?_;rintro j N g⟨T,e,rfl⟩;refine go ?_;by_cases k:j<t.length
   ·have D:t[j]?=some t[j]:=List.getElem?_eq_getElem k;generalize t[j]=d at D;by_cases f:d.toNat=10
    ·refine go ?_;have V:=whileB_stop (p:=BQ) D (by simp[BQ,f]);exact⟨j,⟨rfl,ag,⟨T,by rw[<-b,<-e,V],rfl⟩⟩,by omega⟩
    ·refine go ?_;have V:=Bp (p:=BQ) D (by simp[BQ,f]);refine⟨j+1,⟨rfl,⟨rfl,?_,trivial⟩,⟨by omega,by rw[<-e,V],rfl⟩⟩,by omega⟩;show iV ((j:Int)+1)=_;rw[Int.natCast_add];rfl
   ·refine go ?_;have V:=whileB_end (p:=BQ) (t:=t) (a:=j) U;exact⟨j,⟨rfl,ag,⟨T,by rw[<-b,<-e,V],rfl⟩⟩,by omega⟩
  ·rw[if_neg o]at b;refine go ?_;refine AF (blankB_ok c _) rfl ?_;rintro v N⟨rfl,rfl⟩;refine go ?_;cases hb:isBlank c with
   |true=>
    rw[if_pos hb]at b;refine go ?_;refine⟨a+1,⟨rfl,⟨rfl,?_,trivial⟩,⟨by omega,b,rfl⟩⟩,by omega⟩;show iV ((a:Int)+1)=_;rw[Int.natCast_add];rfl
   |false=>
    rw[hb,if_neg O]at b;refine go ?_;exact AC rfl ⟨by rw[<-b];rfl,rfl⟩
 ·obtain rfl:a=t.length:=by omega
  refine go ?_;exact AC rfl ⟨by rw[<-b,gapW_end];rfl,rfl⟩
theorem rlow_ok:Test 165 A5:=by
 intro c w;refine AN Tryz.func165 rfl Tryz.ntmps165 ?_;repeat refine nx rfl ?_
 refine AJ (AO (AE rfl ?_));repeat refine nx rfl ?_
 (refine AJ (AS rfl ?_)<;>(refine W_geq rfl rfl (fun T=>?_) (fun T=>?_)<;>try omega)<;>refine AE rfl ?_<;>(first|refine Ah rfl ?_|(refine AK rfl ?_;refine AS rfl ?_))<;>(first|refine Ah rfl ?_|(refine AK rfl ?_;(refine Cp rfl rfl (fun T=>?_) (fun T=>?_)<;>try omega)))<;>((first|refine Ae rfl ?_|refine Ad rfl ?_);refine AE rfl ?_)<;>refine AO (AE rfl (AA ?_)))
 all_goals
  repeat refine nx rfl ?_
  exact AC rfl ⟨by simp[A5,upd,Nat.beq];omega,rfl⟩
theorem rbig_ok:Test 162 isUp:=by
 intro c w;refine AN Tryz.func162 rfl Tryz.ntmps162 ?_;repeat refine nx rfl ?_
 refine AJ (AO (AE rfl ?_));repeat refine nx rfl ?_
 (refine AJ (AS rfl ?_)<;>(refine W_geq rfl rfl (fun T=>?_) (fun T=>?_)<;>try omega)<;>refine AE rfl ?_<;>(first|refine Ah rfl ?_|(refine AK rfl ?_;refine AS rfl ?_))<;>(first|refine Ah rfl ?_|(refine AK rfl ?_;(refine Cp rfl rfl (fun T=>?_) (fun T=>?_)<;>try omega)))<;>((first|refine Ae rfl ?_|refine Ad rfl ?_);refine AE rfl ?_)<;>refine AO (AE rfl (AA ?_)))
 all_goals
  repeat refine nx rfl ?_
  exact AC rfl ⟨by simp[isUp,upd,Nat.beq];omega,rfl⟩
theorem rdig_ok:Test 164 Au:=by
 intro c w;refine AN Tryz.func164 rfl Tryz.ntmps164 ?_;repeat refine nx rfl ?_
 refine AJ (AO (AE rfl ?_));repeat refine nx rfl ?_
 (refine AJ (AS rfl ?_)<;>(refine W_geq rfl rfl (fun T=>?_) (fun T=>?_)<;>try omega)<;>refine AE rfl ?_<;>(first|refine Ah rfl ?_|(refine AK rfl ?_;refine AS rfl ?_))<;>(first|refine Ah rfl ?_|(refine AK rfl ?_;(refine Cp rfl rfl (fun T=>?_) (fun T=>?_)<;>try omega)))<;>((first|refine Ae rfl ?_|refine Ad rfl ?_);refine AE rfl ?_)<;>refine AO (AE rfl (AA ?_)))
 all_goals
  repeat refine nx rfl ?_
  exact AC rfl ⟨by simp[Au,upd,Nat.beq];omega,rfl⟩
theorem rpart_ok:Test 163 BD:=by
 intro c w;refine AN Tryz.func163 rfl Tryz.ntmps163 (go ?_);refine AF (rlow_ok c w) rfl ?_;rintro v X⟨rfl,rfl⟩;cases hs:A5 c with
 |true=>
  refine go ?_
  all_goals
   refine go ?_;exact AC rfl ⟨by simp[BD,hs,upd,Nat.beq],rfl⟩
 |false=>
  refine go ?_;refine AF (rdig_ok c _) rfl ?_;rintro v X⟨rfl,rfl⟩;cases hd:Au c with
  |true=>
   refine go ?_
   all_goals
    refine go ?_;exact AC rfl ⟨by simp[BD,hs,hd,upd,Nat.beq],rfl⟩
  |false=>
   (refine Ad rfl (AE rfl (AE rfl (AK rfl (AS rfl ?_))))<;>(refine AK rfl ?_;(refine Bf rfl rfl (fun T=>?_) (fun T=>?_)<;>try omega))<;>refine Ad rfl (AE rfl (AO (AE rfl (AA ?_)))))
   all_goals
    repeat refine nx rfl ?_
    exact AC rfl ⟨by simp[BD,hs,hd,upd,Nat.beq];omega,rfl⟩
theorem rsymbols_ok(w:World):Fn Zp 212 [] w fun v w'=>v=.slice (sm w.heap.size) 15 15/\Ext w w'/\Cells w' w.heap.size 0 symC:=by
 refine AN Tryz.func212 rfl Tryz.ntmps212 (go ?_);refine D6 (out:=symC) rfl U rfl EO (fun N W=>go ?_);exact AC rfl ⟨rfl,W.E,W.D.cells⟩
def symW(u:LU):LU:=(symsL.find? (CC u)).getD []
theorem rsymbol_ok(u:LU)(w:World):Fn Zp 166 [AL u] w fun v w'=>v=AL (symW u)/\Ext w w':=by
 refine AN Tryz.func166 rfl Tryz.ntmps166 (go ?_);refine AF (rsymbols_ok w) rfl ?_;rintro v Q⟨rfl,Z,c⟩;refine go ?_;refine Ar (α:=Nat) (fun k=>[(0,AL u),(3,.slice (sm w.heap.size) 15 15),(4,iV (k:Int))]) (fun k d=>k<=15/\Ext Q d/\symsL.find? (CC u)=(symsL.drop k).find? (CC u)) (fun k=>15-k) 0 ag ⟨by omega,Ext.refl _,rfl⟩ ?_;rintro k d l⟨L,e,P⟩;refine go ?_;by_cases x:k<15
 ·obtain⟨y,E⟩:∃y,symsL[k]?=some y:=⟨_,List.getElem?_eq_getElem (by show k<15;exact x)⟩;have D:symC[k]?=some (AL y):=by unfold symC;rw[List.getElem?_map,E];rfl
  rw[find_step E]at P;refine go ?_;refine Ac (rd 0 22 .done) Ap EO (fun N M H=>⟨fun W=>W=N,?_,?_⟩)
  ·rfl
  have C:N.cell? ⟨w.heap.size,0+k,none⟩=some (AL y):=((c.E e O).E M O) k _ D;by_cases K:y.length<=u.length
  ·by_cases b:u.take y.length=y
   ·have a:CC u y=true:=by simp[CC,K,b]
    ((apply D_R rfl rfl;(intro W o;subst o;refine BC rfl ?_;exact AA ⟨rfl,rfl,rfl⟩))<;>(apply D_R rfl rfl;(intro W o;subst o;refine Cz rfl ?_;exact AA ⟨rfl,rfl,rfl⟩))<;>(apply D_R rfl rfl;(intro W o;subst o;refine Ay rfl ?_;exact AA ⟨rfl,rfl,rfl⟩))<;>(apply D_R rfl rfl;(intro W o;subst o;refine AS rfl ?_;exact AA ⟨rfl,rfl,rfl⟩))<;>(apply D_R rfl rfl;(intro W o;subst o;refine W_idx1 rfl rfl rfl U ?_;exact AA ⟨rfl,rfl,rfl⟩))<;>(apply D_R rfl rfl;(intro W o;subst o;refine AH rfl ER ?_;exact AA ⟨rfl,rfl,rfl⟩))<;>(apply D_R rfl rfl;(intro W o;subst o;refine Cz rfl ?_;exact AA ⟨rfl,rfl,rfl⟩))<;>(refine D_geq rfl rfl rfl rfl (fun T=>?_) (fun T=>?_)<;>try omega)<;>(apply D_R rfl rfl;(intro W o;subst o;refine AE rfl ?_;exact AA ⟨rfl,rfl,rfl⟩))<;>(apply D_R rfl rfl;(intro W o;subst o;(refine AK rfl ?_;refine BC rfl ?_);exact AA ⟨rfl,rfl,rfl⟩))<;>(apply D_R rfl rfl;(intro W o;subst o;(refine AK rfl ?_;refine Ay rfl ?_);exact AA ⟨rfl,rfl,rfl⟩))<;>(apply D_R rfl rfl;(intro W o;subst o;(refine AK rfl ?_;refine AS rfl ?_);exact AA ⟨rfl,rfl,rfl⟩))<;>(apply D_R rfl rfl;(intro W o;subst o;(refine AK rfl ?_;refine W_idx1 rfl rfl rfl U ?_);exact AA ⟨rfl,rfl,rfl⟩))<;>(apply D_R rfl rfl;(intro W o;subst o;(refine AK rfl ?_;refine AH rfl ER ?_);exact AA ⟨rfl,rfl,rfl⟩))<;>(apply D_R rfl rfl;(intro W o;subst o;(refine AK rfl ?_;refine Cz rfl ?_);exact AA ⟨rfl,rfl,rfl⟩))<;>(apply D_R rfl rfl;(intro W o;subst o;(refine AK rfl ?_;refine W_sslice_h rfl rfl U ?_);exact AA ⟨rfl,rfl,rfl⟩))<;>(apply D_R rfl rfl;(intro W o;subst o;(refine AK rfl ?_;refine Ay rfl ?_);exact AA ⟨rfl,rfl,rfl⟩))<;>(apply D_R rfl rfl;(intro W o;subst o;(refine AK rfl ?_;refine AS rfl ?_);exact AA ⟨rfl,rfl,rfl⟩))<;>(apply D_R rfl rfl;(intro W o;subst o;(refine AK rfl ?_;refine W_idx1 rfl rfl rfl U ?_);exact AA ⟨rfl,rfl,rfl⟩))<;>(apply D_R rfl rfl;(intro W o;subst o;(refine AK rfl ?_;refine AH rfl ER ?_);exact AA ⟨rfl,rfl,rfl⟩))<;>(refine D_seql rfl rfl rfl rfl (fun T=>?_) (fun T=>?_))<;>(apply D_R rfl rfl;(intro W o;subst o;(refine Ae rfl ?_;refine AE rfl ?_);exact AA ⟨rfl,rfl,rfl⟩))<;>refine Bc ?_)
    ·refine go ?_;have g:N.cell? ⟨w.heap.size,0+k,none⟩=some (AL y):=C;refine go ?_;rw[a,if_pos rfl]at P;exact AC rfl ⟨by unfold symW;rw[P];rfl,(Z.trans e).trans M⟩
    ·exact absurd b ER
   ·have a:CC u y=false:=by simp[CC,b]
    rw[a,if_neg O]at P;((apply D_R rfl rfl;(intro W o;subst o;refine BC rfl ?_;exact AA ⟨rfl,rfl,rfl⟩))<;>(apply D_R rfl rfl;(intro W o;subst o;refine Cz rfl ?_;exact AA ⟨rfl,rfl,rfl⟩))<;>(apply D_R rfl rfl;(intro W o;subst o;refine Ay rfl ?_;exact AA ⟨rfl,rfl,rfl⟩))<;>(apply D_R rfl rfl;(intro W o;subst o;refine AS rfl ?_;exact AA ⟨rfl,rfl,rfl⟩))<;>(apply D_R rfl rfl;(intro W o;subst o;refine W_idx1 rfl rfl rfl U ?_;exact AA ⟨rfl,rfl,rfl⟩))<;>(apply D_R rfl rfl;(intro W o;subst o;refine AH rfl ER ?_;exact AA ⟨rfl,rfl,rfl⟩))<;>(apply D_R rfl rfl;(intro W o;subst o;refine Cz rfl ?_;exact AA ⟨rfl,rfl,rfl⟩))<;>(refine D_geq rfl rfl rfl rfl (fun T=>?_) (fun T=>?_)<;>try omega)<;>(apply D_R rfl rfl;(intro W o;subst o;refine AE rfl ?_;exact AA ⟨rfl,rfl,rfl⟩))<;>(apply D_R rfl rfl;(intro W o;subst o;(refine AK rfl ?_;refine BC rfl ?_);exact AA ⟨rfl,rfl,rfl⟩))<;>(apply D_R rfl rfl;(intro W o;subst o;(refine AK rfl ?_;refine Ay rfl ?_);exact AA ⟨rfl,rfl,rfl⟩))<;>(apply D_R rfl rfl;(intro W o;subst o;(refine AK rfl ?_;refine AS rfl ?_);exact AA ⟨rfl,rfl,rfl⟩))<;>(apply D_R rfl rfl;(intro W o;subst o;(refine AK rfl ?_;refine W_idx1 rfl rfl rfl U ?_);exact AA ⟨rfl,rfl,rfl⟩))<;>(apply D_R rfl rfl;(intro W o;subst o;(refine AK rfl ?_;refine AH rfl ER ?_);exact AA ⟨rfl,rfl,rfl⟩))<;>(apply D_R rfl rfl;(intro W o;subst o;(refine AK rfl ?_;refine Cz rfl ?_);exact AA ⟨rfl,rfl,rfl⟩))<;>(apply D_R rfl rfl;(intro W o;subst o;(refine AK rfl ?_;refine W_sslice_h rfl rfl U ?_);exact AA ⟨rfl,rfl,rfl⟩))<;>(apply D_R rfl rfl;(intro W o;subst o;(refine AK rfl ?_;refine Ay rfl ?_);exact AA ⟨rfl,rfl,rfl⟩))<;>(apply D_R rfl rfl;(intro W o;subst o;(refine AK rfl ?_;refine AS rfl ?_);exact AA ⟨rfl,rfl,rfl⟩))<;>(apply D_R rfl rfl;(intro W o;subst o;(refine AK rfl ?_;refine W_idx1 rfl rfl rfl U ?_);exact AA ⟨rfl,rfl,rfl⟩))<;>(apply D_R rfl rfl;(intro W o;subst o;(refine AK rfl ?_;refine AH rfl ER ?_);exact AA ⟨rfl,rfl,rfl⟩))<;>(refine D_seql rfl rfl rfl rfl (fun T=>?_) (fun T=>?_))<;>(apply D_R rfl rfl;(intro W o;subst o;(refine Ae rfl ?_;refine AE rfl ?_);exact AA ⟨rfl,rfl,rfl⟩))<;>refine Bc ?_)
    ·exact absurd ER b
    ·refine go ?_;refine⟨k+1,⟨rfl,⟨rfl,rfl,?_,trivial⟩,⟨by omega,e.trans M,P⟩⟩,by omega⟩;show iV ((k:Int)+1)=_;rw[Int.natCast_add];rfl
  ·have a:CC u y=false:=by simp[CC,K]
   rw[a,if_neg O]at P;refine go ?_;refine⟨k+1,⟨rfl,⟨rfl,rfl,?_,trivial⟩,⟨by omega,e.trans M,P⟩⟩,by omega⟩;show iV ((k:Int)+1)=_;rw[Int.natCast_add];rfl
 ·refine go ?_;have f:symsL.drop k=[]:=List.drop_eq_nil_of_le (by show 15<=k;omega);rw[f]at P;exact AC rfl ⟨by unfold symW;rw[P];rfl,Z.trans e⟩
def C0(u:LU):Int×Nat×Bool:=
 if Ch (u.getD 0 0)=true then(1,Ao BD u 1,decide (Ao BD u 1<=20))
 else if Au (u.getD 0 0)=true then(2,Ao Au u 0, !BM u 0)
 else(3,(symW u).length, !decide (symW u=[]))
theorem rnext_ok(u:LU)(w:World)(h1:1<=u.length)(h6:u.length<=1000000):Fn Zp 107 [AL u] w fun v w'=>Ext w w'/\v=.tuple #[.agg #[iV (C0 u).1,AL (u.take (C0 u).2.1),iV 0],.bool (C0 u).2.2]:=by
 have Z:u[0]?=some u[0]:=List.getElem?_eq_getElem U;generalize u[0]=c at Z;have z:u.getD 0 0=c:=by simp[List.getD_eq_getElem?_getD,Z]
 have cb:=c.toNat_lt;refine AN Tryz.func107 rfl Tryz.ntmps107 (go ?_);refine AY (fun w1 A=>?_);have k:Blk w1 w.heap.size 170 [iV 0,AL [],iV 0]:=A.D;((refine AO ?_;refine AE rfl ?_))
 repeat refine nx rfl ?_
 refine AJ (AO (AS rfl ?_));repeat refine nx rfl ?_
 refine CA (α:=Unit) (fun _=>[(0,AL u),(2,pt w.heap.size),(3,.bool false),(4,iV 0),(19,.bool (Ch c))]) (fun _ W=>W=w1) ?_ ?_
 ·by_cases hs:97<=c.toNat/\c.toNat<=122
  ·have X:A5 c=true:=by simp[A5,hs.1,hs.2]
   refine go ?_;exact Aj () ⟨rfl,rfl,rfl,rfl,by simp[upd,Nat.beq,Ch,X],trivial⟩ rfl
  ·have X:A5 c=false:=by simp[A5];omega
   (refine AJ (BC rfl ?_)<;>refine Dm rfl rfl ER ?_<;>(refine W_geq rfl rfl (fun T=>?_) (fun T=>?_)<;>try omega)<;>refine AE rfl ?_<;>(first|refine Ah rfl ?_|(refine AK rfl ?_;refine BC rfl ?_))<;>(first|refine Ah rfl ?_|(refine AK rfl ?_;refine Dm rfl rfl ER ?_))<;>(first|refine Ah rfl ?_|(refine AK rfl ?_;(refine Cp rfl rfl (fun T=>?_) (fun T=>?_)<;>try omega)))<;>((first|refine Ae rfl ?_|refine Ad rfl ?_);refine AE rfl ?_)<;>refine AE rfl (AK rfl (BC rfl (AK rfl ?_)))<;>refine Dm rfl rfl ER ?_)
   all_goals
    (refine AK rfl ?_;refine AF (rbig_ok c _) rfl ?_)
    rintro v w'⟨rfl,rfl⟩;refine go ?_;exact Aj () ⟨rfl,rfl,rfl,rfl,by simp[upd,Nat.beq,Ch,X],trivial⟩ rfl
 rintro _ w2 f2 rfl;refine go ?_;cases hl:Ch c with
 |true=>
  refine go ?_;refine Ar (α:=Nat) (fun n=>[(0,AL u),(2,pt w.heap.size),(3,.bool false),(4,iV (n:Int))]) (fun n W=>n<=u.length/\1<=n/\Ao BD u n=Ao BD u 1/\W=w2) (fun n=>u.length-n) 1 ag ⟨by omega,Nat.le_refl _,rfl,rfl⟩ ?_;rintro n w3 f3⟨hn,a1,C,rfl⟩;refine go ?_;by_cases q:n<u.length
  ·have l:u[n]?=some u[n]:=List.getElem?_eq_getElem q;generalize u[n]=d at l;refine go ?_;refine AF (rpart_ok d _) rfl ?_;rintro v w'⟨rfl,rfl⟩;refine go ?_;cases hp:BD d with
   |true=>
    refine go ?_;refine⟨n+1,⟨rfl,⟨rfl,rfl,rfl,?_,trivial⟩,⟨by omega,by omega,(Bp l hp).symm.trans C,rfl⟩⟩,by omega⟩;show iV ((n:Int)+1)=_;rw[Int.natCast_add];rfl
   |false=>
    have R:=whileB_stop l hp;refine go ?_;have e:n=Ao BD u 1:=by omega
    have Q:=Bv (p:=BD) (t:=u) (a:=1) U;rw[e];by_cases I:Ao BD u 1<=20
    ·refine go ?_;refine AI (cs:=[iV 1,AL (u.take (Ao BD u 1)),iV 0]) rfl rfl rfl (AV rfl) k O (fun h b=>?_);have g:Blk h w.heap.size 170 [iV 1,AL (u.take (Ao BD u 1)),iV 0]:=b.D;refine go ?_;refine BB rfl rfl rfl g.cells ⟨A.E.E b.E O,?_⟩;unfold C0;rw[z,if_pos hl,decide_eq_true I];rfl
    ·refine go ?_;refine AI (cs:=[iV 1,AL (u.take (Ao BD u 1)),iV 0]) rfl rfl rfl (AV rfl) k O (fun h b=>?_);have g:Blk h w.heap.size 170 [iV 1,AL (u.take (Ao BD u 1)),iV 0]:=b.D;refine go ?_;refine BB rfl rfl rfl g.cells ⟨A.E.E b.E O,?_⟩;unfold C0;rw[z,if_pos hl,decide_eq_false I];rfl
  ·obtain rfl:n=u.length:=by omega
   have R:=whileB_end (p:=BD) (t:=u) (a:=u.length) U;have e:u.length=Ao BD u 1:=by omega
   refine go ?_;have Q:=Bv (p:=BD) (t:=u) (a:=1) U;rw[e];by_cases I:Ao BD u 1<=20
   ·refine go ?_;refine AI (cs:=[iV 1,AL (u.take (Ao BD u 1)),iV 0]) rfl rfl rfl (AV rfl) k O (fun h b=>?_);have g:Blk h w.heap.size 170 [iV 1,AL (u.take (Ao BD u 1)),iV 0]:=b.D;refine go ?_;refine BB rfl rfl rfl g.cells ⟨A.E.E b.E O,?_⟩;unfold C0;rw[z,if_pos hl,decide_eq_true I];rfl
   ·refine go ?_;refine AI (cs:=[iV 1,AL (u.take (Ao BD u 1)),iV 0]) rfl rfl rfl (AV rfl) k O (fun h b=>?_);have g:Blk h w.heap.size 170 [iV 1,AL (u.take (Ao BD u 1)),iV 0]:=b.D;refine go ?_;refine BB rfl rfl rfl g.cells ⟨A.E.E b.E O,?_⟩;unfold C0;rw[z,if_pos hl,decide_eq_false I];rfl
 |false=>
  refine go ?_;refine AF (rdig_ok c _) rfl ?_;rintro v w'⟨rfl,rfl⟩;refine go ?_;cases hd:Au c with
  |true=>
   refine go ?_;refine Ar (α:=Nat) (fun n=>[(0,AL u),(2,pt w.heap.size),(3,.bool false),(4,iV (n:Int))]) (fun n W=>n<=u.length/\0<=n/\Ao Au u n=Ao Au u 0/\W=w') (fun n=>u.length-n) 0 ag ⟨by omega,Nat.le_refl _,rfl,rfl⟩ ?_;rintro n w3 f3⟨hn,a1,C,rfl⟩;repeat refine nx rfl ?_
   by_cases q:n<u.length
   ·have l:u[n]?=some u[n]:=List.getElem?_eq_getElem q;generalize u[n]=d at l;(refine AJ (AS rfl (BC rfl (Cz rfl ?_)))<;>(refine C6 rfl rfl (fun T=>?_) (fun T=>?_)<;>try omega)<;>refine AE rfl (AK rfl (BC rfl (AK rfl (AS rfl (AK rfl ?_)))))<;>refine Dm rfl rfl ER ?_)
    (refine AK rfl ?_;refine AF (rdig_ok d _) rfl ?_)
    rintro v w'⟨rfl,rfl⟩;refine Ae rfl (AE rfl (AA ?_));cases hp:Au d with
    |true=>
     repeat refine nx rfl ?_
     (refine AJ (AS rfl ?_)<;>refine W_add rfl rfl Ea ?_<;>refine AO (AS rfl ?_))
     repeat refine nx rfl ?_
     refine⟨n+1,⟨rfl,⟨rfl,rfl,rfl,?_,trivial⟩,⟨by omega,by omega,(Bp l hp).symm.trans C,rfl⟩⟩,by omega⟩;show iV ((n:Int)+1)=_;rw[Int.natCast_add];rfl
    |false=>
     have R:=whileB_stop l hp;repeat first|refine nx rfl ?_|refine nf rfl ?_
     have e:n=Ao Au u 0:=by omega
     have Q:=Bv (p:=Au) (t:=u) (a:=0) U
     have L:1<=Ao Au u 0:=by
      have h1:=Bp (p:=Au) Z hd;have h2:=CK Au u (0+1);omega
     have m:C0 u=(2,Ao Au u 0, !BM u 0):=by
      unfold C0;rw[z,hl,hd];rfl
     rw[e];clear e R C;generalize S:Ao Au u 0=N at Q L m
     have K:BM u 0=(decide (4<N)||(decide (1<N)&&decide (c.toNat=48))||(decide (N<u.length)&&(Ch (u.getD N 0)||decide ((u.getD N 0).toNat=95)))):=by
      unfold BM;rw[S,z,Nat.sub_zero]
     refine CA (α:=Unit) (fun _=>[(0,AL u),(2,pt w.heap.size),(3,.bool false),(4,iV (N:Int)),(5,.bool (decide (N<u.length)&&(Ch (u.getD N 0)||decide ((u.getD N 0).toNat=95))))]) (fun _ W=>Ext w W/\Blk W w.heap.size 170 [iV 0,AL [],iV 0]) ?_ ?_
     ·by_cases q:N<u.length
      ·have l:u[N]?=some u[N]:=List.getElem?_eq_getElem q;generalize u[N]=d at l;have V:u.getD N 0=d:=by simp[List.getD_eq_getElem?_getD,l]
       rw[V,decide_eq_true q,Bool.true_and];(refine AJ (AS rfl (BC rfl (Cz rfl ?_)))<;>(refine C6 rfl rfl (fun T=>?_) (fun T=>?_)<;>try omega)<;>refine AE rfl (AK rfl (BC rfl (AK rfl (AS rfl (AK rfl ?_)))))<;>refine Dm rfl rfl ER ?_)
       (refine AK rfl ?_;refine AF (rlow_ok d _) rfl ?_)
       rintro v w'⟨rfl,rfl⟩;cases hsd:A5 d with
       |true=>
        (refine AK rfl (AE rfl (Ah rfl (Ah rfl (Ah rfl (Ah rfl ?_)))))<;>(refine AK rfl ?_;(refine Ae rfl ?_;refine AE rfl ?_))<;>refine AK rfl (AE rfl (Ah rfl (Ah rfl (Ah rfl (Ah rfl ?_)))))<;>(refine AK rfl ?_;(refine Ae rfl ?_;refine AE rfl ?_))<;>refine Ae rfl (AE rfl (AO (AE rfl (AA ?_)))))
        exact Aj () ⟨rfl,rfl,rfl,rfl,by simp[upd,Nat.beq,Ch,hsd],trivial⟩ ⟨A.E,k⟩
       |false=>
        (refine AK rfl (AE rfl (AK rfl (BC rfl (AK rfl (AS rfl (AK rfl ?_))))))<;>refine Dm rfl rfl ER ?_)
        (refine AK rfl ?_;refine AF (rbig_ok d _) rfl ?_)
        rintro v w'⟨rfl,rfl⟩;cases hud:isUp d with
        |true=>
         ((refine AK rfl ?_;(refine Ad rfl ?_;refine AE rfl ?_))<;>refine AK rfl (AE rfl (Ah rfl (Ah rfl (Ah rfl (Ah rfl ?_)))))<;>(refine AK rfl ?_;(refine Ae rfl ?_;refine AE rfl ?_))<;>refine Ae rfl (AE rfl (AO (AE rfl (AA ?_)))))
         exact Aj () ⟨rfl,rfl,rfl,rfl,by simp[upd,Nat.beq,Ch,hsd,hud],trivial⟩ ⟨A.E,k⟩
        |false=>
         ((refine AK rfl ?_;(refine Ad rfl ?_;refine AE rfl ?_))<;>refine AK rfl (AE rfl (AK rfl (BC rfl (AK rfl (AS rfl (AK rfl ?_))))))<;>refine Dm rfl rfl ER ?_<;>(refine AK rfl ?_;(refine Bf rfl rfl (fun T=>?_) (fun T=>?_)<;>try omega))<;>(refine AK rfl ?_;(refine Ad rfl ?_;refine AE rfl ?_))<;>refine Ae rfl (AE rfl (AO (AE rfl (AA ?_)))))
         all_goals exact Aj () ⟨rfl,rfl,rfl,rfl,by simp[upd,Nat.beq,Ch,hsd,hud];omega,trivial⟩ ⟨A.E,k⟩
      ·exact FR
     rintro _ h f4⟨k4,g⟩;repeat refine nx rfl ?_
     generalize (decide (N<u.length)&&(Ch (u.getD N 0)||decide ((u.getD N 0).toNat=95)))=glued at K;refine Ac (rd 0 19 (.alt 19 (.read 20 .done) .stop)) Ap EO (fun wd M ed=>⟨Keep [w.heap.size] h,?_,?_⟩)
     ·exact M.any
     have j:=g.E M O
     have H:∀r:Bool,r= !BM u 0->∀(f:Fr)(x:World),Put wd x w.heap.size 170 [iV 2,AL (u.take N),iV 0]->f 2=pt w.heap.size->f 3=.bool r->
       Cx Zp Tryz.f107 (fun v w'=>Ext w w'/\v=.tuple #[.agg #[iV (C0 u).1,AL (u.take (C0 u).2.1),iV 0],.bool (C0 u).2.2]) (fun _ _=>False) .ret f [] x:=by
      rintro r rfl f x s D E;refine BB rfl D rfl s.D.cells ⟨(k4.trans M).E s.E O,?_⟩;rw[m,E]
     cases glued<;>by_cases B:N<=4<;>by_cases G:N=1<;>by_cases F:c.toNat=48;all_goals try (exfalso;omega)
     all_goals
      ((refine D_R rfl rfl (fun W o=>BC rfl dz) ?_)<;>(refine D_R rfl rfl (fun W o=>AS rfl dz) ?_)<;>(apply D_R rfl rfl;(intro W o;refine W_sslice_h rfl rfl U ?_;exact AA ⟨rfl,rfl,rfl⟩))<;>(apply D_R rfl rfl;(intro W o;refine BO EQ EQ ?_;exact AA ⟨rfl,rfl,rfl⟩))<;>(refine D_R rfl rfl (fun W o=>AS rfl dz) ?_)<;>(refine D_leq rfl rfl rfl rfl (fun T=>?_) (fun T=>?_)<;>try omega)<;>(refine D_R rfl rfl (fun W o=>AE rfl dz) ?_)<;>(first|refine At rfl rfl rfl rfl ?_|(refine D_R rfl rfl (fun W o=>AK rfl (AE rfl dz)) ?_))<;>(first|refine At rfl rfl rfl rfl ?_|(refine D_R rfl rfl (fun W o=>AK rfl (W_not rfl dz)) ?_))<;>(apply D_R rfl rfl;(intro W o;((first|refine Ae rfl ?_|refine Ad rfl ?_);refine AE rfl ?_);exact AA ⟨rfl,rfl,rfl⟩))<;>(refine D_R rfl rfl (fun W o=>AE rfl dz) ?_)<;>(first|refine At rfl rfl rfl rfl ?_|(refine D_R rfl rfl (fun W o=>AK rfl (AS rfl dz)) ?_))<;>(first|refine At rfl rfl rfl rfl ?_|(refine D_eql rfl rfl rfl rfl (fun T=>?_) (fun T=>?_)<;>try omega))<;>(first|refine At rfl rfl rfl rfl ?_|(refine D_R rfl rfl (fun W o=>AK rfl (AE rfl dz)) ?_))<;>(first|refine At rfl rfl rfl rfl ?_|(refine D_R rfl rfl (fun W o=>Ah rfl dz) ?_)|(refine D_R rfl rfl (fun W o=>AK rfl (BC rfl dz)) ?_))<;>(first|refine At rfl rfl rfl rfl ?_|(refine D_R rfl rfl (fun W o=>Ah rfl dz) ?_)|(apply D_R rfl rfl;(intro W o;(refine AK rfl ?_;refine Dm rfl rfl ER ?_);exact AA ⟨rfl,rfl,rfl⟩)))<;>(first|refine At rfl rfl rfl rfl ?_|(refine D_R rfl rfl (fun W o=>Ah rfl dz) ?_)|(refine D_neq rfl rfl rfl rfl (fun T=>?_) (fun T=>?_)<;>try omega))<;>(first|refine At rfl rfl rfl rfl ?_|(apply D_R rfl rfl;(intro W o;(refine AK rfl ?_;((first|refine Ae rfl ?_|refine Ad rfl ?_);refine AE rfl ?_));exact AA ⟨rfl,rfl,rfl⟩)))<;>(apply D_R rfl rfl;(intro W o;((first|refine Ae rfl ?_|refine Ad rfl ?_);refine AE rfl ?_);exact AA ⟨rfl,rfl,rfl⟩)))
      refine D_E rfl ?_;refine AI (cs:=[iV 2,AL (u.take N),iV 0]) rfl rfl rfl (AV rfl) j O (fun x s=>?_);refine AA ⟨fun W=>W=x,fun W o=>o▸(M.any.trans s.E O),rfl,?_⟩;((apply D_R rfl rfl;(intro W o;subst o;(refine AO ?_;refine AE rfl ?_);exact AA ⟨rfl,rfl,rfl⟩))<;>refine Bc ?_)
      repeat refine nx rfl ?_
      refine H _ ?_ _ x s rfl rfl;rw[K];simp[upd,Nat.beq,B,G,F]<;>omega
   ·obtain rfl:n=u.length:=by omega
    have R:=whileB_end (p:=Au) (t:=u) (a:=u.length) U;have e:u.length=Ao Au u 0:=by omega
    (refine AJ (AS rfl (BC rfl (Cz rfl ?_)))<;>(refine C6 rfl rfl (fun T=>?_) (fun T=>?_)<;>try omega)<;>refine AE rfl (Ah rfl (Ah rfl (Ah rfl ?_))))
    refine Ah rfl (Ad rfl (AE rfl ?_));repeat first|refine nx rfl ?_|refine nf rfl ?_
    have Q:=Bv (p:=Au) (t:=u) (a:=0) U
    have L:1<=Ao Au u 0:=by
     have h1:=Bp (p:=Au) Z hd;have h2:=CK Au u (0+1);omega
    have m:C0 u=(2,Ao Au u 0, !BM u 0):=by
     unfold C0;rw[z,hl,hd];rfl
    rw[e];clear e R C;generalize S:Ao Au u 0=N at Q L m
    have K:BM u 0=(decide (4<N)||(decide (1<N)&&decide (c.toNat=48))||(decide (N<u.length)&&(Ch (u.getD N 0)||decide ((u.getD N 0).toNat=95)))):=by
     unfold BM;rw[S,z,Nat.sub_zero]
    refine CA (α:=Unit) (fun _=>[(0,AL u),(2,pt w.heap.size),(3,.bool false),(4,iV (N:Int)),(5,.bool (decide (N<u.length)&&(Ch (u.getD N 0)||decide ((u.getD N 0).toNat=95))))]) (fun _ W=>Ext w W/\Blk W w.heap.size 170 [iV 0,AL [],iV 0]) ?_ ?_
    ·by_cases q:N<u.length
     ·have l:u[N]?=some u[N]:=List.getElem?_eq_getElem q;generalize u[N]=d at l;have V:u.getD N 0=d:=by simp[List.getD_eq_getElem?_getD,l]
      rw[V,decide_eq_true q,Bool.true_and];(refine AJ (AS rfl (BC rfl (Cz rfl ?_)))<;>(refine C6 rfl rfl (fun T=>?_) (fun T=>?_)<;>try omega)<;>refine AE rfl (AK rfl (BC rfl (AK rfl (AS rfl (AK rfl ?_)))))<;>refine Dm rfl rfl ER ?_)
      (refine AK rfl ?_;refine AF (rlow_ok d _) rfl ?_)
      rintro v w'⟨rfl,rfl⟩;cases hsd:A5 d with
      |true=>
       refine go ?_;exact Aj () ⟨rfl,rfl,rfl,rfl,by simp[upd,Nat.beq,Ch,hsd],trivial⟩ ⟨A.E,k⟩
      |false=>
       refine go ?_;refine AF (rbig_ok d _) rfl ?_;rintro v w'⟨rfl,rfl⟩;cases hud:isUp d with
       |true=>
        refine go ?_;exact Aj () ⟨rfl,rfl,rfl,rfl,by simp[upd,Nat.beq,Ch,hsd,hud],trivial⟩ ⟨A.E,k⟩
       |false=>
        ((refine AK rfl ?_;(refine Ad rfl ?_;refine AE rfl ?_))<;>refine AK rfl (AE rfl (AK rfl (BC rfl (AK rfl (AS rfl (AK rfl ?_))))))<;>refine Dm rfl rfl ER ?_<;>(refine AK rfl ?_;(refine Bf rfl rfl (fun T=>?_) (fun T=>?_)<;>try omega))<;>(refine AK rfl ?_;(refine Ad rfl ?_;refine AE rfl ?_))<;>refine Ae rfl (AE rfl (AO (AE rfl (AA ?_)))))
        all_goals exact Aj () ⟨rfl,rfl,rfl,rfl,by simp[upd,Nat.beq,Ch,hsd,hud];omega,trivial⟩ ⟨A.E,k⟩
     ·exact FR
    rintro _ h f4⟨k4,g⟩;repeat refine nx rfl ?_
    generalize (decide (N<u.length)&&(Ch (u.getD N 0)||decide ((u.getD N 0).toNat=95)))=glued at K;refine Ac (rd 0 19 (.alt 19 (.read 20 .done) .stop)) Ap EO (fun wd M ed=>⟨Keep [w.heap.size] h,?_,?_⟩)
    ·exact M.any
    have j:=g.E M O
    have H:∀r:Bool,r= !BM u 0->∀(f:Fr)(x:World),Put wd x w.heap.size 170 [iV 2,AL (u.take N),iV 0]->f 2=pt w.heap.size->f 3=.bool r->
      Cx Zp Tryz.f107 (fun v w'=>Ext w w'/\v=.tuple #[.agg #[iV (C0 u).1,AL (u.take (C0 u).2.1),iV 0],.bool (C0 u).2.2]) (fun _ _=>False) .ret f [] x:=by
     rintro r rfl f x s D E;refine BB rfl D rfl s.D.cells ⟨(k4.trans M).E s.E O,?_⟩;rw[m,E]
    cases glued<;>by_cases B:N<=4<;>by_cases G:N=1<;>by_cases F:c.toNat=48;all_goals try (exfalso;omega)
    all_goals
     refine go ?_;refine D_E rfl ?_;refine AI (cs:=[iV 2,AL (u.take N),iV 0]) rfl rfl rfl (AV rfl) j O (fun x s=>?_);refine AA ⟨fun W=>W=x,fun W o=>o▸(M.any.trans s.E O),rfl,?_⟩;refine go ?_;refine H _ ?_ _ x s rfl rfl;rw[K];simp[upd,Nat.beq,B,G,F]<;>omega
  |false=>
   refine go ?_;refine AF (rsymbol_ok u _) rfl ?_;rintro v w3⟨rfl,i⟩;((refine AO ?_;refine BC rfl ?_))
   repeat refine nx rfl ?_
   have b3:=k.E i O
   have a0:symW u=u.take (symW u).length:=by
    unfold symW;cases hf:symsL.find? (CC u)with
    |none=>rfl
    |some y=>exact(List.prefix_iff_eq_take.1 ((DL _ _).1 (List.find?_some hf)))
   have m:C0 u=(3,(symW u).length, !decide (symW u=[])):=by
    unfold C0;rw[z,hl,hd];rfl
   by_cases P:symW u=[]
   ·(refine AJ (BC rfl ?_)<;>refine BO EQ EQ ?_<;>refine BC rfl ?_<;>refine W_sneq rfl rfl (fun T=>?_) (fun T=>?_))
    ·exact absurd P ER
    ·refine AI (cs:=[iV 3,AL (symW u),iV 0]) rfl rfl rfl (AV rfl) b3 O (fun h b=>?_);have g:Blk h w.heap.size 170 [iV 3,AL (symW u),iV 0]:=b.D;((refine AO ?_;refine AE rfl ?_))
     repeat refine nx rfl ?_
     refine BB rfl rfl rfl g.cells ⟨(A.E.trans i).E b.E O,?_⟩;rw[m];simp only;rw[<-a0,decide_eq_true P];rfl
   ·(refine AJ (BC rfl ?_)<;>refine BO EQ EQ ?_<;>refine BC rfl ?_<;>refine W_sneq rfl rfl (fun T=>?_) (fun T=>?_))
    ·refine AI (cs:=[iV 3,AL (symW u),iV 0]) rfl rfl rfl (AV rfl) b3 O (fun h b=>?_);have g:Blk h w.heap.size 170 [iV 3,AL (symW u),iV 0]:=b.D;refine go ?_;refine BB rfl rfl rfl g.cells ⟨(A.E.trans i).E b.E O,?_⟩;rw[m];simp only;rw[<-a0,decide_eq_false P];rfl
    ·exact absurd ER P
def kindOk(c:UInt8):Bool:=match Df c with
 |some 0=>isBlank c
 |some 1=>decide (c.toNat=37)
 |some 2=>Ch c
 |some 3=> !Ch c&&Au c
 |some _=> !Ch c&& !Au c
 |none=> !Ch c&& !Au c&&symsL.all (fun y=>decide (y.head?≠some c))
def gapOk(c:UInt8):Bool:=(!isBlank c||decide (Df c=some 0))&&(!decide (c.toNat=37)||decide (Df c=some 1))
theorem kinds_all:∀n:Fin 256,(kindOk (UInt8.ofNat n.val)&&gapOk (UInt8.ofNat n.val))=true:=by decide+kernel
theorem kind_all(c:UInt8):kindOk c=true/\gapOk c=true:=by
 have h:=kinds_all ⟨c.toNat,c.toNat_lt⟩;rw[Bool.and_eq_true]at h;have e:UInt8.ofNat c.toNat=c:=by simp
 simp only[e]at h;exact h
theorem kind_blank{c:UInt8}(h:isBlank c=true):Df c=some 0:=by
 have:=(kind_all c).2;simp only[gapOk,h,Bool.not_true,Bool.false_or,Bool.and_eq_true,decide_eq_true_eq]at this;exact this.1
theorem kind_37{c:UInt8}(h:c.toNat=37):Df c=some 1:=by
 have:=(kind_all c).2;simp only[gapOk,h,decide_true,Bool.not_true,Bool.false_or,Bool.and_eq_true,decide_eq_true_eq]at this;exact this.2
theorem drop_split(t:LU){a:Nat}(h:a<=t.length):t=t.take a++t.drop a/\(t.take a).length=a:=⟨(List.take_append_drop a t).symm,by simp;omega⟩
theorem whileB_drop(q:UInt8->Bool)(t:LU){a:Nat}(h:a<=t.length)(j:Nat):Ao q t (a+j)=a+Ao q (t.drop a) j:=by
 obtain⟨Z,W⟩:=drop_split t h;have:=Dv (q:=q) (t.take a) (t.drop a) j;rw[<-Z,W]at this;exact this
theorem step_next(t:LU)(a:Nat)(ts:List Tok)(D:a<t.length)(f:Df (t.getD a 0)≠some 0)(Z:Df (t.getD a 0)≠some 1):
  BU t a ts=if(C0 (t.drop a)).2.2=true then C8 t a ts (C0 (t.drop a)).1 (a+(C0 (t.drop a)).2.1)else .error (40,a):=by
 have w:(t.drop a).getD 0 0=t.getD a 0:=by simp[List.getD_eq_getElem?_getD]
 have L:=(kind_all (t.getD a 0)).1;unfold kindOk at L;unfold BU C0;rw[w]
 split at L
 ·rename_i e;exact absurd e f
 ·rename_i e;exact absurd e Z
 ·rename_i e;rw[e,if_pos L];simp only[EN];rw[whileB_drop BD t U 1];by_cases I:Ao BD (t.drop a) 1<=20
  ·rw[if_neg U,if_pos Ep]
  ·rw[if_pos U,if_neg Ep]
 ·rename_i e;rw[e];rw[Bool.and_eq_true,Bool.not_eq_true']at L;rw[L.1,L.2];simp only[Bool.false_eq_true,if_false,if_true,EI];obtain⟨Q,c⟩:=drop_split t (Nat.le_of_lt D)
  have K:BM t a=BM (t.drop a) 0:=by
   have:=numBad_sh (t.take a) (t.drop a) 0;rw[<-Q,c]at this;exact this
  have b:=whileB_drop Au t (Nat.le_of_lt D) 0;rw[Nat.add_zero]at b;rw[K,b];cases BM (t.drop a) 0<;>rfl
 ·rename_i k e0 e1 e2 e3 hkk;simp only[Bool.and_eq_true,Bool.not_eq_true']at L;rw[L.1,L.2];simp only[Bool.false_eq_true,if_false];have q:k≠0:=e0;have C:k≠1:=e1;have h:k≠2:=e2;have B:k≠3:=e3;obtain⟨j,rfl⟩:∃j,k=j+4:=⟨k-4,by omega⟩;rw[hkk];show symM t a ts=_;unfold symM symW;cases P:symsL.find? (CC (t.drop a))with
  |none=>rfl
  |some y=>
   have N:∀y∈symsL,y≠[]:=by decide
   have:=N y (List.mem_of_find?_eq_some P);simp[this]
 ·rename_i e;simp only[Bool.and_eq_true,Bool.not_eq_true']at L;rw[e,L.1.1,L.1.2];simp only[Bool.false_eq_true,if_false]
  have P:symsL.find? (CC (t.drop a))=none:=by
   rw[List.find?_eq_none];intro y E g;have Z:=(DL _ _).1 g;have W:=List.all_eq_true.1 L.2 y E;have N:∀y∈symsL,y≠[]:=by decide
   match y,N y E,Z,W with
   |d::y,_,Z,W=>
    obtain⟨r,G⟩:=Z;have:(t.drop a).head?=some d:=by rw[<-G];rfl
    have T:t[a]?=some t[a]:=List.getElem?_eq_getElem D;rw[List.head?_drop,T]at this;rw[EA T]at W;simp at W;exact W (Option.some.inj this).symm
  unfold symW;rw[P];rfl
theorem gapW_ge(t:LU):∀(m a:Nat),t.length-a<=m->a<=t.length->a<=gapW t a/\gapW t a<=t.length/\gapW t (gapW t a)=gapW t a:=by
 intro m
 induction m with
 |zero=>
  intro a s D;obtain rfl:a=t.length:=by omega
  rw[gapW_end];exact⟨Nat.le_refl _,Nat.le_refl _,gapW_end⟩
 |succ m ih=>
  intro a s D;by_cases h:a<t.length
  ·have T:t[a]?=some t[a]:=List.getElem?_eq_getElem h;rw[gapW_step T]
   split
   ·rename_i h37;have Z:=Bv (p:=BQ) (t:=t) (a:=a) U;have W:=Bp (p:=BQ) T (by simp[BQ,h37]);have R:=CK BQ t (a+1);have:=ih (Ao BQ t a) U Z;exact⟨by omega,this.2⟩
   ·split
    ·have:=ih (a+1) U U;exact⟨by omega,this.2⟩
    ·rename_i Z W;refine⟨Nat.le_refl _,by omega,?_⟩;rw[gapW_step T,if_neg Z,if_neg W]
  ·obtain rfl:a=t.length:=by omega
   rw[gapW_end];exact⟨Nat.le_refl _,Nat.le_refl _,gapW_end⟩
theorem scan_gap(t:LU)(ts:List Tok):∀(m a:Nat),t.length-a<=m->a<=t.length->scanW t a ts=scanW t (gapW t a) ts:=by
 intro m
 induction m with
 |zero=>
  intro a s D;obtain rfl:a=t.length:=by omega
  rw[gapW_end]
 |succ m ih=>
  intro a s D;by_cases h:a<t.length
  ·have T:t[a]?=some t[a]:=List.getElem?_eq_getElem h;have w:t.getD a 0=t[a]:=EA T;rw[gapW_step T]
   split
   ·rename_i h37;have Z:=Bv (p:=BQ) (t:=t) (a:=a) U;have W:=Bp (p:=BQ) T (by simp[BQ,h37]);have R:=CK BQ t (a+1);rw[Di h];have:BU t a ts=.ok (Ao BQ t a,ts):=by unfold BU;rw[w,kind_37 h37];rfl
    rw[this];exact ih _ U Z
   ·split
    ·rename_i hb;rw[Di h];have:BU t a ts=.ok (a+1,ts):=by unfold BU;rw[w,kind_blank hb];rfl
     rw[this];exact ih _ U U
    ·rfl
  ·obtain rfl:a=t.length:=by omega
   rw[gapW_end]
theorem gap_stop{t:LU}{i:Nat}(H:i<t.length)(h:gapW t i=i):Df (t.getD i 0)≠some 0/\Df (t.getD i 0)≠some 1:=by
 have T:t[i]?=some t[i]:=List.getElem?_eq_getElem H;have w:t.getD i 0=t[i]:=EA T;rw[gapW_step T]at h;rw[w];refine⟨fun e=>?_,fun e=>?_⟩
 ·obtain⟨Z,W⟩:=kindB_0 e;rw[if_neg Z,if_pos W]at h;have:=(gapW_ge t _ (i+1) (Nat.le_refl _) U).1;omega
 ·have o:=kindB_1 e;rw[if_pos o]at h;have Z:=Bv (p:=BQ) (t:=t) (a:=i) U;have W:=Bp (p:=BQ) T (by simp[BQ,o]);have R:=CK BQ t (i+1);have:=(gapW_ge t _ (Ao BQ t i) (Nat.le_refl _) Z).1;omega
theorem gapW_drop(t:LU){a:Nat}(h:a<=t.length):gapW t a=a+gapW (t.drop a) 0:=by
 obtain⟨Z,W⟩:=drop_split t h;have:=gapW_sh (t.take a) (t.drop a) 0 U;rw[<-Z,W,Nat.add_zero]at this;exact this
theorem nextM_pos{u:LU}(h:1<=u.length)(G:(C0 u).2.2=true):1<=(C0 u).2.1/\(C0 u).2.1<=u.length:=by
 unfold C0 at G⊢
 split
 ·have:=CK BD u 1;have:=Bv (p:=BD) (t:=u) (a:=1) h;simp only;omega
 ·split
  ·rename_i hd;have T:u[0]?=some u[0]:=List.getElem?_eq_getElem U;rw[EA T]at hd;have:=Bp (p:=Au) T hd;have:=CK Au u (0+1);have:=Bv (p:=Au) (t:=u) (a:=0) U;simp only;omega
  ·rename_i h1 h2;rw[if_neg h1,if_neg h2]at G;simp only[Bool.not_eq_true',decide_eq_false_iff_not]at G;simp only
   have K:(symW u).length<=u.length:=by
    unfold symW;cases hf:symsL.find? (CC u)with
    |none=>simp
    |some y=>exact((DL _ _).1 (List.find?_some hf)).length_le
   have:(symW u).length≠0:=fun e=>G (List.eq_nil_of_length_eq_zero e);omega
theorem madeTok:(madeCells (Value.agg #[iV 0,AL [],iV 0]).cells (1*3)).toList=[iV 0,AL [],iV 0]:=by kernel_rfl
theorem reflex_ok(w:World)(t:LU):Fn Zp 44 [AL t] w fun v w'=>∃a c e q ts,v=.tuple #[.slice a ts.length c,iV e,iV q]/\Ext w w'/\Toks w' a c ts/\
  ((EE t=.ok ts/\e=0/\q= -1)\/∃p:Nat,EE t=.error (e,p)/\e≠0/\q=(p:Int)/\ts=[]):=by
 have k:∀W:World,Toks W none 0 []:=fun W=>⟨none,0,rfl,by simp,by omega,fun _=>rfl,.inl rfl⟩;refine AN Tryz.func44 rfl Tryz.ntmps44 (go ?_);by_cases hl:6000<t.length
 ·refine go ?_;exact Bl rfl ⟨none,0,2,6000,[],rfl,Ext.refl _,k _,.inr ⟨6000,by unfold EE;rw[if_pos hl],by decide,rfl,rfl⟩⟩
 have l:=lexM_of (t:=t) U;refine go ?_;refine AP (out:=[]) rfl U EO (fun w1 B=>?_);have o1:=B.own (n:=0) (size:=3) rfl EW (Nat.le_refl _);have z1:=B.size;refine go ?_;refine AF (gap_ok t w1 U) rfl ?_;rintro v w2⟨rfl,rfl⟩;refine go ?_;have D:=gapW_ge t _ 0 (Nat.le_refl _) U;have a7:=scan_gap t [] _ 0 (Nat.le_refl _) U
 refine Ar (α:=Nat×Value×List Tok) (fun x=>[(0,AL t),(5,x.2.1),(6,iV (x.1:Int))])
  (fun x W=>x.1<=t.length/\gapW t x.1=x.1/\x.2.2.length<=2000/\Ext w W/\w.heap.size<W.heap.size/\W.ownsRow w.heap.size 170 3 x.2.1 x.2.2.length (Dk x.2.2)/\scanW t 0 []=scanW t x.1 x.2.2) (fun x=>t.length-x.1)
  (gapW t 0,.slice (sm w.heap.size) 0 0,[]) ag ⟨D.2.1,D.2.2,by simp,B.E,by omega,o1,a7⟩ ?_
 rintro⟨i,ov,ts⟩z f3⟨hi,K,a0,f,z3,o,I⟩;simp only at hi K a0 f z3 o I⊢
 obtain⟨r,h,rfl⟩:∃r h,ov=.slice r ts.length h:=by
  rcases o.2 with⟨rfl,h0⟩|⟨g,a9,b0,rfl,_⟩
  ·exact⟨none,0,by rw[h0]⟩
  ·exact Gq
 refine go ?_;by_cases d:i<t.length
 ·have a1:(t.drop i).length=t.length-i:=by simp
  obtain⟨a4,a5⟩:=gap_stop d K;have H:=step_next t i ts d a4 a5;refine go ?_;refine AF (rnext_ok (t.drop i) z U U) rfl ?_;rintro v w4⟨T,rfl⟩;generalize m:C0 (t.drop i)=x at H;obtain⟨M,n,ok⟩:=x;simp only at H;have a8:(t.drop i).take n=(t.take (i+n)).drop i:=by rw[List.drop_take];congr 1;omega
  refine go ?_;refine A2 (cs:=[iV M,AL ((t.drop i).take n),iV 0]) rfl rfl EQ (AV rfl) (fun w5 G=>?_);have j:=G.D;have A:Ext z w5:=T.trans G.E;have z5:=A.size;have b1:=T.size;refine go ?_;cases ok with
  |false=>
   rw[if_neg O]at H;refine go ?_;refine Bl rfl ⟨none,0,40,i,[],rfl,f.trans A,k _,.inr ⟨i,?_,by decide,rfl,rfl⟩⟩;rw[l,I,Di d,H]
  |true=>
   rw[if_pos rfl]at H;have F:=nextM_pos (u:=t.drop i) U (by rw[m]);rw[m,a1]at F;simp only at F;have R:((t.drop i).take n).length=n:=by simp;omega
   refine go ?_;by_cases E:ts.length=2000
   ·have e:C8 t i ts M (i+n)=.error (2,i):=by unfold C8;rw[if_pos E]
    rw[e]at H;refine go ?_;refine Bl rfl ⟨none,0,2,i,[],rfl,f.trans A,k _,.inr ⟨i,?_,by decide,rfl,rfl⟩⟩;rw[l,I,Di d,H]
   ·have e:C8 t i ts M (i+n)=.ok (i+n,ts++[⟨M,(t.take (i+n)).drop i,i⟩]):=by unfold C8;rw[if_neg E]
    rw[e,<-a8]at H;generalize hT:(t.drop i).take n=y at H j R;refine go ?_;refine AU rfl rfl rfl j O (fun X C=>?_);have b6:Blk X w4.heap.size 170 [iV M,AL y,iV (i:Int)]:=C.D;have k6:Ext z X:=A.E C.E ES;have z6:=C.size;refine go ?_;refine AP (out:=tokC ⟨M,y,i⟩) rfl U (by rw[madeTok];rfl) (fun w7 Q=>?_);have o7:=Q.own (n:=1) (size:=3) rfl EW (Nat.le_refl _);have z7:=Q.size;have L:Ext z w7:=k6.trans Q.E;have S:=b6.E Q.E O;have P:∀x∈(Value.slice r ts.length h).ownBlock.toList,w.heap.size<=x/\x<z.heap.size:=fun x V=>An o (Option.mem_toList.1 V);refine Ax (ok:=Af) (v:=.slice r ts.length h) rfl rfl (As o L) (Aa o7 fun _ _=>trivial) U rfl rfl (AV rfl) U U U (fun v8 Z s=>?_);have o8:=s.own;have z8:=s.E.size;have b8:=S.E s.E (fun V=>by have:=P _ V;omega);have k8:Ext w Z:=(f.trans L).E s.E (fun x V=>(P x V).1);refine AO (Cq ?_);repeat refine nx rfl ?_
    (refine AJ (AS rfl (AB rfl (AH rfl (Blk.cell ER EQ) ?_)))<;>refine Cz rfl (W_add rfl rfl Ea ?_)<;>refine AO (AS rfl ?_))
    repeat refine nx rfl ?_
    have a3:(i:Int)+(y.length:Int)=((i+n:Nat):Int):=by rw[R];omega
    rw[a3];refine AJ (AS rfl (BC rfl (AS rfl (W_sslice_l rfl rfl U ?_))));refine AF (gap_ok (t.drop (i+n)) Z EP) rfl ?_;rintro v w9⟨rfl,rfl⟩;have a2:=gapW_drop t (a:=i+n) U;have N:=gapW_ge t _ (i+n) (Nat.le_refl _) U;have a6:=scan_gap t (ts++[⟨M,y,i⟩]) _ (i+n) (Nat.le_refl _) U;refine go ?_;refine⟨(gapW t (i+n),v8,ts++[⟨M,y,i⟩]),⟨rfl,⟨rfl,rfl,?_,trivial⟩,⟨N.2.1,N.2.2,by simp;omega,k8,by omega,?_,?_⟩⟩,by simp only;omega⟩
    ·show iV (((i+n:Nat):Int)+(gapW (t.drop (i+n)) 0:Int))=_;rw[a2];rw[<-Int.natCast_add]
    ·have b:Dk (ts++[⟨M,y,i⟩])=Dk ts++tokC ⟨M,y,i⟩:=by simp[Dk]
     rw[b,List.length_append];exact o8
    ·rw[I,Di d,H];exact a6
 ·obtain rfl:i=t.length:=by omega
  refine go ?_;refine Bl rfl ⟨r,h,0, -1,ts,rfl,f,Aa (ok:=Af) o (fun _ _=>trivial),.inl ⟨?_,rfl,rfl⟩⟩;rw[l,I,scanW_end]
mutual
def oF:Nat->Fml->Nat
 |n,.mk op nm v b args=>(if(Br op).level<n then 1 else 0)+oA (Br op).first (Br op).next args
def oA:Nat->Nat->LF->Nat
 |_,_,[]=>0
 |first,next,a::l=>oF first a+oR next l
def oR:Nat->LF->Nat
 |_,[]=>0
 |next,a::l=>oF next a+oR next l
end
def cnt(l:List Tok):Nat:=l.countP fun x=>decide (x.text=[40])
end
def rqmK(r:Rqm):List BT:=(1,if r.kind=1 then[97,115,115,117,109,101]else[103,117,97,114,97,110,116,101,101])::(1,r.name)::(3,[58])::tkF 0 r.formula
def sgnK(x:Sgn):List BT:=(1,if x.input then[105,110,112,117,116]else[111,117,116,112,117,116])::(1,x.name)::((if x.size=2 then[]else[(3,[58]),(2,Ci x.size)])++[(3,[59])])
def itG{α:Type}(o:LU->List α)(m:Rqm->List α)(c:List α)(l:List Rqm)(i:Nat):List α:=match l[i]? with
 |none=>[]
 |some r=>(if i=0\/(l[i-1]?).map (·.part)≠some r.part then o r.part else[])++(m r++(if i+1=l.length\/(l[i+1]?).map (·.part)≠some r.part then c else[]))
def itR{α:Type}(o:LU->List α)(m:Rqm->List α)(c:List α)(k:Option (LU)):List Rqm->List α
 | []=>[]
 |r::l=>(if k≠some r.part then o r.part else[])++(m r++((if l.head?.map (·.part)≠some r.part then c else[])++itR o m c (some r.part) l))
theorem itG_itR{α:Type}(o:LU->List α)(m:Rqm->List α)(c:List α):∀(K l1:List Rqm),(List.range' l1.length K.length).flatMap (itG o m c (l1++K))=itR o m c (l1.getLast?.map (·.part)) K
 | [],l1=>by simp[itR]
 |r::K,l1=>by
  have x:=itG_itR o m c K (l1++[r]);rw[List.append_assoc,List.singleton_append]at x;simp only[List.length_append,List.length_singleton,List.getLast?_append,List.getLast?_singleton,Option.some_or,Option.map_some]at x;rw[List.length_cons,List.range'_succ,List.flatMap_cons,x];have G:(l1++r::K)[l1.length]?=some r:=by simp
  have Z:(l1.length=0\/((l1++r::K)[l1.length-1]?).map (·.part)≠some r.part)↔l1.getLast?.map (·.part)≠some r.part:=by
   cases l1 with
   |nil=>simp
   |cons a k=>
    have:((a::k)++r::K)[(a::k).length-1]?=(a::k).getLast?:=by
     rw[List.getElem?_append_left O,List.getLast?_eq_getElem?]
    rw[this];simp
  have W:(l1.length+1=(l1++r::K).length\/((l1++r::K)[l1.length+1]?).map (·.part)≠some r.part)↔K.head?.map (·.part)≠some r.part:=by
   rw[List.getElem?_append_right U,show l1.length+1-l1.length=0+1 by omega,List.getElem?_cons_succ];cases K with
   |nil=>simp
   |cons b k=>simp
  have e:itG o m c (l1++r::K) l1.length=(if l1.getLast?.map (·.part)≠some r.part then o r.part else[])++(m r++(if K.head?.map (·.part)≠some r.part then c else[])):=by
   unfold itG;rw[G];simp only[Z,W]
  rw[e];simp[itR]
theorem itG_all{α:Type}(o:LU->List α)(m:Rqm->List α)(c:List α)(l:List Rqm):(List.range l.length).flatMap (itG o m c l)=itR o m c none l:=by
 have:=itG_itR o m c l [];rw[List.range_eq_range'];simpa using this
theorem itR_grp{α:Type}(o:LU->List α)(m:Rqm->List α)(c:List α)(p:LU):∀(l:List Rqm)(r:Rqm),r.part=p->
  itR o m c (some p) (r::l)=((r::l).takeWhile fun x=>decide (x.part=p)).flatMap m++(c++itR o m c none ((r::l).dropWhile fun x=>decide (x.part=p)))
 | [],r,hr=>by simp[itR,hr]
 |x::l,r,hr=>by
  have b:(r::x::l).takeWhile (fun y=>decide (y.part=p))=r::(x::l).takeWhile (fun y=>decide (y.part=p)):=by rw[List.takeWhile_cons];simp[hr]
  have a:(r::x::l).dropWhile (fun y=>decide (y.part=p))=(x::l).dropWhile (fun y=>decide (y.part=p)):=by rw[List.dropWhile_cons];simp[hr]
  rw[b,a,List.flatMap_cons];rw[itR,hr,if_neg O];by_cases V:x.part=p
  ·rw[if_neg (by simp[V]),List.nil_append,List.nil_append,itR_grp o m c p l x V];simp
  ·have I:(x::l).takeWhile (fun y=>decide (y.part=p))=[]:=by rw[List.takeWhile_cons];simp[V]
   have g:(x::l).dropWhile (fun y=>decide (y.part=p))=x::l:=by rw[List.dropWhile_cons];simp[V]
   have Z:some p≠some x.part:=fun h=>V (Option.some.inj h).symm;have W:((x::l).head?.map (·.part))≠some p:=fun h=>V (Option.some.inj h)
   have C:itR o m c (some p) (x::l)=itR o m c none (x::l):=by
    simp only[itR];rw[if_pos Z,if_pos (show(none:Option (LU))≠some x.part from nofun)]
   rw[I,g,if_pos W,C];simp
def oT(p:LU):LU:=[112,97,114,116,32]++(p++[32,123,10])
def mT(r:Rqm):LU:=[32,32]++(reqT r++[59,10])
def oK(p:LU):List BT:=[(1,[112,97,114,116]),(1,p),(3,[123])]
def mK(r:Rqm):List BT:=rqmK r++[(3,[59])]
def cK:List BT:=[(3,[125])]
theorem rqsT_eq(l:List Rqm):rqsT l=itR oT mT [125,10] none l:=by
 rw[<-itG_all];unfold rqsT
 congr 1
 funext i
 unfold rqI itG;cases l[i]? with
 |none=>rfl
 |some r=>simp[oT,mT]
def spcK(s:Spc):List BT:=s.sigs.flatMap sgnK++itR oK mK cK none s.reqs
def edtK(e:Edt):List BT:=if e.kind=2 then[(1,[100,114,111,112]),(1,e.req.name)]else(1,if e.kind=1 then[97,100,100]else[114,101,112,108,97,99,101])::(1,e.req.part)::rqmK e.req
theorem ReadL.word{y s:LU}{f:List BT}(Z:1<=y.length)(W:y.length<=12)(R:A5 (y.getD 0 0)=true)(B:y.all BD=true)(G:ReadL s f)(F:folB s.head?=true):ReadL (y++s) ((1,y)::f):=.tok Z (word_step Z W R B F) G
theorem ReadL.nl{s:LU}{f:List BT}(h:ReadL s f):ReadL (59::10::s) ((3,[59])::f):=ReadL.one O (ReadL.gap (.inr rfl) h)
theorem req_reads{r:Rqm}(p:okR r=true){s:LU}{f:List BT}(G:ReadL s f)(F:Fol s):ReadL (reqT r++s) (rqmK r++f):=by
 simp only[okR,Bool.and_eq_true]at p;have P:=(readsF _ r.formula (Nat.le_refl _) p.2 0 s f G F).1;have Z:ReadL (r.name++([58,32]++(prF 0 r.formula++s))) ((1,r.name)::(3,[58])::(tkF 0 r.formula++f)):=ReadL.name p.1.2 (ReadL.one O (ReadL.gap (.inl rfl) P)) rfl;by_cases L:r.kind=1
 ·have W:=ReadL.word (y:=[97,115,115,117,109,101]) O O rfl rfl (ReadL.gap (c:=32) (.inl rfl) Z) rfl;simpa[reqT,rqmK,L]using W
 ·have W:=ReadL.word (y:=[103,117,97,114,97,110,116,101,101]) O O rfl rfl (ReadL.gap (c:=32) (.inl rfl) Z) rfl;simpa[reqT,rqmK,L]using W
theorem sgn_reads{x:Sgn}(p:okS x=true){s:LU}{f:List BT}(G:ReadL s f):ReadL (sgnT x++s) (sgnK x++f):=by
 simp only[okS,numB,Bool.and_eq_true,decide_eq_true_eq]at p
 have Z:ReadL (x.name++((if x.size=2 then[]else[58,32]++Ci x.size)++59::10::s)) ((1,x.name)::((if x.size=2 then[]else[(3,[58]),(2,Ci x.size)])++(3,[59])::f)):=by
  by_cases W:x.size=2
  ·rw[if_pos W,if_pos W];exact ReadL.name p.1 G.nl rfl
  ·rw[if_neg W,if_neg W];have:=ReadL.num p.2.2 G.nl rfl;have R:ReadL (58::32::(Ci x.size++59::10::s)) ((3,[58])::(2,Ci x.size)::(3,[59])::f):=ReadL.one O (ReadL.gap (.inl rfl) this);exact ReadL.name p.1 R rfl
 cases hi:x.input with
 |true=>
  have W:=ReadL.word (y:=[105,110,112,117,116]) O O rfl rfl (ReadL.gap (c:=32) (.inl rfl) Z) rfl;simpa[sgnT,sgnK,hi]using W
 |false=>
  have W:=ReadL.word (y:=[111,117,116,112,117,116]) O O rfl rfl (ReadL.gap (c:=32) (.inl rfl) Z) rfl;simpa[sgnT,sgnK,hi]using W
theorem sigs_read:∀{l:List Sgn}(_:l.all okS=true){s:LU}{f:List BT}(_:ReadL s f),ReadL (l.flatMap sgnT++s) (l.flatMap sgnK++f)
 | [],_,s,f,hr=>hr
 |x::l,h,s,f,hr=>by
  rw[List.all_cons,Bool.and_eq_true]at h;rw[List.flatMap_cons,List.flatMap_cons,List.append_assoc,List.append_assoc];exact sgn_reads h.1 (sigs_read h.2 hr)
theorem itR_read:∀(l:List Rqm)(k:Option (LU))(_:l.all okRq=true){s:LU}{f:List BT}(_:ReadL s f),ReadL (itR oT mT [125,10] k l++s) (itR oK mK cK k l++f)
 | [],_,_,s,f,hr=>hr
 |r::l,k,h,s,f,hr=>by
  rw[List.all_cons,Bool.and_eq_true]at h;have L:=h.1;simp only[okRq,Bool.and_eq_true]at L;have x:=itR_read l (some r.part) h.2 hr
  have Z:ReadL ((if l.head?.map (·.part)≠some r.part then[125,10]else[])++(itR oT mT [125,10] (some r.part) l++s)) ((if l.head?.map (·.part)≠some r.part then cK else[])++(itR oK mK cK (some r.part) l++f)):=by
   split
   ·exact ReadL.one O (ReadL.gap (.inr rfl) x)
   ·exact x
  have W:=req_reads L.2 Z.nl ⟨rfl,by simp⟩;have R:ReadL ([32,32]++(reqT r++59::10::_)) _:=ReadL.gap (.inl rfl) (ReadL.gap (.inl rfl) W);by_cases a:k≠some r.part
  ·have B:=ReadL.word (y:=[112,97,114,116]) O O rfl rfl (ReadL.gap (c:=32) (.inl rfl) (ReadL.name L.1 (ReadL.gap (c:=32) (.inl rfl) (ReadL.one (c:=123) O (ReadL.gap (c:=10) (.inr rfl) R))) rfl)) rfl;simpa[itR,a,oT,mT,oK,mK]using B
  ·simp only[ne_eq,Decidable.not_not]at a;simpa[itR,a,mT,mK]using R
theorem spc_reads{x:Spc}(p:DB x=true){s:LU}{f:List BT}(G:ReadL s f):ReadL (spcT x++s) (spcK x++f):=by
 simp only[DB,Bool.and_eq_true]at p;have Z:=itR_read x.reqs none p.2 G;have:=sigs_read p.1 Z;rw[<-rqsT_eq]at this;simpa[spcT,spcK]using this
def unp0(r:Rqm):Rqm:=⟨[],r.name,r.kind,r.formula⟩
theorem req_run{r:Rqm}(p:okR r=true){rest:List Tok}(G:StopL 0 rest):RunN .req (BG (rqmK r)++rest) (.ok (unp0 r,rest)):=by
 simp only[okR,Bool.and_eq_true,Bool.or_eq_true,decide_eq_true_eq]at p;have P:RunN .formula (BG (tkF 0 r.formula)++rest) (.ok (r.formula,rest)):=runsF _ r.formula (Nat.le_refl _) p.2 0 rest U G
 have w:∀k:Int,Run (nameG.bind fun s=>(CZ [58]).bind fun _=>.call .formula fun f=>.ret (⟨[],s,k,f⟩:Rqm)) (tkn (1,r.name)::tkn (3,[58])::(BG (tkF 0 r.formula)++rest)) (.ok (⟨[],r.name,k,r.formula⟩,rest)):=fun k=>by
  refine run_name (x:=tkn (1,r.name)) rfl p.1.2 ?_;refine Cy (x:=tkn (3,[58])) rfl ?_;exact Run.call P (Run.ret _ _)
 by_cases L:r.kind=1
 ·have e:BG (rqmK r)++rest=tkn (1,[97,115,115,117,109,101])::tkn (1,r.name)::tkn (3,[58])::(BG (tkF 0 r.formula)++rest):=by simp[rqmK,BG,L]
  rw[e];have a:unp0 r=⟨[],r.name,1,r.formula⟩:=by simp[unp0,L]
  rw[a];exact run_yes (x:=tkn (1,[97,115,115,117,109,101])) rfl (Run.bind (Run.ret _ _) (w 1))
 ·have V:r.kind=2:=by rcases p.1.1 with h|h;exact absurd h L;exact h
  have e:BG (rqmK r)++rest=tkn (1,[103,117,97,114,97,110,116,101,101])::tkn (1,r.name)::tkn (3,[58])::(BG (tkF 0 r.formula)++rest):=by simp[rqmK,BG,L]
  rw[e];have a:unp0 r=⟨[],r.name,2,r.formula⟩:=by simp[unp0,V]
  rw[a];refine Dg (l:=tkn (1,[103,117,97,114,97,110,116,101,101])::_) rfl (Run.bind (Cy (x:=tkn (1,[103,117,97,114,97,110,116,101,101])) rfl (Run.ret _ _)) (w 2))
theorem line_run{r:Rqm}(p:okR r=true)(rest:List Tok):RunN .line (BG (mK r)++rest) (.ok (unp0 r,rest)):=by
 have e:BG (mK r)++rest=BG (rqmK r)++(tkn (3,[59])::rest):=by simp[mK,BG]
 rw[e];exact Run.call (req_run p (StopL.cons rfl)) (Cy (x:=tkn (3,[59])) rfl (Run.ret _ _))
theorem rqm_head(r:Rqm)(rest:List Tok):(A4 [97,115,115,117,109,101] ((BG (mK r)++rest).head?.map bare)||A4 [103,117,97,114,97,110,116,101,101] ((BG (mK r)++rest).head?.map bare))=true:=by
 by_cases L:r.kind=1
 ·simp[mK,rqmK,BG,L,tkn,bare,A4]
 ·simp[mK,rqmK,BG,L,tkn,bare,A4]
theorem lines_run:∀{g:List Rqm}(_:∀r∈g,okR r=true)(rest:List Tok),RunN .lines (BG (g.flatMap mK)++(tkn (3,[125])::rest)) (.ok (g.map unp0,tkn (3,[125])::rest))
 | [],_,rest=>Run.bind (DV _ _ _) (Run.ret _ _)
 |r::g,h,rest=>by
  have e:BG ((r::g).flatMap mK)++(tkn (3,[125])::rest)=BG (mK r)++(BG (g.flatMap mK)++(tkn (3,[125])::rest)):=by simp[BG]
  rw[e];have Z:=DV [97,115,115,117,109,101] [103,117,97,114,97,110,116,101,101] (BG (mK r)++(BG (g.flatMap mK)++(tkn (3,[125])::rest)));rw[rqm_head]at Z;refine Run.bind Z ?_;exact Run.call (line_run (h r O) _) (Run.call (lines_run (fun x V=>h x (by simp[V])) rest) (Run.ret _ _))
theorem part_run{g:List Rqm}{p:LU}(y:BH p=true)(h:∀r∈g,okR r=true/\r.part=p)(rest:List Tok):RunN .part (BG (oK p++(g.flatMap mK++cK))++rest) (.ok (g,rest)):=by
 have e:BG (oK p++(g.flatMap mK++cK))++rest=tkn (1,[112,97,114,116])::tkn (1,p)::tkn (3,[123])::(BG (g.flatMap mK)++(tkn (3,[125])::rest)):=by simp[oK,cK,BG]
 rw[e];refine Cy (x:=tkn (1,[112,97,114,116])) rfl (run_name (x:=tkn (1,p)) rfl y (Cy (x:=tkn (3,[123])) rfl (Run.call (lines_run (fun r G=>(h r G).1) rest) (Cy (x:=tkn (3,[125])) rfl ?_))))
 have a:(g.map unp0).map (fun r=>(⟨p,r.name,r.kind,r.formula⟩:Rqm))=g:=by
  rw[List.map_map];refine(List.map_congr_left fun r G=>?_).trans (List.map_id _);have:=(h r G).2;cases r;simp at this;simp[unp0,this]
 show Run (.ret ((g.map unp0).map (fun r=>(⟨p,r.name,r.kind,r.formula⟩:Rqm)))) rest _;rw[a];exact Run.ret _ _
theorem parts_run:∀(n:Nat)(l:List Rqm)(_:l.length<=n)(_:l.all okRq=true){rest s:List Tok}{c:List (List Rqm)}(_:RunN .parts rest (.ok (c,s))),∃qs,RunN .parts (BG (itR oK mK cK none l)++rest) (.ok (qs,s))/\qs.flatten=l++c.flatten
 |n,[],_,_,rest,s,c,hr=>⟨c,hr,rfl⟩
 |0,r::l,hn,_,_,_,_,_=>by simp at hn
 |n+1,r::l,hn,hok,rest,s,c,hr=>by
  have w:∀x∈(r::l).takeWhile (fun x=>decide (x.part=r.part)),okR x=true/\x.part=r.part:=fun x V=>by
   have Z:=List.all_eq_true.1 hok x ((List.takeWhile_sublist _).subset V);simp only[okRq,Bool.and_eq_true]at Z;have W:=List.all_eq_true.1 (List.all_takeWhile (p:=fun x:Rqm=>decide (x.part=r.part)) (l:=r::l)) x V;exact⟨Z.2,by simpa using W⟩
  have o:BH r.part=true:=by
   have Z:=List.all_eq_true.1 hok r O;simp only[okRq,Bool.and_eq_true]at Z;exact Z.1
  have b:itR oK mK cK none (r::l)=oK r.part++itR oK mK cK (some r.part) (r::l):=by
   simp only[itR];rw[if_pos (show(none:Option (LU))≠some r.part from nofun),if_neg (show¬(some r.part≠some r.part)from fun h=>h rfl)];rfl
  have X:((r::l).dropWhile (fun x=>decide (x.part=r.part))).length<=n:=by
   rw[List.dropWhile_cons,if_pos O];have:=(List.dropWhile_sublist (fun x:Rqm=>decide (x.part=r.part)) (l:=l)).length_le;simp at hn;omega
  have B:((r::l).dropWhile (fun x=>decide (x.part=r.part))).all okRq=true:=by
   rw[List.all_eq_true]at hok⊢;exact fun x V=>hok x ((List.dropWhile_sublist _).subset V)
  obtain⟨qs,Z,W⟩:=parts_run n _ X B hr;refine⟨(r::l).takeWhile (fun x=>decide (x.part=r.part))::qs,?_,?_⟩
  ·rw[b,itR_grp _ _ _ r.part l r rfl]
   have I:BG (oK r.part++(((r::l).takeWhile fun x=>decide (x.part=r.part)).flatMap mK++(cK++itR oK mK cK none ((r::l).dropWhile fun x=>decide (x.part=r.part)))))++rest=
     BG (oK r.part++(((r::l).takeWhile fun x=>decide (x.part=r.part)).flatMap mK++cK))++(BG (itR oK mK cK none ((r::l).dropWhile fun x=>decide (x.part=r.part)))++rest):=by simp[BG]
   rw[I];refine Run.bind (a:=true) (l':=BG (oK r.part++(((r::l).takeWhile fun x=>decide (x.part=r.part)).flatMap mK++cK))++(BG (itR oK mK cK none ((r::l).dropWhile fun x=>decide (x.part=r.part)))++rest)) (DV _ _ _) ?_;exact Run.call (part_run o w _) (Run.call Z (Run.ret _ _))
  ·rw[List.flatten_cons,W,<-List.append_assoc,List.takeWhile_append_dropWhile]
theorem parts_end:RunN .parts [] (.ok ([],[])):=Run.bind (DV _ _ _) (Run.ret _ _)
theorem signal_run{x:Sgn}(p:okS x=true)(rest:List Tok):RunN .signal (BG (sgnK x)++rest) (.ok (x,rest)):=by
 simp only[okS,numB,Bool.and_eq_true,decide_eq_true_eq]at p
 have w:∀i:Bool,i=x.input->Run (nameG.bind fun s=>((Ba [58]).bind fun b=>if b then numberG else .ret 2).bind fun n=>(CZ [59]).bind fun _=>.ret (⟨s,i,n⟩:Sgn))
   (tkn (1,x.name)::(BG (if x.size=2 then[]else[(3,[58]),(2,Ci x.size)])++(tkn (3,[59])::rest))) (.ok (x,rest)):=fun i H=>by
  subst H;refine run_name (x:=tkn (1,x.name)) rfl p.1 ?_;by_cases W:x.size=2
  ·rw[if_pos W];refine Run.bind (a:=2) (l':=tkn (3,[59])::rest) (Dg (l:=tkn (3,[59])::rest) rfl (Run.ret _ _)) (Cy (x:=tkn (3,[59])) rfl ?_);have e:(⟨x.name,x.input,2⟩:Sgn)=x:=by cases x;simp at W;simp[W]
   show Run (.ret (⟨x.name,x.input,2⟩:Sgn)) rest _;rw[e];exact Run.ret _ _
  ·rw[if_neg W];have e:EL (tkn (2,Ci x.size)).text=x.size:=numOf_numT p.2.1
   have I:Run numberG (tkn (2,Ci x.size)::tkn (3,[59])::rest) (.ok (x.size,tkn (3,[59])::rest)):=by
    have:=run_number (q:=fun n=>.ret n) (x:=tkn (2,Ci x.size)) (l:=tkn (3,[59])::rest) rfl (Run.ret _ _);rw[e]at this
    have R:numberG.bind (fun n=>G.ret n)=numberG:=by
     unfold numberG;simp only[G.bind]
     congr 1
     funext o
     cases o with
     |none=>rfl
     |some y=>simp only;split<;>rfl
    rw[R]at this;exact this
   refine Run.bind (a:=x.size) (l':=tkn (3,[59])::rest) (run_yes (x:=tkn (3,[58])) rfl I) (Cy (x:=tkn (3,[59])) rfl ?_);exact Run.ret _ _
 cases H:x.input with
 |true=>
  have e:BG (sgnK x)++rest=tkn (1,[105,110,112,117,116])::tkn (1,x.name)::(BG (if x.size=2 then[]else[(3,[58]),(2,Ci x.size)])++(tkn (3,[59])::rest)):=by simp[sgnK,BG,H]
  rw[e];exact run_yes (x:=tkn (1,[105,110,112,117,116])) rfl (Run.bind (Run.ret _ _) (w true H.symm))
 |false=>
  have e:BG (sgnK x)++rest=tkn (1,[111,117,116,112,117,116])::tkn (1,x.name)::(BG (if x.size=2 then[]else[(3,[58]),(2,Ci x.size)])++(tkn (3,[59])::rest)):=by simp[sgnK,BG,H]
  rw[e];exact Dg (l:=tkn (1,[111,117,116,112,117,116])::_) rfl (Run.bind (l':=tkn (1,x.name)::_) (run_expect_t (t:=[111,117,116,112,117,116]) (ts:=tkn (1,[111,117,116,112,117,116])::tkn (1,x.name)::_) rfl) (w false H.symm))
theorem sgn_head(x:Sgn)(rest:List Tok):(A4 [105,110,112,117,116] ((BG (sgnK x)++rest).head?.map bare)||A4 [111,117,116,112,117,116] ((BG (sgnK x)++rest).head?.map bare))=true:=by
 cases hi:x.input with
 |true=>simp[sgnK,BG,hi,tkn,bare,A4]
 |false=>simp[sgnK,BG,hi,tkn,bare,A4]
theorem sigs_run:∀{l:List Sgn}(_:l.all okS=true){rest:List Tok}(_:(A4 [105,110,112,117,116] (rest.head?.map bare)||A4 [111,117,116,112,117,116] (rest.head?.map bare))=false),RunN .sigs (BG (l.flatMap sgnK)++rest) (.ok (l,rest))
 | [],_,rest,hr=>by
  have Z:=DV [105,110,112,117,116] [111,117,116,112,117,116] rest;rw[hr]at Z;exact Run.bind Z (Run.ret _ _)
 |x::l,h,rest,hr=>by
  rw[List.all_cons,Bool.and_eq_true]at h;have e:BG ((x::l).flatMap sgnK)++rest=BG (sgnK x)++(BG (l.flatMap sgnK)++rest):=by simp[BG]
  rw[e];have Z:=DV [105,110,112,117,116] [111,117,116,112,117,116] (BG (sgnK x)++(BG (l.flatMap sgnK)++rest));rw[sgn_head]at Z;exact Run.bind Z (Run.call (signal_run h.1 _) (Run.call (sigs_run h.2 hr) (Run.ret _ _)))
theorem itR_head(l:List Rqm)(rest:List Tok)(G:(A4 [105,110,112,117,116] (rest.head?.map bare)||A4 [111,117,116,112,117,116] (rest.head?.map bare))=false):(A4 [105,110,112,117,116] ((BG (itR oK mK cK none l)++rest).head?.map bare)||A4 [111,117,116,112,117,116] ((BG (itR oK mK cK none l)++rest).head?.map bare))=false:=by
 cases l with
 |nil=>exact G
 |cons r l=>
  simp only[itR];rw[if_pos (show(none:Option (LU))≠some r.part from nofun)];simp[oK,BG,tkn,bare,A4]
theorem spc_run2{x:Spc}(V:DB x=true){l:List Rqm}(K:l.all okRq=true):RunN .spec (BG (spcK x)++BG (itR oK mK cK none l)) (.ok (⟨x.sigs,x.reqs++l⟩,[])):=by
 simp only[DB,Bool.and_eq_true]at V;obtain⟨d,Z,b⟩:=parts_run _ l (Nat.le_refl _) K parts_end;rw[List.append_nil]at Z;obtain⟨L,W,r⟩:=parts_run _ x.reqs (Nat.le_refl _) V.2 Z;rw[b,List.flatten_nil,List.append_nil]at r;have e:BG (spcK x)++BG (itR oK mK cK none l)=BG (x.sigs.flatMap sgnK)++(BG (itR oK mK cK none x.reqs)++BG (itR oK mK cK none l)):=by simp[spcK,BG]
 rw[e]
 have M:(A4 [105,110,112,117,116] ((BG (itR oK mK cK none l)).head?.map bare)||A4 [111,117,116,112,117,116] ((BG (itR oK mK cK none l)).head?.map bare))=false:=by
  have:=itR_head l [] rfl
  rwa [List.append_nil]at this
 refine Run.call (sigs_run V.1 (itR_head x.reqs _ M)) (Run.call W ?_);rw[r];exact Run.ret _ _
theorem spc_run{x:Spc}(V:DB x=true):RunN .spec (BG (spcK x)) (.ok (x,[])):=by
 have:=spc_run2 V (l:=[]) rfl;simpa[itR,BG]using this



theorem whole_run{nt:NT}{l:List Tok}{v:nt.T}(h:RunN nt l (.ok (v,[]))):Run (whole nt) l (.ok (v,[])):=Run.call h (Run.look (Run.ret _ _))
theorem bare_run{nt:NT}{A B:List Tok}{v:nt.T}(h:RunN nt A (.ok (v,[])))(S:B.map bare=A.map bare):RunN nt B (.ok (v,[])):=by
 obtain⟨r,Z,W⟩:=Run.bare S.symm h;cases r with
 |error e=>exact W.elim
 |ok z=>
  obtain⟨u,l⟩:=z;obtain⟨b,a⟩:=W;have K:l=[]:=List.map_eq_nil_iff.1 a.symm;have p:v=u:=b;subst K;subst p;exact Z
theorem read_res{nt:NT}{s:LU}{f:List BT}{v:nt.T}(h:ReadL s f)(G:RunN nt (BG f) (.ok (v,[]))):(∃p,EE s=.error (2,p))\/PRes nt s (.ok v):=by
 rcases h.lex with⟨Q,e,Z⟩|Z
 ·refine .inr ?_;unfold PRes;rw[Z];exact⟨.ok (v,[]),whole_run (bare_run G (by rw[e,toks_bare])),rfl⟩
 ·exact .inl Z
theorem fml_read{f:Fml}(p:okF f=true):ReadL (prF 0 f) (tkF 0 f):=by
 have:=(readsF _ f (Nat.le_refl _) p 0 [] [] .nil ⟨rfl,by simp⟩).1
 rwa [List.append_nil,List.append_nil]at this
theorem fml_back{f:Fml}(a:okF f=true):(∃p,EE (prF 0 f)=.error (2,p))\/PRes .formula (prF 0 f) (.ok f):=read_res (nt:=.formula) (fml_read a) (tk_run a)
theorem fml_ne{f:Fml}(p:okF f=true):prF 0 f≠[]:=by
 intro e;have h:=fml_read p;rw[e]at h;obtain⟨x,t,w,_⟩:=tk_head _ f 0 (Nat.le_refl _) p;rw[w]at h;have:=h.det ReadL.nil rfl;cases this
theorem spc_read{s:Spc}(p:DB s=true):ReadL (spcT s) (spcK s):=by
 have:=spc_reads p .nil
 rwa [List.append_nil,List.append_nil]at this
theorem spc_back{s:Spc}(a:DB s=true):(∃p,EE (spcT s)=.error (2,p))\/PRes .spec (spcT s) (.ok s):=read_res (nt:=.spec) (spc_read a) (spc_run a)





theorem few_ok(w:World)(X:Option Addr)(n:Nat)(T:Option Addr)(S:Nat)(s:Spc)(l:SlAt sgnR Af w (.slice X s.sigs.length n) s.sigs)(G:SlAt reqR Af w (.slice T s.reqs.length S) s.reqs):
  Fn Zp 26 [.agg #[.slice X s.sigs.length n,.slice T s.reqs.length S]] w fun u w'=>∃b:Bool,u=.bool b/\Ext w w'/\(b=true->s.reqs.length<=20/\∀r∈s.reqs,szF r.formula<=120):=by
 refine AN Tryz.func26 rfl Tryz.ntmps26 (go ?_);refine A3 (L:=[.slice X s.sigs.length n,.slice T s.reqs.length S]) rfl (fun Q A=>?_);have F:=A.D;refine go ?_;refine AF (rssmall_ok Q _ s.sigs (l.ext A.E)) rfl ?_;rintro _ N⟨b,rfl,e⟩;have a:=A.E.trans e;have E:=F.E e O;cases b with
 |false=>
  refine go ?_;exact AC rfl ⟨false,rfl,a,fun h=>by cases h⟩
 |true=>
  by_cases a0:20<s.reqs.length
  ·refine go ?_;exact AC rfl ⟨false,rfl,a,fun h=>by cases h⟩
  refine go ?_;refine Ar (α:=Nat) (fun k=>[(1,pt w.heap.size),(3,iV (k:Int))]) (fun k W=>k<=s.reqs.length/\Ext N W/\∀(i:Nat)(r:Rqm),i<k->s.reqs[i]?=some r->szF r.formula<=120) (fun k=>s.reqs.length-k) 0 ag ⟨by omega,Ext.refl _,fun i x h=>by omega⟩ ?_;rintro k W fr⟨hk,q,o⟩;have BW:=E.E q O;refine go ?_;by_cases K:k<s.reqs.length
  ·obtain⟨x,V⟩:=gl K;obtain⟨M,Z,d,rfl, -,C,m,P⟩:=G.req V;obtain⟨f,c,t,v,y,rfl⟩:=Ak C;have D:=a.trans q;have c0:=(m.E D O) 0 _ rfl;have c1:=(m.E D O) 1 _ rfl
   have z:Cells W M (Z+k*8+3) [f,c,t,v,y]:=fun j u g=>by
    have:=(m.E D O) (3+j) u (by rw[List.getElem?_append_right O];simpa using g)
    rwa [<-Nat.add_assoc]at this
   by_cases h1:40<x.name.length
   ·refine go ?_;exact AC rfl ⟨false,rfl,D,fun h=>by cases h⟩
   by_cases h2:40<x.part.length
   ·refine go ?_;exact AC rfl ⟨false,rfl,D,fun h=>by cases h⟩
   refine go ?_;refine AQ (L:=[f,c,t,v,y]) rfl rfl z (go ?_);refine AF (rsmall_ok W _ x.formula 120 U (P.ext D)) rfl ?_;rintro _ w3⟨rfl,p⟩;by_cases R:szF x.formula<=120
   ·rw[decide_eq_true R];refine go ?_;refine⟨k+1,⟨rfl,ag,⟨by omega,q.trans p,fun i r H I=>?_⟩⟩,by omega⟩;by_cases B:i=k
    ·subst B;rw[V]at I;cases I;exact R
    ·exact o i r U I
   ·rw[decide_eq_false R];refine go ?_;exact AC rfl ⟨false,rfl,D.trans p,fun h=>by cases h⟩
  ·obtain rfl:k=s.reqs.length:=by omega
   refine go ?_
   exact AC rfl ⟨true,rfl,a.trans q,fun _=>⟨by omega,fun r G=>by
    obtain⟨i,H⟩:=List.getElem?_of_mem G;exact o i r (List.getElem?_eq_some_iff.1 H).1 H⟩⟩
theorem parseF_is(w:World)(t:LU)(a:Fml)(X:GK w)(h:PRes .formula t (.ok a)):Fn Zp 15 [AL t] w (fun v w'=>∃c,v=.tuple #[.agg c.toArray,iV 0,iV (-1)]/\Ext w w'/\fmlR.fits Af w' c a):=by
 refine(parse_F w t X).mono ?_;rintro v w'⟨c,e,q,rfl,k,M|M⟩
 ·obtain⟨b,Z,rfl,rfl,f⟩:=M;obtain rfl:b=a:=by have:=Z.det h;cases this;rfl
  exact⟨c,rfl,k,Rp.mono fmlR f fun _ _=>trivial⟩
 ·obtain⟨p,Z,_⟩:=M;have:=Z.det h;cases this
theorem lexed_ok(w:World)(t:LU):Fn Zp 14 [AL t] w fun u w'=>∃b:Bool,u=.bool b/\Ext w w'/\(b=true->∃ts,EE t=.ok ts):=by
 refine AN Tryz.func14 rfl Tryz.ntmps14 (go ?_);refine AF (reflex_ok w t) rfl ?_;rintro _ Q⟨a,c,e,q,ts,rfl,Z, -,K⟩;by_cases P:e=0
 ·refine go ?_;refine AC rfl ⟨true,rfl,Z,fun _=>?_⟩;rcases K with⟨h,_⟩|⟨p,_,h,_⟩
  ·exact⟨ts,h⟩
  ·exact absurd P h
 ·refine go ?_;exact FG
theorem szR_bd{B:Nat}:∀{l:List Rqm},(∀r∈l,szF r.formula<=B)->szR l<=(B+4)*l.length
 | [],_=>by simp[szR]
 |r::l,h=>by
  have Z:=h r O;have W:=szR_bd (l:=l) fun x V=>h x (by simp[V]);simp only[szR,List.map_cons,List.sum_cons,List.length_cons]at W⊢;rw[Nat.mul_add,Nat.mul_one];omega
def rtW(s:Spc):Prop:=chkB s=true/\(∀r∈s.reqs,szF r.formula<=120)/\∃u,EE (spcT s)=.ok u
theorem rtW_sz{s:Spc}(Z:chkB s=true)(W:∀r∈s.reqs,szF r.formula<=120):szS s<=10000:=by
 obtain⟨p,K,_⟩:=chk_parts Z;have R:=szR_bd W;have B:=(EJ p).2.1;unfold szS;omega
theorem sT_chk{s:Spc}(h:chkB s=true):sT s=spcT s:=by unfold sT;rw[if_pos (chk_spc h)]
set_option maxHeartbeats 1000000 in
theorem w11Right_ok(w:World)(X:Option Addr)(W:Nat)(T:Option Addr)(S:Nat)(s:Spc)(l:SlAt sgnR Af w (.slice X s.sigs.length W) s.sigs)(G:SlAt reqR Af w (.slice T s.reqs.length S) s.reqs)(v:GP w):
  Fn Zp 6 [.agg #[.slice X s.sigs.length W,.slice T s.reqs.length S]] w fun u w'=>∃b:Bool,u=.bool b/\Ext w w'/\(b=true->rtW s):=by
 refine AN Tryz.func6 rfl Tryz.ntmps6 (go ?_);refine A3 (L:=[.slice X s.sigs.length W,.slice T s.reqs.length S]) rfl (fun Q A=>?_);have d:=A.D;refine go ?_;refine AF (few_ok Q X W T S s (l.ext A.E) (G.ext A.E)) rfl ?_;rintro _ N⟨b,rfl,e,P⟩;have r:=A.E.trans e;have g:=d.E e O;cases b with
 |false=>
  refine go ?_;exact Fq
 |true=>
 obtain⟨_,a⟩:=P rfl;refine go ?_;refine AF (check7_ok N X W T S s (l.ext r) (G.ext r)) rfl ?_;rintro _ z⟨n,M,k,rfl,x,i,m⟩;have I:=r.trans i;have q:=g.E i O;by_cases t:n=0;rotate_left
 ·refine go ?_;exact AC rfl ⟨false,rfl,I,fun h=>by cases h⟩
 have j:=m t;subst t;refine go ?_;refine AF (prtS_ok z [.slice X s.sigs.length W,.slice T s.reqs.length S] s ⟨_,_,rfl,l.ext I,G.ext I⟩ (v.ext I) (by have:=rtW_sz j a;omega)) rfl ?_;rintro _ p⟨rfl,c⟩;rw[sT_chk j];refine go ?_;refine AF (lexed_ok p _) rfl ?_;rintro _ f⟨b,rfl,o,K⟩;refine go ?_;exact AC rfl ⟨b,rfl,(I.trans c).trans o,fun h=>⟨j,a,K h⟩⟩
set_option maxHeartbeats 2000000 in
theorem w11Texts_ok(w:World)(k:GP w)(P:GF w)(R:KY w)(V:10<=w.heap.size):Fn Zp 5 [] w fun u w'=>u=.bool true/\Ext w w':=by
 have m:∀W,Fn Zp 25 [] W fun u W'=>u=AL txtX/\W'=W:=fun W=>by
  refine AN Tryz.func25 rfl Tryz.ntmps25 (go ?_);exact AC rfl ⟨rfl,rfl⟩
 refine AN Tryz.func5 rfl Tryz.ntmps5 (go ?_);refine AF (m w) rfl ?_;rintro _ w0⟨rfl,C⟩;rw[C];refine go ?_;refine AF (parseS_is w _ spcX k.gk parse_X) rfl ?_;rintro _ w1⟨c,rfl,k1,sv,rv,rfl,l,x⟩;obtain⟨X,q,rfl,_⟩:=l.len;obtain⟨T,S,rfl,_⟩:=x.len;refine go ?_;refine A2 (cs:=[.slice X spcX.sigs.length q,.slice T spcX.reqs.length S]) rfl rfl EQ (AV rfl) (fun w2 a=>?_);have d:=k1.trans a.E;have B2:=a.D;have b2:∀r∈spcX.reqs,szF r.formula<=1000:=fun r G=>of_decide_eq_true (List.all_eq_true.1 X_reqs r G);refine go ?_;refine AF (mstart_ok w2 X q T S spcX 0 U (l.ext a.E) (x.ext a.E) (fun r G=>by have:=b2 r G;omega) (P.ext d) (R.E d O) (Nat.le_trans V d.size)) rfl ?_;rintro _ w3⟨v3,e3,rfl,i,a5,hd3⟩;obtain rfl:=a5.2 X_chk;have A:=hd3 X_chk;have z:=d.trans i;have B3:=B2.E i O;have Z:=(l.ext a.E).ext i;have hR3:=(x.ext a.E).ext i;obtain⟨da,dc,e,_⟩:=A.len;subst e;refine go ?_
 refine AF (mtick_ok w3 X q spcX.sigs da dc (startF spcX 0) 1 Z A (by simp[startF,spcX]) (fun y hy=>by
  have:=List.all_eq_true.1 X_firsts y hy;simp only[Bool.and_eq_true,decide_eq_true_eq]at this;omega) (P.ext z) (R.E z O) (Nat.le_trans V z.size)) rfl ?_
 rintro v4 w4⟨p,v⟩;replace v:SlAt dtyR Af w4 v4 dusX:=v;have y4:=z.trans p;have B4:=B3.E p O;have hS4:=Z.ext p;have hR4:=hR3.ext p;obtain⟨ea,ec,e,_⟩:=v.len;subst e;have b7:=X_len;refine go ?_;refine AF (prtS_ok w4 [.slice X spcX.sigs.length q,.slice T spcX.reqs.length S] spcX ⟨_,_,rfl,hS4,hR4⟩ (k.ext y4) (by have:=X_sz.2.2;omega)) rfl ?_;rintro _ f⟨rfl,k5⟩;rw[X_txt];refine go ?_;refine AF (m f) rfl ?_;rintro _ w0⟨rfl,C⟩;rw[C];have N:=v.ext k5;have D:=y4.trans k5;obtain⟨d1,hd1,b0⟩:=X_at (show 1<3 by omega);obtain⟨d2,hd2,b1⟩:=X_at (show 2<3 by omega);obtain⟨Q,s,b3,a8, -,hc1,a6⟩:=N.at (sz:=19) rfl hd1;subst a8;obtain⟨b5,b6,b4,a9, -,hc2,a7⟩:=N.at (sz:=19) rfl hd2;cases a9;obtain⟨q0,q1,q2,q3,q4,a0,a1,a2,a3,a4,E,n,j,F,t,rfl, -, -,I⟩:=dty19 a6;obtain⟨p0,p1,p2,p3,p4,c0,c1,c2,c3,c4,H,b,K,B,g,rfl, -, -,M⟩:=dty19 a7;have cb:Cells f Q (s+1*19+14) [E,n,j,F,t]:=hc1.part 14 5;have ce:Cells f Q (s+2*19+14) [H,b,K,B,g]:=hc2.part 14 5;rw[b0]at I;rw[b1]at M;refine go ?_;refine W_sneq rfl rfl (fun h=>absurd rfl h) (fun _=>go ?_);refine AQ (L:=[E,n,j,F,t]) rfl rfl cb ?_;refine AF (prtF_ok f _ (nowX 1) I (k.ext D) (by have:=X_sz.1;omega)) rfl ?_;rintro _ w6⟨rfl,o⟩;rw[X_t1];refine Bg rfl rfl (fun _=>?_) (fun h=>absurd rfl h);refine go ?_;refine AQ (L:=[H,b,K,B,g]) rfl rfl (ce.E o O) (go ?_);refine AF (prtF_ok w6 _ (nowX 2) (M.ext o) (k.ext (D.trans o)) (by have:=X_sz.2.1;omega)) rfl ?_;rintro _ w7⟨rfl,k7⟩;rw[X_t2];refine go ?_;refine Bg rfl rfl (fun _=>?_) (fun h=>absurd rfl h);refine go ?_;exact AC rfl ⟨rfl,(D.trans o).trans k7⟩
theorem sgs_nil(w:World):SlAt sgnR Af w (.slice none 0 0) []:=⟨none,0,[],rfl,⟨none,0,rfl,by simp,by omega,fun _=>rfl,.inl rfl⟩,RsAt.nil⟩
theorem rqs_nil(w:World):SlAt reqR Af w (.slice none 0 0) []:=⟨none,0,[],rfl,⟨none,0,rfl,by simp,by omega,fun _=>rfl,.inl rfl⟩,RsAt.nil⟩
theorem spc_lex{s:Spc}(h:chkB s=true){ts:List Tok}(w:EE (spcT s)=.ok ts):PRes .spec (spcT s) (.ok s):=by
 rcases spc_back (chk_spc h)with⟨p,y⟩|h
 ·rw[w]at y;cases y
 ·exact h
theorem fml_lex{f:Fml}(h:okF f=true){ts:List Tok}(w:EE (prF 0 f)=.ok ts):PRes .formula (prF 0 f) (.ok f):=by
 rcases fml_back h with⟨p,y⟩|h
 ·rw[w]at y;cases y
 ·exact h
theorem fT_ok{f:Fml}(h:okF f=true):fT f=prF 0 f:=by unfold fT;rw[if_pos h]
theorem fT_zero:fT Am=[]:=by kernel_rfl
theorem sT_sigs{s:Spc}(h:chkB s=true):sT ⟨s.sigs,[]⟩=spcT ⟨s.sigs,[]⟩:=by
 have:=chk_spc h;simp only[DB,Bool.and_eq_true]at this;unfold sT;rw[if_pos (by simp only[DB,this.1,List.all_nil,Bool.and_self])]
theorem sT_reqs{s:Spc}(h:chkB s=true):sT ⟨[],s.reqs⟩=spcT ⟨[],s.reqs⟩:=by
 have:=chk_spc h;simp only[DB,Bool.and_eq_true]at this;unfold sT;rw[if_pos (by simp only[DB,this.2,List.all_nil,Bool.and_self])]
theorem goal_no{s:Spc}(h:(D7 s).op=0):D7 s=Am:=by
 unfold D7 at h⊢
 split
 ·split
  ·rfl
  ·rename_i h1 h2;rw[if_pos h1,if_neg h2]at h;exact con_zero h
 ·rfl
set_option maxHeartbeats 4000000 in
theorem textGoals_ok(w:World)(X:Option Addr)(W:Nat)(T:Option Addr)(S:Nat)(s:Spc)(l:SlAt sgnR Af w (.slice X s.sigs.length W) s.sigs)(G:SlAt reqR Af w (.slice T s.reqs.length S) s.reqs)
  (d:GP w)(B:GF w)(H:KY w)(C:10<=w.heap.size):
  Fn Zp 3 [.agg #[.slice X s.sigs.length W,.slice T s.reqs.length S]] w fun u w'=>u=.bool true/\Ext w w':=by
 refine AN Tryz.func3 rfl Tryz.ntmps3 (go ?_);refine A3 (L:=[.slice X s.sigs.length W,.slice T s.reqs.length S]) rfl (fun w1 n1=>?_);have b1:=n1.D;have p:=n1.E;refine go ?_;refine AF (w11Texts_ok w1 (d.ext p) (B.ext p) (H.E p O) (Nat.le_trans C p.size)) rfl ?_;rintro _ w2⟨rfl,k2⟩;have x:=p.trans k2;have b2:=b1.E k2 O;refine go ?_;refine AF (w11Right_ok w2 X W T S s (l.ext x) (G.ext x) (d.ext x)) rfl ?_;rintro _ w3⟨b,rfl,k3,hb⟩;have z:=x.trans k3;have b3:=b2.E k3 O;cases b with
 |false=>
  refine go ?_;exact AC rfl ⟨rfl,z⟩
 |true=>
 obtain⟨j,e8,ts,f0⟩:=hb rfl;have y:=rtW_sz j e8;have f5:=spc_lex j f0;refine go ?_;refine AF (prtS_ok w3 [.slice X s.sigs.length W,.slice T s.reqs.length S] s ⟨_,_,rfl,l.ext z,G.ext z⟩ (d.ext z) U) rfl ?_;rintro _ w4⟨rfl,k4⟩;rw[sT_chk j];have y4:=z.trans k4;have b4:=b3.E k4 O;refine go ?_;refine AF (parseS_is w4 _ s (d.ext y4).gk f5) rfl ?_;rintro _ w5⟨c,rfl,k5,sv,rv,rfl,hS5,a7⟩;have y5:=y4.trans k5;have b5:=b4.E k5 O;obtain⟨f,q,rfl,_⟩:=hS5.len;obtain⟨P,R,rfl,_⟩:=a7.len;refine go ?_;refine A2 (cs:=[.slice f s.sigs.length q,.slice P s.reqs.length R]) rfl rfl EQ (AV rfl) (fun w6 A=>?_);have y6:=y5.trans A.E;have b6:=b5.E A.E O;have t6:=A.D;have hS6:=hS5.ext A.E;have a8:=a7.ext A.E;refine go ?_;refine AF (sameSpec_ok w6 [.slice X s.sigs.length W,.slice T s.reqs.length S] [.slice f s.sigs.length q,.slice P s.reqs.length R] s s ⟨_,_,rfl,l.ext y6,G.ext y6⟩ ⟨_,_,rfl,hS6,a8⟩) rfl ?_;rintro _ w7⟨b,rfl,e3,r⟩;obtain rfl:=e3.2 rfl;have y7:=y6.trans r;have b7:=b6.E r O;have t7:=t6.E r O;have hS7:=hS6.ext r;have a9:=a8.ext r;refine go ?_;refine AF (check_ok w7 f q P R s hS7 a9 (B.ext y7) (H.E y7 O) (Nat.le_trans C y7.size)) rfl ?_;rintro v w8⟨g,n,fs,ho,hn16,hfl,f2, -⟩;obtain⟨va,vc,rfl, -⟩:Sl Af w8 v n fs:=Aa ho fun _ _=>trivial;obtain rfl:=f2.2 j;have m:=y7.trans g;have b8:=b7.E g O;have t8:=t7.E g O;have e1:=hS7.ext g;have d8:=a9.ext g;refine go ?_;refine AF (goal_ok w8 X W T S s (l.ext m) (G.ext m) (B.ext m) (H.E m O) (Nat.le_trans C m.size)) rfl ?_;rintro _ w9⟨cg,eg,rfl,t,fg,E,e7⟩;obtain⟨g6,rfl,e5,f3⟩:=fg.cells;obtain⟨s0,s1,s2,s3,s4,rfl⟩:=Ak e5;have y9:=m.trans t;refine go ?_;refine A2 (cs:=[s0,s1,s2,s3,s4]) rfl rfl EQ f3 (fun b9 k=>?_);have Z:=y9.trans k.E;have c1:=b8.E (t.trans k.E) O;have h8:=t8.E (t.trans k.E) O;have d0:=k.D;have c4:FAt Af b9 (.agg [s0,s1,s2,s3,s4].toArray) (D7 s):=(fg.ext k.E).mono fun _ _=>trivial;have d9:=e1.ext (t.trans k.E);have d6:=d8.ext (t.trans k.E);refine go ?_;refine AF (goal_ok b9 f q P R s d9 d6 (B.ext Z) (H.E Z O) (Nat.le_trans C Z.size)) rfl ?_;rintro _ i0⟨ch,eh,rfl,k11,fh,heh,heh2⟩;obtain⟨g7,rfl,e6,f4⟩:=fh.cells;obtain⟨h0,h1,h2,h3,h4,rfl⟩:=Ak e6;have g3:=Z.trans k11;refine go ?_;refine A2 (cs:=[h0,h1,h2,h3,h4]) rfl rfl EQ f4 (fun c0 F=>?_);have g4:=g3.trans F.E;have D:=k11.trans F.E;have c2:=c1.E D O;have d1:=d0.E D O;have g9:=F.D;have a6:=c4.ext D;have c8:FAt Af c0 (.agg [h0,h1,h2,h3,h4].toArray) (D7 s):=(fh.ext F.E).mono fun _ _=>trivial
 obtain rfl:eh=eg:=by
  rcases e7 j with h|h
  ·rcases heh2 j with i|i
   ·rw[h,i]
   ·exact absurd (heh.2 (E.1 h)) (by rw[i];decide)
  ·rcases heh2 j with i|i
   ·exact absurd (E.2 (heh.1 i)) (by rw[h];decide)
   ·rw[h,i]
 refine go ?_;refine AF (same_ok c0 _ _ (D7 s) (D7 s) a6 c8) rfl ?_;rintro _ i1⟨b,rfl,e2,K⟩;obtain rfl:=e2.2 rfl;have a0:=g4.trans K;have c3:=c2.E K O;have d2:=d1.E K O;have c5:=a6.ext K;have e0:=l.ext a0;have d7:=G.ext a0;have d5:=d.ext a0;refine go ?_;refine Ac (rd 0 3 (rd 4 3 (.read 9 (.alt 3 (.alt 7 (.read 8 (.alt 10 (.read 11 .done) .stop)) .stop) .stop)))) Ap EO (fun N M ed=>⟨Ext N,?_,?_⟩)
 ·exact FQ
 have yd:=a0.trans M;have bE:∀V,Ext N V->Blk V w.heap.size 25 [.slice X s.sigs.length W,.slice T s.reqs.length S]:=fun V e=>(c3.E M O).E e O;have h6:∀V,Ext N V->V.cell? ⟨w.heap.size,0+0,none⟩=some (.slice X s.sigs.length W):=fun V e=>(bE V e).cell rfl;have h7:∀V,Ext N V->V.cell? ⟨w.heap.size,0+1,none⟩=some (.slice T s.reqs.length S):=fun V e=>(bE V e).cell rfl;have hSd:=e0.ext M;have b0:=d7.ext M;have a2:=d5.ext M;have f7:szS ⟨s.sigs,[]⟩<=1000000:=by unfold szS at y⊢;simp[szR]at y⊢;omega
 have f8:szS ⟨[],s.reqs⟩<=1000000:=by unfold szS at y⊢;simp only[List.length_nil]at y⊢;omega
 refine go ?_;refine D_R (v:=.agg [.slice X s.sigs.length W,.slice T s.reqs.length S].toArray) rfl rfl (fun V e=>by refine A8 rfl (bE V e) rfl ?_;exact AA ⟨rfl,rfl,rfl⟩) ?_;refine go ?_;refine D_E rfl ?_;refine AF (prtS_ok N [.slice X s.sigs.length W,.slice none 0 0] ⟨s.sigs,[]⟩ ⟨_,_,rfl,hSd,rqs_nil N⟩ a2 f7) rfl ?_;rintro _ v1⟨rfl,a⟩;rw[sT_sigs j];refine wNl a ?_;refine go ?_;refine D_E rfl ?_;refine AF (prtS_ok v1 [.slice none 0 0,.slice T s.reqs.length S] ⟨[],s.reqs⟩ ⟨_,_,rfl,sgs_nil v1,b0.ext a⟩ (a2.ext a) f8) rfl ?_;rintro _ v2⟨rfl,j2⟩;rw[sT_reqs j];have D:=a.trans j2;refine wNl D ?_;refine go ?_;have hl1:=spcT_len (s:=⟨s.sigs,[]⟩) (by have:=chk_spc j;simp only[DB,Bool.and_eq_true]at this⊢;exact⟨this.1,rfl⟩);have hl2:=spcT_len (s:=⟨[],s.reqs⟩) (by have:=chk_spc j;simp only[DB,Bool.and_eq_true]at this⊢;exact⟨rfl,this.2⟩);refine D_R (v:=AL (spcT ⟨s.sigs,[]⟩++spcT ⟨[],s.reqs⟩)) rfl rfl (fun V e=>by refine EB rfl rfl U ?_;exact AA ⟨rfl,rfl,rfl⟩) ?_;refine go ?_;refine D_E rfl ?_;refine AF (prtS_ok v2 [.slice X s.sigs.length W,.slice T s.reqs.length S] s ⟨_,_,rfl,hSd.ext D,b0.ext D⟩ (a2.ext D) U) rfl ?_;rintro _ v3⟨rfl,j3⟩;rw[sT_chk j];have o:=D.trans j3;refine wNl o ?_;refine go ?_;refine D_R (v:=.bool false) rfl rfl (fun V e=>W_sneq rfl rfl (fun h=>absurd (spc_cut s) h) (fun _=>AA ⟨rfl,rfl,rfl⟩)) (go ?_);have yv:=yd.trans o;have gv:=d2.E (M.trans o) O;have a1:=c5.ext (M.trans o);by_cases I:(D7 s).op=0
 ·have hgz:=goal_no I;have h5:eh≠0:=fun h=>E.1 h I;refine go ?_;refine AF (prtF_ok v3 _ (D7 s) a1 (d.ext yv) (by rw[hgz];exact of_decide_eq_true EO)) rfl ?_;rintro _ v4⟨rfl,Q⟩;rw[hgz,fT_zero];refine go ?_;refine Bg rfl rfl (fun _=>?_) (fun h=>absurd rfl h);refine go ?_;exact AC rfl ⟨rfl,yv.trans Q⟩
 ·obtain⟨a3,hgs⟩:=goal_fml I;obtain rfl:=E.2 I;refine go ?_;refine AF (prtF_ok v3 _ (D7 s) a1 (d.ext yv) U) rfl ?_;rintro _ v4⟨rfl,Q⟩;rw[fT_ok a3];have g5:=yv.trans Q;have d3:=gv.E Q O;have c6:=a1.ext Q;refine go ?_;refine AF (lexed_ok v4 _) rfl ?_;rintro _ v5⟨b,rfl,j5,f1⟩;have a5:=g5.trans j5;have d4:=d3.E j5 O;have c7:=c6.ext j5;cases b with
  |false=>
   refine go ?_;refine Bg rfl rfl (fun h=>absurd h (fml_ne a3)) (fun _=>go ?_);exact AC rfl ⟨rfl,a5⟩
  |true=>
  obtain⟨h9,f6⟩:=f1 rfl;refine go ?_;refine AF (parseF_is v5 _ (D7 s) (d.ext a5).gk (fml_lex a3 f6)) rfl ?_;rintro _ v6⟨ck,rfl,j6,fk⟩;obtain⟨e9,c9⟩:=id fk;obtain⟨k0,f9,g0,g1,g2,rfl⟩:=Ak e9;refine go ?_;refine A2 (cs:=[k0,f9,g0,g1,g2]) rfl rfl EQ (fmlR.one fk) (fun v7 n7=>?_);have a4:=j6.trans n7.E;have g8:=d4.E a4 O;have K7:=n7.D;refine go ?_;refine AF (same_ok v7 _ _ (D7 s) (D7 s) (c9.ext n7.E) (c7.ext a4)) rfl ?_;rintro _ v8⟨b,rfl,e4,j8⟩;obtain rfl:=e4.2 rfl;refine go ?_;exact AC rfl ⟨rfl,(a5.trans a4).trans j8⟩
section
open Go.ChangeAt Go.ChangeShapes Go.WideShapes
open Go.ChangeMaps (open_string)
section
variable {H:Type}{enc:TypeId×Value->H}{P:Program}{W W':World}
theorem sameAt_ext(c:Ext W W'){p:MemPlace}(y:p.block<W.heap.size):W.sameAt W' p:=by
 cases p with
 |cell b off=>exact World.cell?_of_block (w:=W) (a:=⟨b,off,none⟩) (c.block b y O)
 |map b=>exact c.block b y O
theorem trodAll_ext(K:Kids P (·<P.types.size))(o:∀t e,t<P.types.size->P.underlying t=some (.slice e)->0<P.cellsOf e)(a:Ext W W'){sp:Nat->Bool}:
  ∀{ts:List TypeId}{vs:LV}{ds:List (DataW H)}{l:List MemPlace},(∀t∈ts,t<P.types.size)->DataW.TrodAll enc P W 0 (fun _=>true) true ts vs ds l->
   (∀p∈l,p.block<W.heap.size)->(∀p∈l,sp p.block=true)->DataW.TrodAll enc P W' 0 sp true ts vs ds l
 | [],[],[],_,_,h,_,_=>h
 |_::_,_::_,_::_,_,hT,⟨p,q,⟨n,h1⟩,h2,e⟩,hl,hs=>by
  subst e;refine⟨p,q,⟨n,DataW.trod_stays K (fun w g=>o _ _ w g) (fun h=>by cases h) (hT _ O) h1 (fun x V=>sameAt_ext a (hl x (List.mem_append_left _ V))) fun x V=>hs x (List.mem_append_left _ V)⟩,?_,rfl⟩;exact trodAll_ext K o a (fun t w=>hT t (List.mem_cons_of_mem _ w)) h2 (fun x V=>hl x (List.mem_append_right _ V)) fun x V=>hs x (List.mem_append_right _ V)
theorem keptBut_ext(a:Ext W W')(V:MemPlace->Prop):W.keptBut W' V:=by
 refine⟨a.os,a.output,fun i b=>?_⟩;rw[a.block i b O];exact(World.keptBut_refl W V).2.2 i b
theorem post_of_ext(K:Kids P (·<P.types.size))(r:∀t e,t<P.types.size->P.underlying t=some (.slice e)->0<P.cellsOf e){f:Func}{s:ChangeSpec}{T fresh S:Bool}{args:Array Value}{v:Value}{ds c:List (DataW H)}{b:List MemPlace}{k:TypeId}
  (m:∀t∈f.params.toList,t<P.types.size)(F:s.vars=[])(o:DataW.Whole enc P f.params.toList s.vars T W args.toList ds c b)
  (d:s.fn H (ds++c)={results:=[.lit (.bool true)],args:=ds})(a:f.resultTypes= #[k])(R:P.underlying k=some .bool)(n:v=.bool true)(i:Ext W W'):
  s.post enc P f T fresh S false W args v W':=by
 subst n;have j:∀p∈b,p.block<W.heap.size:=o.lt;obtain⟨p,q,Q,g,rfl,u,I⟩:=id o
 have l:c=[]/\q=[]:=by
  rw[F]at g;cases c with
  |nil=>exact⟨rfl,g⟩
  |cons _ _=>exact g.elim
 obtain⟨rfl,rfl⟩:=l;refine⟨ds,[],_,[],p,[],o,?_,?_,?_,keptBut_ext i _,(fun h=>by cases h)⟩
 ·rw[d,a];exact trodAll_cons_mk (shut_bool R true) trodAll_mk0
 ·rw[d];exact trodAll_ext K r i m Q (fun x V=>j x (List.mem_append_left _ V)) fun x V=>by simpa using j x (List.mem_append_left _ V)
 ·rw[d,F];exact rfl
end
theorem kids:Kids Zp (·<Tryz.prog.types.size):=kids_rows EO EO
theorem full:∀t e,t<Tryz.prog.types.size->Tryz.prog.underlying t=some (.slice e)->0<Tryz.prog.cellsOf e:=slices_full_of Zp EO
theorem own:ownKnob Tryz.prog.godebug=none:=by kernel_rfl
section
variable {H:Type}{enc:TypeId×Value->H}{P:Program}{W:World}{sp:Nat->Bool}{hd:Bool}
theorem spot_none{a:Addr}{v:Value}(h:W.cell? a=some v):a.spot=none:=by
 cases ha:a.spot with
 |none=>rfl
 |some _=>
  unfold World.cell? at h
  split at h
  ·simp[ha]at h
  ·cases h
end
end
section
variable {mk:Prop}[MK mk]
end
end Go.Proofs.YtjbocjodncbogaaGreatDoor
