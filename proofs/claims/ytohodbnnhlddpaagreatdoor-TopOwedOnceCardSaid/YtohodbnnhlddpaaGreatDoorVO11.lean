/- TopOwedOnce, part 11 of 14: rules, lemmas, walks. Conditions: none. -/
import Derived.Test.YtohodbnnhlddpaaGreatDoorVO10
namespace Go.Proofs.YtohodbnnhlddpaaGreatDoor
open Go.RowKit
set_option linter.unusedVariables false
section
attribute [local semireducible] WC AT Bo BI Bj Cw DV Be
variable {P:Program}{all:Array Oper}{Z:Fr->DS->List PanicEntry->World->Prop}{K:Fr->DS->World->Prop}{rest:List Oper}{f:Fr}{ds:DS}{w:World}{d:Nat}{ty:TypeId}{pos:String}{af:Array Edge}
theorem W_lookupS{T:TypeId}{m k:Operand}{r:Nat}{x:LU}{y z:Value}{L:List (LU×Value)}[hT:SMapT P T z](o:ev f m=.map (some r))(n:ev f k=AK x)(e:SMap w r L)(a:L.lookup x=some y)
  (h:AT P all Z K rest (upd f d y) ds w):AT P all Z K (⟨some d,.lookup T m k false,ty,pos,af,none⟩::rest) f ds w:=by
 obtain⟨c,s,i,X,W,Q,t⟩:=hT.out;have G:=nodup_str e;obtain⟨g,q,S,D,p⟩:=e;refine Aw rfl ?_ h;have l:=MapKept.run_checkKey (P:=P) (w:=w) (k:=AK x) W trivial g.isEmpty 9999;rcases find_str W p G x w with⟨b,A,_⟩|⟨j,v,b,A⟩
 ·rw[b]at a;cases a
 ·rw[b]at a;cases a;simp[execOp,o,n,Instr.lookup,run_underlying X,MapKept.run_getObj_map S,l,A]
theorem W_putS{T:TypeId}{m k v:Operand}{r:Nat}{x:LU}{y z:Value}{L:List (LU×Value)}[hT:SMapT P T z](t:ev f m=.map (some r))(s:ev f k=AK x)(q:ev f v=y)(e:SMap w r L)(n:L.lookup x=none)
  (h:∀w',Keep [r] w w'->w'.heap.size=w.heap.size->SMap w' r (L++[(x,y)])->AT P all Z K rest f ds w'):AT P all Z K (⟨none,.mapUpdate T m k v,ty,pos,af,none⟩::rest) f ds w:=by
 obtain⟨c,u,i,X,W,Q,B⟩:=hT.out;have G:=nodup_str e;obtain⟨o,a,S,D,g⟩:=e;have p:=MapKept.run_checkKey (P:=P) (w:=w) (k:=AK x) W trivial false 9999;rcases find_str W g G x w with⟨b,A,E⟩|⟨j,l,b,A⟩
 ·refine W_skp (w':={w with heap:=w.heap.setIfInBounds r (.map (o.push {key:=AK x,val:=y,born:=a}) (a+1))}) rfl ?_ (h _ (setBlkS_keep fun _ _ _ h=>by cases h) O ⟨_,_,(MapKept.heap_set S).1,MapKept.stamped_push D E,?_⟩)
  ·simp[execOp,t,s,q,Instr.mapUpdate,run_underlying X,MapKept.run_getObj_map S,p,A,MapKept.run_setObj_map _ S]
  ·rw[Array.toList_push,List.map_append,g];simp[rdS,encS]
 ·rw[b]at n;cases n
end
instance :SMapT Zp 153 (iV 0):=smapT_of Tryz.underlying153 Tryz.underlying9 Dv
theorem SlAt.req{ok:Nat->Prop}{w:World}{a:Option Addr}{n c:Nat}{l:List Rqm}{k:Nat}{x:Rqm}(h:SlAt reqR ok w (.slice a n c) l)(T:l[k]?=some x):∃b o d,a=some ⟨b,o,none⟩/\ok b/\d.length=5/\Cells w b (o+k*8) ([AK x.part,AK x.name,iV x.kind]++d)/\FAt ok w (.agg d.toArray) x.formula:=by
 obtain⟨X,m,L,e,j,g⟩:=h;cases e;have z:=(List.getElem?_eq_some_iff.1 T).1;obtain⟨y,N⟩:∃y,L[k]?=some y:=⟨_,List.getElem?_eq_getElem (by rw[g.1];exact z)⟩;obtain⟨d,rfl,C,i⟩:=g.2 k y x N T;obtain⟨b,o,e,S,V⟩:=j.recs g (sz:=8) rfl N z;exact⟨b,o,d,e,S,C,V,i⟩
def nmI(n:List Rqm)(nm:LU):Option Nat:=n.findIdx? fun r=>decide (r.name=nm)
def fstM(w:World)(n:Nat)(l:List Rqm):Prop:=∃r L,Blk w n 153 [.map (some r)]/\SMap w r L/\∀p,L.lookup p=(nmI l p).map fun i=>iV (i:Int)
theorem nmI_snoc(l:List Rqm)(x:Rqm)(nm:LU):nmI (l++[x]) nm=match nmI l nm with|some i=>some i|none=>if x.name=nm then some l.length else none:=by
 unfold nmI;rw[List.findIdx?_append];cases h:l.findIdx? (fun r=>decide (r.name=nm))with
 |some i=>simp
 |none=>
  simp only[Option.none_or,List.findIdx?_cons,List.findIdx?_nil];by_cases T:x.name=nm<;>simp[T]
abbrev rulV(k:Nat)(L:LV):Value:=.func (.func k) #[] L.toArray
theorem made1:(madeCells (Value.agg #[.nilFunc]).cells (3*1)).toList=[.nilFunc,.nilFunc,.nilFunc]:=by kernel_rfl
theorem rules_ok(w:World)(s:Nat)(sv:Value)(ra:Option Addr)(C:Nat)(n:List Rqm)(S:Blk w s 54 [sv,.slice ra n.length C])(hr:SlAt reqR AV w (.slice ra n.length C) n)(G:n.length<=1000):
  Fn Zp 56 [pt s] w fun u w'=>∃g b mb,u=.slice (sm g) 3 3/\Ext w w'/\Blk w' g 112 [rulV 90 [pt b],rulV 91 [pt mb,pt b],rulV 92 [pt b]]/\Blk w' b 109 [pt s]/\fstM w' mb n:=by
 refine AG Tryz.func56 rfl Tryz.ntmps56 (go ?_);refine Ai (L:=[pt s]) rfl (fun R E=>go ?_);refine W_makeMapS (fun c k2 z2 F=>?_);refine AS (fun w3 B=>?_);refine AR (v:=.map (some R.heap.size)) rfl rfl rfl B.D O (fun r m=>?_);have z1:=E.size;have z3:=B.size;have z4:=m.size;have t:Ext c r:=B.E.E m.E O;have a2:Blk r w.heap.size 109 [pt s]:=E.D.E (k2.trans t) O;have a1:Blk r c.heap.size 153 [.map (some R.heap.size)]:=m.D;have m4:=F.E t O;have X:Ext w r:=(E.E.trans k2).trans t;have b4:=S.E X O;have a9:=S.lt;refine go ?_;refine Ah (α:=Nat) (fun k=>[(1,pt w.heap.size),(2,.slice none 0 0),(3,pt c.heap.size),(15,iV (n.length:Int)),(16,iV (k:Int))]) (fun k W=>k<=n.length/\Ext w W/\Blk W w.heap.size 109 [pt s]/\Blk W c.heap.size 153 [.map (some R.heap.size)]/\r.heap.size<=W.heap.size/\∃L,SMap W R.heap.size L/\∀p,L.lookup p=(nmI (n.take k) p).map fun i=>iV (i:Int)) (fun k=>n.length-k) 0 ag ⟨by omega,X,a2,a1,Nat.le_refl _,[],m4,fun p=>rfl⟩ ?_;rintro k W fr⟨a8,o,N,Q,zW,L,mW,A⟩;have bW:=S.E o O;refine go ?_;by_cases a5:k<n.length
 ·obtain⟨x,hx⟩:=gl a5;obtain⟨rb,ro,d,rfl, -,hd,hc, -⟩:=hr.req hx;have T:=hc 1 _ rfl;have a7:=World.block_lt_of_cell? w _ T;simp only at a7;have c1:=o.cell T O;refine go ?_;refine AX (rd 0 15 .done) An Dv (fun H I ed=>⟨Ext H,?_,?_⟩)
  ·exact Ew
  have zd:=I.size;have y:=N.E I O;have l:=Q.E I O;have bd:=bW.E I O;have a3:=I.cell c1 O;have z:=mW.E I O;refine go ?_;apply D_R;rfl;rfl
  ·intro V hV;refine W_lookup2S rfl rfl (z.E hV O) ?_;exact AA ⟨rfl,rfl,rfl⟩
  refine go ?_;have j:L.lookup x.name=_:=A x.name
  have a0:∀p,nmI (n.take (k+1)) p=match nmI (n.take k) p with|some i=>some i|none=>if x.name=p then some k else none:=by
   intro p;rw[List.take_add_one,hx];have:=nmI_snoc (n.take k) x p
   rwa [List.length_take,Nat.min_eq_left U]at this
  cases hi:nmI (n.take k) x.name with
  |some i=>
   rw[hi]at j;rw[j];refine go ?_;refine⟨k+1,⟨rfl,ag,⟨by omega,o.trans I,y,l,by omega,L,z,fun p=>?_⟩⟩,by omega⟩;rw[A,a0];by_cases G:x.name=p
   ·subst G;simp[hi]
   ·cases nmI (n.take k) p<;>simp[G]
  |none=>
   rw[hi]at j;rw[j];refine go ?_;have a4:=o.trans I;refine AX (rd 0 10 (.alt 10 .done .stop)) An Dv (fun H I ed=>⟨Keep [R.heap.size] H,?_,?_⟩)
   ·exact FK
   have b0:=I.size;have M:=y.E I O;have D:=l.E I O;have F:=z.E I O;have s1:∀V,Keep [R.heap.size] H V->V.cell? ⟨w.heap.size,0,none⟩=some (pt s):=fun V e=>(M.E e Dw).cell rfl;have s2:∀V,Keep [R.heap.size] H V->V.cell? ⟨c.heap.size,0,none⟩=some (.map (some R.heap.size)):=fun V e=>(D.E e Dw).cell rfl;have s3:∀V,Keep [R.heap.size] H V->V.cell? ⟨s,0+1,none⟩=some (.slice (some ⟨rb,ro,none⟩) n.length C):=fun V e=>((bd.E I O).E e Dw).cell rfl;have s4:∀V,Keep [R.heap.size] H V->V.cell? ⟨rb,ro+k*8+1,none⟩=some (AK x.name):=fun V e=>e.cell (I.cell a3 O) Dw;refine go ?_;refine D_E rfl ?_;refine W_putS rfl rfl rfl F j (fun w9 a z9 m9=>?_);refine wNl a ?_;refine go ?_;refine⟨k+1,⟨rfl,ag,⟨by omega,(a4.trans I).E a Dw,M.E a Dw,D.E a Dw,by have:=a.size;omega,_,m9,fun p=>?_⟩⟩,by omega⟩;rw[a0,List.lookup_append,A];by_cases G:x.name=p
   ·subst G;rw[hi];simp;rfl
   ·have a6:(p==x.name)=false:=by simpa using fun h=>G h.symm
    cases nmI (n.take k) p with
    |some i=>simp
    |none=>simp[List.lookup_cons,G,a6]
 ·obtain rfl:k=n.length:=by omega
  rw[List.take_length]at A;refine go ?_;refine AP (out:=[rulV 90 [pt w.heap.size],rulV 91 [pt c.heap.size,pt w.heap.size],rulV 92 [pt w.heap.size]]) rfl U (by rw[made1];rfl) (fun w5 q=>?_);refine go ?_;exact AB rfl ⟨W.heap.size,w.heap.size,c.heap.size,rfl,o.trans q.E,q.D,N.E q.E O,R.heap.size,L,Q.E q.E O,mW.E q.E O,A⟩
def wordsB(r:Rqm):Bool:=(decide (r.kind=1)||decide (r.kind=2))&&CH r.part&&CH r.name
theorem nmI_self{n:List Rqm}{i:Nat}{x:Rqm}(h:n[i]?=some x):∃j,nmI n x.name=some j/\j<=i:=by
 unfold nmI;cases hj:n.findIdx? (fun r=>decide (r.name=x.name))with
 |none=>
  rw[List.findIdx?_eq_none_iff]at hj;have:=hj x (List.mem_of_getElem? h);simp at this
 |some j=>
  refine⟨j,rfl,?_⟩;obtain⟨B,X,W⟩:=List.findIdx?_eq_some_iff_getElem.1 hj;refine Nat.le_of_not_lt fun L=>?_;have:=W i L;obtain⟨H,rfl⟩:=List.getElem?_eq_some_iff.1 h;simp at this
theorem rule1_ok(w:World)(b a:Nat)(sv:Value)(G:Option Addr)(H:Nat)(n:List Rqm)(i:Nat)(x:Rqm)(T:n[i]?=some x)(v:Blk w b 109 [pt a])(S:Blk w a 54 [sv,.slice G n.length H])(c:SlAt reqR AV w (.slice G n.length H) n)(s:KY w):
  Fn Zp 90 [iV (i:Int),pt b] w fun u w'=>u=iV (if wordsB x=true then 0 else 1)/\w'=w:=by
 have f:=(List.getElem?_eq_some_iff.1 T).1;obtain⟨g,j,d,rfl, -,C,V,K⟩:=c.req T;have e:=V 0 _ rfl;have B:=V 1 _ rfl;have D:=V 2 _ rfl;unfold wordsB;refine AG Tryz.func90 rfl Tryz.ntmps90 (go ?_);by_cases X:x.kind=1
 ·refine go ?_;refine AE (DL x.part w s) rfl ?_;rintro _ w⟨rfl,rfl⟩;cases hp1:CH x.part with
  |false=>
   refine go ?_;exact AB rfl ⟨by simp[X];rfl,rfl⟩
  |true=>
   refine go ?_;refine AE (DL x.name w s) rfl ?_;rintro _ w⟨rfl,rfl⟩;cases hp2:CH x.name with
   |false=>
    refine go ?_;exact AB rfl ⟨by simp[X];rfl,rfl⟩
   |true=>
    refine go ?_;exact AB rfl ⟨by simp[X];rfl,rfl⟩
 by_cases W:x.kind=2
 ·refine go ?_;refine AE (DL x.part w s) rfl ?_;rintro _ w⟨rfl,rfl⟩;cases hp1:CH x.part with
  |false=>
   refine go ?_;exact AB rfl ⟨by simp[W];rfl,rfl⟩
  |true=>
   refine go ?_;refine AE (DL x.name w s) rfl ?_;rintro _ w⟨rfl,rfl⟩;cases hp2:CH x.name with
   |false=>
    refine go ?_;exact AB rfl ⟨by simp[W];rfl,rfl⟩
   |true=>
    refine go ?_;exact AB rfl ⟨by simp[W];rfl,rfl⟩
 refine go ?_;exact AB rfl ⟨by simp[X,W];rfl,rfl⟩
theorem rule2_ok(w:World)(b s c:Nat)(sv:Value)(G:Option Addr)(H:Nat)(n:List Rqm)(i:Nat)(x:Rqm)(T:n[i]?=some x)(v:Blk w b 109 [pt s])(S:Blk w s 54 [sv,.slice G n.length H])(p:SlAt reqR AV w (.slice G n.length H) n)(y:fstM w c n)(M:n.length<=1000):
  Fn Zp 91 [iV (i:Int),pt c,pt b] w fun u w'=>u=iV (if nmI n x.name=some i then 0 else 4)/\Ext w w':=by
 have o:=(List.getElem?_eq_some_iff.1 T).1;obtain⟨N,P,d,rfl, -,C,g,K⟩:=p.req T;have B:=g 1 _ rfl;obtain⟨r,L,e,t,A⟩:=y;obtain⟨j,z,a⟩:=nmI_self T;have h:=A x.name;rw[z]at h;refine AG Tryz.func91 rfl Tryz.ntmps91 (go ?_);refine AX (rd 0 12 .done) An Dv (fun D I F=>⟨Ext D,?_,?_⟩)
 ·exact Ew
 have E:=v.E I O;have l:=e.E I O;have m:=S.E I O;have k:=I.cell B O;have q:=t.E I O;refine go ?_;apply D_R;rfl;rfl
 ·intro V f;refine W_lookupS rfl rfl (q.E f O) h ?_;exact AA ⟨rfl,rfl,rfl⟩
 rw[z];by_cases o:j<i
 ·refine go ?_;exact AB rfl ⟨by rw[if_neg Dw];rfl,I⟩
 ·obtain rfl:j=i:=by omega
  refine go ?_;exact AB rfl ⟨by rw[if_pos rfl];rfl,I⟩
theorem rule3_ok(w:World)(l s:Nat)(f:Option Addr)(K:Nat)(S:List Sgn)(G:Option Addr)(p:Nat)(n:List Rqm)(i:Nat)(x:Rqm)(g:n[i]?=some x)(v:Blk w l 109 [pt s])(E:Blk w s 54 [.slice f S.length K,.slice G n.length p])(A:SlAt sgnR AV w (.slice f S.length K) S)(W:SlAt reqR AV w (.slice G n.length p) n)(C:GF w)(t:KY w)(z:10<=w.heap.size):
  Fn Zp 92 [iV (i:Int),pt l] w fun u w'=>∃e:Int,u=iV e/\Ext w w'/\(e=0↔fmOk S x.formula=true):=by
 have B:=(List.getElem?_eq_some_iff.1 g).1;obtain⟨o,q,d,rfl, -,P,M,Q⟩:=W.req g;obtain⟨T,R,c,b,a,rfl⟩:=Ab P
 have N:Cells w o (q+i*8+3) [T,R,c,b,a]:=fun j u X=>by
  have:=M (3+j) u (by rw[List.getElem?_append_right O];simpa using X)
  rwa [<-Nat.add_assoc]at this
 refine AG Tryz.func92 rfl Tryz.ntmps92 (go ?_);refine AX (rd 0 12 (.alt 12 (.read 13 .done) .stop)) An Dv (fun H I Z=>⟨Ext H,?_,?_⟩)
 ·exact Ew
 have y:=v.E I O;have m:=E.E I O;have r:∀V,Ext H V->Cells V o (q+i*8+3) [T,R,c,b,a]:=fun V e=>(N.E I O).E e O;refine go ?_;apply D_R;rfl;rfl
 ·intro V D;refine AQ (L:=[T,R,c,b,a]) rfl rfl (r V D) ?_;exact AA ⟨rfl,rfl,rfl⟩
 refine D_E rfl ?_;refine AE (gtyping_ok H f K S _ x.formula (A.ext I) (Q.ext I) (C.ext I) (t.E I O) (Nat.le_trans z I.size)) rfl ?_;rintro _ w5⟨e,rfl,k,F⟩;refine wNl k ?_;refine go ?_;exact AB rfl ⟨e,rfl,I.trans k,F⟩
def reqB(S:List Sgn)(n:List Rqm)(i:Nat):Bool:=match n[i]? with
 |some x=>wordsB x&&decide (nmI n x.name=some i)&&fmOk S x.formula
 |none=>false
def chkB(s:Spc):Bool:=A5 s.sigs&&decide (s.reqs.length<=16)&&(List.range s.reqs.length).all (reqB s.sigs s.reqs)
def FltA(w:World)(B:Nat)(v:Value)(N:Nat)(x:Prop):Prop:=∃n h,w.ownsRow B 106 2 v n h/\n<=N/\h.length=n*2/\(n=0↔x)/\(n≠0->∃e:Int,e≠0/\h[1]?=some (iV e))
theorem FltA.push{w':World}{B N n:Nat}{o:Value}{xs:LV}{q:Prop}{k:Value}{e:Int}(X:n<=N)(W:xs.length=n*2)(z:n≠0->∃e:Int,e≠0/\xs[1]?=some (iV e))(a:w'.ownsRow B 106 2 o (n+1) (xs++[k,iV e]))(F:e≠0)(T:¬q):FltA w' B o (N+1) q:=by
 refine⟨n+1,_,a,by omega,by simp[W];omega,by simp[T],fun _=>?_⟩;by_cases G:n=0
 ·subst G;have:xs=[]:=List.eq_nil_of_length_eq_zero U;subst this;exact⟨e,F,rfl⟩
 ·obtain⟨R,S,V⟩:=z G;exact⟨R,S,by rw[List.getElem?_append_left U];exact V⟩
theorem made2:(madeCells (Value.agg #[iV 0,iV 0]).cells (1*2)).toList=[iV 0,iV 0]:=by kernel_rfl
theorem check_ok(w:World)(sa:Option Addr)(sc:Nat)(G:Option Addr)(H:Nat)(s:Spc)(hS:SlAt sgnR AV w (.slice sa s.sigs.length sc) s.sigs)(M:SlAt reqR AV w (.slice G s.reqs.length H) s.reqs)(hG:GF w)(hK:KY w)(hN:10<=w.heap.size):
  Fn Zp 19 [.agg #[.slice sa s.sigs.length sc,.slice G s.reqs.length H]] w fun u w'=>Ext w w'/\FltA w' w.heap.size u 16 (chkB s=true):=by
 obtain⟨S,c⟩:=s;simp only at hS M;obtain⟨_,_,_,hrl⟩:=M.len;refine AG Tryz.func19 rfl Tryz.ntmps19 (go ?_);refine Ai (L:=[.slice sa S.length sc,.slice G c.length H]) rfl (fun w1 n1=>?_);have z1:=n1.size;have b1:=n1.D;refine go ?_;refine AE (Dt w1 _ S (hS.ext n1.E) (hK.E n1.E O)) rfl ?_;rintro _ w3⟨rfl,k3⟩;have z3:=k3.size;have e3:=n1.E.trans k3;have b3:=b1.E k3 O;cases hv:A5 S with
 |false=>
  refine go ?_;have hq:(1:Nat)=0↔chkB ⟨S,c⟩=true:=by simp[chkB,hv]
  refine AP (out:=[iV (-1),iV 1]) rfl U (by rw[made2];rfl) (fun w5 n5=>?_);refine go ?_;exact AB rfl ⟨e3.trans n5.E,1,_,n5.own (n:=1) (size:=2) rfl D3 U,by omega,rfl,hq,fun _=>⟨1,by omega,rfl⟩⟩
 |true=>
 refine go ?_;by_cases b2:16<c.length
 ·refine go ?_;have hq:(1:Nat)=0↔chkB ⟨S,c⟩=true:=by simp[chkB,hv];omega
  refine AP (out:=[iV (-1),iV 2]) rfl U (by rw[made2];rfl) (fun w5 n5=>?_);refine go ?_;exact AB rfl ⟨e3.trans n5.E,1,_,n5.own (n:=1) (size:=2) rfl D3 U,by omega,rfl,hq,fun _=>⟨2,by omega,rfl⟩⟩
 refine go ?_;refine AE (rules_ok w3 w.heap.size _ G H c b3 (M.ext e3) U) rfl ?_;rintro _ w4⟨g,b,B,rfl,a,bg,bp,bm⟩;have z4:=a.size;have e4:=e3.trans a;have b4:=b3.E a O;refine go ?_
 refine Ah (α:=Nat×Value) (fun y=>[(1,pt w.heap.size),(3,y.2),(4,.slice (sm g) 3 3),(24,iV (c.length:Int)),(25,iV (y.1:Int))])
  (fun y W=>y.1<=c.length/\Ext w W/\Ext w4 W/\FltA W w4.heap.size y.2 y.1 (∀i<y.1,reqB S c i=true)) (fun y=>c.length-y.1) (0,.slice none 0 0) ag ⟨by simp,e4,Ext.refl _,0,[],⟨rfl,.inl ⟨rfl,rfl⟩⟩,Nat.le_refl _,rfl,by simp,by simp⟩ ?_
 rintro⟨k,v⟩W fr⟨a9,N,q,I⟩;simp only at a9 N q I;have bW:=b4.E q O;have a4:=bg.E q O;have a5:=bp.E q O
 have a7:∀V,Ext W V->fstM V B c:=fun V d=>by
  obtain⟨r,L,h1,h2,h3⟩:=bm;exact⟨r,L,h1.E (q.trans d) O,h2.E (q.trans d) O,h3⟩
 refine go ?_;by_cases b0:k<c.length
 ·obtain⟨x,hx⟩:=gl b0;have a3:reqB S c k=(wordsB x&&decide (nmI c x.name=some k)&&fmOk S x.formula):=by unfold reqB;rw[hx]
  refine go ?_
  refine Ah (α:=Nat) (fun j=>[(1,pt w.heap.size),(3,v),(4,.slice (sm g) 3 3),(5,iV (k:Int)),(24,iV (c.length:Int)),(25,iV (k:Int)),(28,.slice (sm g) 3 3),(29,iV 3),(30,iV (j:Int))])
   (fun j V=>j<=3/\Ext W V/\(1<=j->wordsB x=true)/\(2<=j->nmI c x.name=some k)/\(3<=j->fmOk S x.formula=true)) (fun j=>3-j) 0 ag ⟨by simp,Ext.refl _,by omega,by omega,by omega⟩ ?_
  rintro j V fr⟨hj,K,h1,h2,h3⟩;refine go ?_;by_cases hj3:j<3
  ·rcases(show j=0\/j=1\/j=2 by omega)with rfl|rfl|rfl
   ·have a1:Cells V g 0 [rulV 90 [pt b]]:=fun i u z=>by
     obtain⟨rfl,rfl⟩:i=0/\u=rulV 90 [pt b]:=by
      cases i with
      |zero=>exact⟨rfl,by simpa using z.symm⟩
      |succ i=>simp at z
     exact(a4.E K O).cell rfl
    refine go ?_;refine AQ (L:=[rulV 90 [pt b]]) rfl rfl a1 ?_;refine AS (L:=[.nilFunc]) (fun V1 A=>?_);refine AH (cs:=[rulV 90 [pt b]]) rfl rfl rfl (AW rfl) A.D O (fun f X=>?_);have a2:Ext V f:=A.E.E X.E O;have bq:Blk f V.heap.size 112 [rulV 90 [pt b]]:=X.D;have d:=K.trans a2;have p:=N.trans d;have a0:=a5.E d O;have bV:=bW.E d O;refine go ?_;refine Az (v1:=[]) (v2:=[pt b]) (vs:=[iV (k:Int)]) rfl (rule1_ok f b w.heap.size _ G H c k x hx a0 bV (M.ext p) (hK.E p O)) rfl ?_;rintro _ _⟨rfl,rfl⟩;by_cases D:wordsB x=true;rotate_left
    ·rw[if_neg D];have T:reqB S c k=false:=by rw[a3];simp[D]
     obtain⟨n,Z,R,E,X,P,Q⟩:=I;refine go ?_;refine AP (out:=[iV (k:Int),iV 1]) rfl U (by rw[made2];rfl) (fun V3 l=>?_);have o:=(q.trans d).trans l.E;have a6:=o.size;refine Ap (ok:=AV) (v:=v) rfl rfl (Ae R (Ext.trans d l.E)) (Aa (l.own (n:=1) (size:=2) rfl D3 (Nat.le_refl _)) fun _ _=>trivial) U rfl rfl (AW rfl) U U U (fun v8 w8 m=>?_);have t:∀y∈v.ownBlock.toList,w4.heap.size<=y:=fun y F=>(Ad R (Option.mem_toList.1 F)).1;refine go ?_;refine⟨(k+1,v8),⟨rfl,ag,⟨by simp only;omega,(e4.trans o).E m.E (fun y F=>by have:=t y F;omega),o.E m.E (fun y F=>by have:=t y F;omega),?_⟩⟩,by simp only;omega⟩;refine FltA.push E X Q m.own U (fun h=>?_);have:=h k U;rw[T]at this;cases this
    ·rw[if_pos D];refine go ?_;exact⟨1,⟨rfl,ag,⟨by omega,d,fun _=>D,by omega,by omega⟩⟩,by omega⟩
   ·have a1:Cells V g 1 [rulV 91 [pt B,pt b]]:=fun i u z=>by
     obtain⟨rfl,rfl⟩:i=0/\u=rulV 91 [pt B,pt b]:=by
      cases i with
      |zero=>exact⟨rfl,by simpa using z.symm⟩
      |succ i=>simp at z
     exact(a4.E K O).cell rfl
    refine go ?_;refine AQ (L:=[rulV 91 [pt B,pt b]]) rfl rfl a1 ?_;refine AS (L:=[.nilFunc]) (fun V1 A=>?_);refine AH (cs:=[rulV 91 [pt B,pt b]]) rfl rfl rfl (AW rfl) A.D O (fun f X=>?_);have a2:Ext V f:=A.E.E X.E O;have bq:Blk f V.heap.size 112 [rulV 91 [pt B,pt b]]:=X.D;have d:=K.trans a2;have p:=N.trans d;have a0:=a5.E d O;have bV:=bW.E d O;refine go ?_;refine Az (v1:=[]) (v2:=[pt B,pt b]) (vs:=[iV (k:Int)]) rfl (rule2_ok f b w.heap.size B _ G H c k x hx a0 bV (M.ext p) (a7 f d) U) rfl ?_;rintro _ V4⟨rfl,a⟩;have C:=d.trans a;by_cases D:nmI c x.name=some k
    ·rw[if_pos D];refine go ?_;exact⟨2,⟨rfl,ag,⟨by omega,C,fun _=>h1 U,fun _=>D,by omega⟩⟩,by omega⟩
    ·rw[if_neg D];have T:reqB S c k=false:=by rw[a3];simp[D]
     obtain⟨n,Z,R,E,X,P,Q⟩:=I;refine go ?_;refine AP (out:=[iV (k:Int),iV 4]) rfl U (by rw[made2];rfl) (fun V3 l=>?_);have o:=(q.trans C).trans l.E;have a6:=o.size;refine Ap (ok:=AV) (v:=v) rfl rfl (Ae R (Ext.trans C l.E)) (Aa (l.own (n:=1) (size:=2) rfl D3 (Nat.le_refl _)) fun _ _=>trivial) U rfl rfl (AW rfl) U U U (fun v8 w8 m=>?_);have t:∀y∈v.ownBlock.toList,w4.heap.size<=y:=fun y F=>(Ad R (Option.mem_toList.1 F)).1;refine go ?_;refine⟨(k+1,v8),⟨rfl,ag,⟨by simp only;omega,(e4.trans o).E m.E (fun y F=>by have:=t y F;omega),o.E m.E (fun y F=>by have:=t y F;omega),?_⟩⟩,by simp only;omega⟩;refine FltA.push E X Q m.own U (fun h=>?_);have:=h k U;rw[T]at this;cases this
   ·have a1:Cells V g 2 [rulV 92 [pt b]]:=fun i u z=>by
     obtain⟨rfl,rfl⟩:i=0/\u=rulV 92 [pt b]:=by
      cases i with
      |zero=>exact⟨rfl,by simpa using z.symm⟩
      |succ i=>simp at z
     exact(a4.E K O).cell rfl
    refine go ?_;refine AQ (L:=[rulV 92 [pt b]]) rfl rfl a1 ?_;refine AS (L:=[.nilFunc]) (fun V1 A=>?_);refine AH (cs:=[rulV 92 [pt b]]) rfl rfl rfl (AW rfl) A.D O (fun f X=>?_);have a2:Ext V f:=A.E.E X.E O;have bq:Blk f V.heap.size 112 [rulV 92 [pt b]]:=X.D;have d:=K.trans a2;have p:=N.trans d;have a0:=a5.E d O;have bV:=bW.E d O;refine go ?_;refine Az (v1:=[]) (v2:=[pt b]) (vs:=[iV (k:Int)]) rfl (rule3_ok f b w.heap.size sa sc S G H c k x hx a0 bV (hS.ext p) (M.ext p) (hG.ext p) (hK.E p O) (Nat.le_trans hN p.size)) rfl ?_;rintro _ V4⟨e,rfl,a,he⟩;have C:=d.trans a;by_cases h0:e=0
    ·have hx3:=he.1 h0;subst h0;refine go ?_;exact⟨3,⟨rfl,ag,⟨by omega,C,fun _=>h1 U,fun _=>h2 U,fun _=>hx3⟩⟩,by omega⟩
    ·have D:fmOk S x.formula=false:=by rw[<-Bool.not_eq_true,<-he];exact h0
     have T:reqB S c k=false:=by rw[a3];simp[D]
     obtain⟨n,Z,R,E,X,P,Q⟩:=I;refine go ?_;refine AP (out:=[iV (k:Int),iV e]) rfl U (by rw[made2];rfl) (fun V3 l=>?_);have o:=(q.trans C).trans l.E;have a6:=o.size;refine Ap (ok:=AV) (v:=v) rfl rfl (Ae R (Ext.trans C l.E)) (Aa (l.own (n:=1) (size:=2) rfl D3 (Nat.le_refl _)) fun _ _=>trivial) U rfl rfl (AW rfl) U U U (fun v8 w8 m=>?_);have t:∀y∈v.ownBlock.toList,w4.heap.size<=y:=fun y F=>(Ad R (Option.mem_toList.1 F)).1;refine go ?_;refine⟨(k+1,v8),⟨rfl,ag,⟨by simp only;omega,(e4.trans o).E m.E (fun y F=>by have:=t y F;omega),o.E m.E (fun y F=>by have:=t y F;omega),?_⟩⟩,by simp only;omega⟩;refine FltA.push E X Q m.own U (fun h=>?_);have:=h k U;rw[T]at this;cases this
  ·obtain rfl:j=3:=by omega
   have T:reqB S c k=true:=by rw[a3,h1 U,h3 U,h2 U];simp
   refine go ?_;obtain⟨n,Z,R,E,X,P,Q⟩:=I;refine⟨(k+1,v),⟨rfl,ag,⟨by simp only;omega,N.trans K,q.trans K,n,Z,Ae R K,by simp only;omega,X,?_,Q⟩⟩,by simp only;omega⟩;rw[P];refine⟨fun h i hi=>?_,fun h i hi=>h i (by simp only;omega)⟩;simp only at hi;by_cases a8:i=k
   ·rw[a8];exact T
   ·exact h i U
 ·obtain rfl:k=c.length:=by omega
  refine go ?_;obtain⟨n,Z,R,E,X,P,Q⟩:=I;refine AB rfl ⟨N,n,Z,Bl R e4.size,by omega,X,?_,Q⟩;rw[P];simp[chkB,hv];omega

theorem FAt.op0{ok:Nat->Prop}{w:World}{y I N M q:Value}{f:Fml}(h:FAt ok w (.agg [y,I,N,M,q].toArray) f):y=iV f.op:=by
 obtain⟨p,e,l,j,Q,a,E⟩:=h.form;simp only[Value.agg.injEq,List.toArray_eq_iff,List.cons.injEq,and_true]at e;exact e.1
theorem loose_op{f:Fml}(h:BA f=true):f.op≠0:=by
 obtain⟨_,_,Q⟩:=BG h;obtain⟨N,p,v,b,i⟩:=f;obtain⟨X,_,_,_⟩:=CZ Q;have S:=Bg X;simp only[Fml.op];omega
theorem con_cases(N:Int)(l:LF):Db N l=Ag\/(BA (Db N l)=true/\Db N l=Dr N (l.map As)/\∀x∈l,BA x=true):=by
 unfold Db;by_cases X:l.all BA=true
 ·rw[if_pos X];by_cases W:BA (Dr N (l.map As))=true
  ·rw[if_pos W];exact .inr ⟨W,rfl,by simpa using X⟩
  ·rw[if_neg W];exact .inl rfl
 ·rw[if_neg X];exact .inl rfl
theorem con_zero{N:Int}{l:LF}(h:(Db N l).op=0):Db N l=Ag:=by
 rcases con_cases N l with X|⟨X,_⟩
 ·exact X
 ·exact absurd h (loose_op X)
abbrev InS(w:World)(v:Value)(xs:List Int):Prop:=Sl AV w v xs.length (xs.map (.int .i64))
theorem InS.at{w:World}{a:Option Addr}{n c k:Nat}{xs:List Int}{x:Int}(h:InS w (.slice a n c) xs)(P:xs[k]?=some x):∃b o,a=some ⟨b,o,none⟩/\w.cell? ⟨b,o+k,none⟩=some (iV x):=by
 obtain⟨X,d,e,f,W,Q,z⟩:=h;cases e;have B:=(List.getElem?_eq_some_iff.1 P).1;obtain⟨b,o,rfl,_,V⟩:=z.resolve_left U;exact⟨b,o,rfl,V k _ (by rw[List.getElem?_map,P];rfl)⟩
theorem InS.len{w:World}{a:Option Addr}{n c:Nat}{xs:List Int}(h:InS w (.slice a n c) xs):n=xs.length/\n<=9223372036854775807:=by
 obtain⟨X,b,e,d,W,Q,z⟩:=h;cases e;exact⟨rfl,by omega⟩
def LasG(w:World)(c:LV)(D h:List Int):Prop:=∃L K V S,c=[.slice L D.length K,.slice V h.length S]/\InS w (.slice L D.length K) D/\InS w (.slice V h.length S) h
theorem LasG.E{X:List Nat}{w w':World}{c:LV}{D a:List Int}(h:LasG w c D a)(k:Ext w w'):LasG w' c D a:=by
 obtain⟨L,K,V,S,e,b,W⟩:=h;exact⟨L,K,V,S,e,b.ext k,W.ext k⟩
theorem LasG.ext{w w':World}{c:LV}{D a:List Int}(h:LasG w c D a)(k:Ext w w'):LasG w' c D a:=h.E (X:=[]) k
theorem gbelow_ok(w:World)(a:Option Addr)(c:Nat)(xs:List Int)(n:Int)(h:InS w (.slice a xs.length c) xs)(T:∀x∈xs,0<=x/\x<n):Fn Zp 172 [.slice a xs.length c,iV n] w fun u w'=>u=.bool true/\w'=w:=by
 obtain⟨_,M⟩:=h.len;refine AG Tryz.func172 rfl Tryz.ntmps172 (go ?_);refine Ah (α:=Nat) (fun k=>[(1,iV n),(7,.slice a xs.length c),(8,iV (xs.length:Int)),(9,iV (k:Int))]) (fun k W=>k<=xs.length/\W=w) (fun k=>xs.length-k) 0 ag ⟨by omega,rfl⟩ ?_;rintro k W Z⟨P,rfl⟩;refine go ?_;by_cases B:k<xs.length
 ·obtain⟨x,e⟩:=gl B;obtain⟨b,o,rfl,V⟩:=h.at e;have:=T x (List.mem_of_getElem? e);refine go ?_;exact⟨k+1,⟨rfl,ag,by omega,rfl⟩,by omega⟩
 ·exact El
theorem gformed_ok(w:World)(c:LV)(D a:List Int)(h:LasG w c D a)(d:D.length<=60)(X:1<=a.length)(W:a.length<=40)(T:∀x∈D,0<=x/\x<64)(F:∀x∈a,0<=x/\x<64):Fn Zp 171 [.agg c.toArray] w fun u w'=>u=.bool true/\Ext w w':=by
 obtain⟨b,K,V,S,rfl,t,C⟩:=h;refine AG Tryz.func171 rfl Tryz.ntmps171 (go ?_);refine Ai (L:=[.slice b D.length K,.slice V a.length S]) rfl (fun R E=>go ?_);refine AE (gbelow_ok R b K D 64 (t.ext E.E) T) rfl ?_;rintro _ _⟨rfl,rfl⟩;refine go ?_;refine AE (gbelow_ok _ V S a 64 (C.ext E.E) F) rfl ?_;rintro _ _⟨rfl,rfl⟩;exact Fa
theorem gvalid_ok(w:World)(c:LV)(D a:List Int)(n:Int)(h:LasG w c D a)(d:D.length<=60)(X:1<=a.length)(W:a.length<=40)(G:n<=64)(T:∀x∈D,0<=x/\x<n)(F:∀x∈a,0<=x/\x<n):Fn Zp 120 [iV n,.agg c.toArray] w fun u w'=>u=.bool true/\Ext w w':=by
 have s:=h;obtain⟨b,K,V,S,rfl,t,C⟩:=h;refine AG Tryz.func120 rfl Tryz.ntmps120 (go ?_);refine Ai (L:=[.slice b D.length K,.slice V a.length S]) rfl (fun R E=>go ?_);refine AE (gformed_ok R _ D a (s.ext E.E) d X W (fun x h=>by have:=T x h;omega) (fun x h=>by have:=F x h;omega)) rfl ?_;rintro _ e⟨rfl,l⟩;refine go ?_;refine AE (gbelow_ok e b K D n (t.ext mKp) T) rfl ?_;rintro _ _⟨rfl,rfl⟩;refine go ?_;refine AE (gbelow_ok _ V S a n (C.ext mKp) F) rfl ?_;rintro _ _⟨rfl,rfl⟩;refine go ?_;exact AB rfl ⟨rfl,mKp⟩
theorem gpick_ok(w:World)(c:LV)(D a:List Int)(i:Nat)(x:Int)(h:LasG w c D a)(T:(D++a)[i]?=some x)(l:D.length+a.length<=1000):Fn Zp 278 [.agg c.toArray,iV i] w fun u w'=>u=iV x/\Ext w w':=by
 obtain⟨j,K,k,S,rfl,t,C⟩:=h;refine AG Tryz.func278 rfl Tryz.ntmps278 (go ?_);refine Ai (L:=[.slice j D.length K,.slice k a.length S]) rfl (fun R E=>?_);have f:=E.E;have m:=E.D;refine go ?_;by_cases B:i<D.length
 ·rw[List.getElem?_append_left B]at T;obtain⟨b,o,rfl,d⟩:=InS.at (t.ext f) T;exact FA
 ·rw[List.getElem?_append_right U]at T;obtain⟨b,o,rfl,d⟩:=InS.at (C.ext f) T;have M:=(List.getElem?_eq_some_iff.1 T).1;refine go ?_;refine AX (rd 0 14 .done) An Dv (fun H I G=>⟨Ext H,?_,?_⟩)
  ·exact Ew
  have g:=f.trans I
  have y:((i:Int)-(D.length:Int))%(a.length:Int)=((i-D.length:Nat):Int):=by
   rw[<-Int.ofNat_sub U];exact Int.emod_eq_of_lt U U
  have n:∀V,Ext H V->V.cell? ⟨w.heap.size,0+1,none⟩=some (.slice (some ⟨b,o,none⟩) a.length S):=fun V e=>(I.trans e).cell (m.cell rfl) O;have N:∀V,Ext H V->V.cell? ⟨w.heap.size,0+0,none⟩=some (.slice j D.length K):=fun V e=>(I.trans e).cell (m.cell rfl) O;have p:∀V,Ext H V->V.cell? ⟨b,o+(i-D.length),none⟩=some (iV x):=fun V e=>(I.trans e).cell d O;refine go ?_;exact AB rfl ⟨rfl,g⟩
theorem greader_ok(w:World)(c:LV)(V:c.length=2)(X:oneC c):Fn Zp 256 [.agg c.toArray] w fun u w'=>u=.func (.func 277) #[] #[pt w.heap.size,pt (w.heap.size+1)]/\Ext w w'/\Blk w' w.heap.size 26 c/\Blk w' (w.heap.size+1) 3 [iV 0]:=by
 refine AG Tryz.func256 rfl Tryz.ntmps256 (go ?_);refine Ai (L:=c) rfl (fun R E=>go ?_);refine AS (fun d N=>?_);refine AR (v:=iV 0) rfl rfl rfl N.D O (fun b K=>go ?_);have a:=E.size;have g:Ext R b:=N.E.E K.E O;refine AB rfl ⟨?_,E.E.trans g,E.D.E g O,?_⟩
 ·rw[<-a];rfl
 ·rw[<-a];exact K.D
def atN(D n i:Nat):Nat:=if i+1=n then D else i+1
theorem gread_ok(w:World)(a b:Nat)(c:LV)(D d:List Int)(i:Nat)(x:Int)(h:LasG w c D d)(T:(D++d)[i]?=some x)(o:D.length+d.length<=1000)(I:Blk w a 26 c)(S:Blk w b 3 [iV (i:Int)]):
  Fn Zp 277 [pt a,pt b] w fun u w'=>u=iV x/\Keep [b] w w'/\Blk w' b 3 [iV (atN D.length (D.length+d.length) i:Int)]:=by
 have s:=h;obtain⟨r,y,V,q,rfl,t,C⟩:=h;have m:a≠b:=fun e=>by subst e;have:=I.symm.trans S;simp at this
 have n:=(List.getElem?_eq_some_iff.1 T).1;rw[List.length_append]at n;refine AG Tryz.func277 rfl Tryz.ntmps277 (go ?_);refine AE (gpick_ok w _ D d i x s T o) rfl ?_;rintro _ R⟨rfl,f⟩;have k:=I.E f O;have g:=S.E f O;refine go ?_;refine AR (v:=iV ((i:Int)+1)) rfl rfl rfl g O (fun L j=>?_);have p:=k.E j.E (by simp[m]);have z:Blk L b 3 [iV ((i:Int)+1)]:=j.D;have l:Keep [b] w L:=f.any.trans j.E (fun x T _=>T);refine go ?_;by_cases F:i+1=D.length+d.length
 ·refine go ?_;refine AR (v:=iV (D.length:Int)) rfl rfl rfl z O (fun A K=>go ?_);refine AB rfl ⟨rfl,l.trans K.E (fun x T _=>T),?_⟩;rw[atN,if_pos F];exact K.D
 ·refine go ?_;refine AB rfl ⟨rfl,l,?_⟩;rw[atN,if_neg F];exact z
structure LetG(yv:Value)(X:List Nat)(B cn:Nat)(xs:List Int)(J:Nat->World->Prop)(D:World->Prop):Prop where
 fn:∃y,yv=.func (.yield y) #[] #[]
 E:∀{k:Nat}{W W':World}{Y:List Nat},J k W->Keep Y W W'->(∀y∈Y,y=cn)->J k W'
 s0:∀{k:Nat}{x:Int}{W:World},xs[k]?=some x->k+1<xs.length->J k W->cn<W.heap.size->YldP Zp yv [iV x] W (fun v W'=>v=.bool true/\(∃Y,Keep Y W W'/\∀y∈Y,y∈X\/cn<y)/\J (k+1) W') (fun _ _=>False)
 s1:∀{k:Nat}{x:Int}{W:World},xs[k]?=some x->k+1=xs.length->J k W->YldP Zp yv [iV x] W (fun v W'=>v=.bool false/\D W') (fun _ _=>False)
theorem glettersIt_ok{L:Value}{X:List Nat}{e:Nat->World->Prop}{D:World->Prop}(w:World)(F:Nat)(c:LV)(d a:List Int)(H:LetG L X w.heap.size (w.heap.size+1) (d++a) e D)(a0:Blk w F 26 c)(M:LasG w c d a)(t:∀W,Keep X w W->LasG W c d a)(C:d.length+a.length<=1000)(Q:1<=d.length+a.length)
  (v:e 0 w)(i:∀x∈X,x<w.heap.size):Fn Zp 255 [L,pt F] w fun _ w'=>D w':=by
 obtain⟨y,rfl⟩:=H.fn;have a1:=M;obtain⟨G,K,E,S,rfl,a3,a2⟩:=M;refine AG Tryz.func255 rfl Tryz.ntmps255 (go ?_);refine AE (greader_ok w _ rfl (AW rfl)) rfl ?_;rintro _ w1⟨rfl,f,r,m⟩;refine go ?_;refine Ah (α:=Nat) (fun k=>[(0,.func (.yield y) #[] #[]),(3,.func (.func 277) #[] #[pt w.heap.size,pt (w.heap.size+1)])]) (fun k W=>k<d.length+a.length/\Keep X w W/\Blk W w.heap.size 26 [.slice G d.length K,.slice E a.length S]/\Blk W (w.heap.size+1) 3 [iV (k:Int)]/\e k W) (fun k=>d.length+a.length-k) 0 ag ⟨by omega,f.any,r,m,H.E v f O⟩ ?_;rintro k W Z⟨P,V,s,u,A⟩;refine go ?_;obtain⟨x,T⟩:=gl (l:=d++a) (k:=k) (by rw[List.length_append];exact P);refine Az (v1:=[]) (v2:=[pt w.heap.size,pt (w.heap.size+1)]) (vs:=[]) rfl (gread_ok W _ _ _ d a k x (t W V) T C s u) rfl ?_;rintro _ W1⟨rfl,q,p⟩;have I:=H.E A q O;have o:=s.E q O;have R:Keep X w W1:=V.trans q (fun x T h=>by simp at T;omega);by_cases B:k+1<d.length+a.length
 ·rw[atN,if_neg U]at p;refine W_yield rfl rfl (H.s0 T (by rw[List.length_append];exact B) I p.lt) ?_;rintro _ j⟨rfl,⟨N,g,n⟩,z⟩;refine go ?_;exact⟨k+1,⟨rfl,ag,⟨by omega,R.trans g (fun x T h=>(n x T).resolve_right U),o.E g (fun h=>by rcases n _ h with h|h;have:=i _ h;omega;omega),p.E g (fun h=>by rcases n _ h with h|h;have:=i _ h;omega;omega),z⟩⟩,by omega⟩
 ·refine W_yield rfl rfl (H.s1 T (by rw[List.length_append];omega) I) ?_;rintro _ j⟨rfl,b⟩;refine go ?_;exact BF rfl b
theorem gletters_ok(w:World)(c:LV)(V:c.length=2)(X:oneC c):Fn Zp 201 [.agg c.toArray] w fun v w'=>v=.func (.func 255) #[] #[pt w.heap.size]/\New w w' 26 c:=by
 refine AG Tryz.func201 rfl Tryz.ntmps201 (go ?_);refine Ai (L:=c) rfl (fun R E=>go ?_);exact AB rfl ⟨rfl,E⟩
set_option maxHeartbeats 1000000 in
theorem gprefix_ok(w:World)(c:LV)(m i:List Int)(N:Int)(h:LasG w c m i)(hs:m.length<=60)(h1:1<=i.length)(h2:i.length<=40)(T:∀x∈m,0<=x/\x<64)(F:∀x∈i,0<=x/\x<64)(hN:N=((m.length+i.length:Nat):Int)):
  Fn Zp 173 [.agg c.toArray,iV N] w fun u w'=>w'.ownsRow w.heap.size 3 1 u (m.length+i.length) ((m++i).map (.int .i64))/\Ext w w':=by
 subst hN;have h0:=h;have a1:c.length=2/\oneC c:=by obtain⟨sa,sc,la,lc,rfl,_,_⟩:=h;exact⟨rfl,AW rfl⟩
 obtain⟨n,hn⟩:∃n,n=m.length+i.length:=⟨_,rfl⟩;have hxn:(m++i).length=n:=by rw[List.length_append,hn]
 have hnb:1<=n/\n<=100:=by omega
 rw[<-hn];refine DB Tryz.func173 rfl Tryz.ntmps173 nlr Dv (go ?_);refine Ai (L:=c) rfl (fun w1 n1=>?_);refine Ai (L:=[iV (n:Int)]) rfl (fun w2 n2=>?_);have z1:=n1.size;have z2:=n2.size;have b1:=n1.D.E n2.E O;have b2:=n2.D;have k2:Ext w w2:=n1.E.trans n2.E;refine go ?_;refine Bp rfl b1 a1.1 (go ?_);refine(AE (gformed_ok w2 c m i (h0.ext k2) hs h1 h2 T F) rfl ?_);rintro _ w3⟨rfl,k3⟩;refine go ?_;have b8:=b1.E k3 O;have c0:=b2.E k3 O;have e3:=k2.trans k3;refine W_make0 (n:=n) rfl rfl rfl rfl rfl U U (fun w4 n4 o4=>?_);refine AS (fun w5 n5=>?_);refine AR (v:=.slice (sm w3.heap.size) 0 n) rfl rfl rfl n5.D O (fun q p6=>go ?_);have z3:=e3.size;have z33:=k3.size;have z4:=n4.size;have z5:=n5.size;have z6:=p6.size;have k46:Ext w4 q:=n5.E.E p6.E O;have a7:Ext w3 q:=n4.E.trans k46;have b9:=b8.E a7 O;have K:=c0.E a7 O;have j:Blk q w4.heap.size 24 [.slice (sm w3.heap.size) 0 n]:=p6.D;obtain⟨o,c5⟩:∃o,o=w4.heap.size:=⟨_,rfl⟩;rw[<-c5]at j⊢;have S:=Ae o4 k46;have e6:=e3.trans a7;refine Bp rfl b9 a1.1 (go ?_);refine AE (gletters_ok q c a1.1 a1.2) rfl ?_;rintro _ Q⟨rfl,E⟩;refine go ?_;have z7:=E.size;have b7:=E.D;replace S:=Ae S E.E;replace j:=j.E E.E O;replace K:=K.E E.E O;have e7:=e6.trans E.E;refine C_range [] [pt q.heap.size] rfl Dv fun Rdy c9 b6 p C k8 s8 m8 r8=>?_;replace b7:=b7.E k8 O;replace S:=Ae S k8;replace j:=j.E k8 O;replace K:=K.E k8 O;have e8:=e7.trans k8;obtain⟨d,c6⟩:∃d,d=w3.heap.size:=⟨_,rfl⟩;rw[<-c6]at j S;have lc5:o<p.heap.size:=j.lt;have hz8:p.heap.size=Q.heap.size+2:=s8;obtain⟨r,hLs⟩:∃r:LV,r=(m++i).map (.int .i64):=⟨_,rfl⟩;have d0:r.length=n:=by rw[hLs,List.length_map,hxn]
 obtain⟨V,B⟩:∃V:Nat->World->Prop,∀k W,V k W↔(∃v,Ext w W/\Blk W o 24 [v]/\Blk W w1.heap.size 3 [iV (n:Int)]/\W.ownsRow d 3 1 v k (r.take k)/\(∀g,v.ownBlock=some g->g=d\/p.heap.size+1<g)/\Rdy W/\W.heap[Q.heap.size]?=some (.deferred (some []))/\p.heap.size<=W.heap.size):=⟨_,fun _ _=>Iff.rfl⟩;obtain⟨D,hD⟩:∃D:World->Prop,∀W,D W↔(∃v,Ext w W/\Blk W o 24 [v]/\W.ownsRow d 3 1 v n r/\v.ownBlock≠some Q.heap.size/\v.ownBlock≠some (Q.heap.size+1)/\b6 (.exit 0) W/\W.heap[Q.heap.size]?=some (.deferred (some []))/\p.heap.size<=W.heap.size):=⟨_,fun _=>Iff.rfl⟩
 have a8:∀(k:Nat)(x:Int)(W:World),(m++i)[k]?=some x->V k W->(k+1<n->p.heap.size+1<W.heap.size)->YldP Zp (.func (.yield (Q.heap.size+1)) #[] #[]) [iV x] W
   (fun u l=>(k+1<n->u=.bool true/\(∃a9,Keep a9 W l/\∀y∈a9,y∈[o,d,Q.heap.size+1]\/p.heap.size+1<y)/\V (k+1) l)/\(k+1=n->u=.bool false/\D l)) (fun _ _=>False):=by
  intro k x W T z a5;obtain⟨v,j1,j2,M,R,j5,a2,a0,b3⟩:=(B _ _).1 z;have c7:=(List.getElem?_eq_some_iff.1 T).1;rw[hxn]at c7;have c3:r[k]?=some (iV x):=by rw[hLs,List.getElem?_map,T];rfl
  refine C.round a2 rfl (go ?_);refine⟨a2,fun W2 X e0 y2=>?_⟩;have P:∀{b},b∈v.ownBlock.toList->v.ownBlock=some b:=fun T=>Option.mem_toList.1 T;have a:∀{b},v.ownBlock=some b->b=d\/p.heap.size+1<b:=fun T=>j5 _ T;replace j2:=j2.E X Dw;replace M:=M.E X Dw;replace R:=Ac R X (fun g t h=>by simp at h;subst h;have:=a t;omega);replace a0:=(X.block _ U O).trans a0;have e2:=j1.E X Dw;have b0:∀g,v.ownBlock=some g->d<=g/\g<W2.heap.size:=fun g t=>Ad R t;refine go ?_;refine AP (out:=[iV x]) rfl U (by rw[madeInt];rfl) (fun W3 Z=>?_);have oz:=Z.own (n:=1) (size:=1) rfl D3 (Nat.le_refl _);have e1:=Z.size;refine Ap (ok:=AV) (v:=v) rfl rfl (Ae R Z.E) (Aa oz fun _ _=>trivial) U rfl rfl (AW rfl) U U U (fun I W4 a4=>?_);have A:=a4.E;have z4':=A.size;have c4:o∉v.ownBlock.toList:=fun h=>by have:=a (P h);omega
  refine AR (v:=I) rfl rfl (own_oneC' a4.own) ((j2.E Z.E O).E A c4) O (fun W5 s=>go ?_);have e4:=s.size;have b5:Blk W5 o 24 [I]:=s.D
  have hv4:∀g,I.ownBlock=some g->v.ownBlock=some g\/g=W3.heap.size:=fun g t=>by
   rcases a4.D with e|e
   ·exact .inl (e▸t)
   ·rw[e]at t;exact .inr (Option.some.inj t).symm
  have hq2:=X.size
  have a6:∀g,I.ownBlock=some g->g=d\/p.heap.size<=g:=fun g t=>by
   rcases hv4 g t with e|e
   ·have:=a e;omega
   ·omega
  have m6:I.ownBlock≠some o:=fun h=>by have:=a6 _ h;omega
  have m9:I.ownBlock≠some Q.heap.size:=fun h=>by have:=a6 _ h;omega
  have m7:I.ownBlock≠some (Q.heap.size+1):=fun h=>by have:=a6 _ h;omega
  have o5:=Ac a4.own s.E (fun g t h=>by simp at h;subst h;exact m6 t);have c1:=((M.E Z.E O).E A (fun h=>by have:=b0 _ (P h);omega)).E s.E Dw;have m5:=(s.E.block _ U Dw).trans ((A.block _ U (fun h=>by have:=a (P h);omega)).trans ((Z.E.block _ U O).trans a0));have y5:=C.bsy (C.bsy (C.bsy y2 Z.E O) A (fun h=>by have:=a (P h);omega)) s.E Dw;have e5:=((e2.trans Z.E).E A (fun y F=>by have:=b0 _ (P F);omega)).E s.E Dw;obtain⟨va,vc,rfl,_⟩:=own_ints o5;have c8:r.take k++[iV x]=r.take (k+1):=by rw[List.take_add_one,c3];rfl
  rw[c8]at o5;by_cases h0:k+1<n
  ·have hcn':=a5 h0;refine go ?_;have kk:Keep (o::d::(Q.heap.size+1)::v.ownBlock.toList) W W5:=(((X.mono (fun x T=>by simp at T;simp[T])).trans Z.E (fun x T=>by cases T)).trans A (fun x T _=>by simp only[List.mem_cons];exact .inr (.inr (.inr T)))).trans s.E (fun x T _=>by simp at T;simp[T]);refine Q_rnd y5 fun W6 f z6 y6=>⟨fun _=>⟨rfl,⟨_,kk.trans f (fun x T _=>by simp at T;simp[T]),fun y F=>?_⟩,(B _ _).2 ⟨_,e5.E f Dw,b5.E f Dw,c1.E f Dw,Ac o5 f (fun g t h=>by simp at h;subst h;exact m7 t),fun g t=>?_,y6,(f.block _ U O).trans m5,by omega⟩⟩,fun h=>absurd h U⟩
   ·simp only[List.mem_cons,List.not_mem_nil,or_false]at F⊢;rcases F with h|h|h|h
    ·exact .inl (.inl h)
    ·exact .inl (.inr (.inl h))
    ·exact .inl (.inr (.inr h))
    ·rcases a (P h)with h|h
     ·exact .inl (.inr (.inl h))
     ·exact .inr h
   ·rcases hv4 g t with e|e
    ·exact a e
    ·right;omega
  ·obtain rfl:n=k+1:=by omega
   refine go ?_;rw[List.take_of_length_le U]at o5;refine Q_rnd_exit y5 fun W6 f z6 y6=>⟨(fun h=>absurd h U),fun _=>⟨rfl,(hD _).2 ⟨_,e5.E f Dw,b5.E f Dw,Ac o5 f (fun g t h=>by simp at h;subst h;exact m7 t),m9,m7,y6,(f.block _ U O).trans m5,by omega⟩⟩⟩
 have H:LetG (.func (.yield (Q.heap.size+1)) #[] #[]) [o,d,Q.heap.size+1] p.heap.size (p.heap.size+1) (m++i) V D:=by
  refine⟨⟨_,rfl⟩,fun z k G=>?_,fun{k x W}T hk z a5=>?_,fun{k x W}T hk z=>?_⟩
  ·obtain⟨v,j1,j2,M,R,j5,a2,a0,b3⟩:=(B _ _).1 z;exact(B _ _).2 ⟨v,j1.E k (fun x T=>by have:=G x T;omega),j2.E k (fun h=>by have:=G _ h;omega),M.E k (fun h=>by have:=G _ h;omega),Ac R k (fun g t h=>by have:=G _ h;have:=j5 _ t;omega),j5,C.rdy a2 k (fun h=>by have:=G _ h;omega),(k.block _ U (fun h=>by have:=G _ h;omega)).trans a0,Nat.le_trans b3 k.size⟩
  ·exact YldP.mono (a8 k x W T z fun _=>a5) (fun v l h=>h.1 U) (fun _ _ h=>h)
  ·exact YldP.mono (a8 k x W T z (fun h=>absurd h U)) (fun v l h=>h.2 U) (fun _ _ h=>h)
 refine Fn.mono (glettersIt_ok p q.heap.size c m i H b7 (h0.ext e8) (fun W kW=>h0.ext (e8.E kW (fun y F=>by simp at F;omega))) U U ((B _ _).2 ⟨_,e8,j,K,S,(fun g t=>by have e:=Option.some.inj t;simp only at e;omega),r8,m8,Nat.le_refl _⟩) (fun x T=>by simp at T;omega)) ?_;rintro _ w9 hd;obtain⟨v,d1,d2,d3,d4,d5,d6,d7,d8⟩:=(hD _).1 hd;refine .inr ⟨_,d6,fun w10 a3 s10=>?_⟩;unfold behind;clear B H C a8 r8 m8 b7;replace d2:=d2.E a3 Dw;replace d3:=Ac d3 a3 (fun g t h=>by simp at h;subst h;exact d5 t);replace d7:=(a3.block _ U O).trans d7;have c2:=d1.E a3 Dw;obtain⟨va,vc,rfl,_⟩:=own_ints d3;refine go ?_;refine B0 d7 fun d9 b4 s11=>?_;refine finD_ret1 rfl ⟨?_,c2.E b4 Dw⟩;rw[<-hLs];exact Bl (Ac d3 b4 (fun g t h=>by simp at h;subst h;exact d4 t)) U
noncomputable def tv (p:Prop):Bool:=@decide p (Classical.propDecidable p)
theorem tv_iff{p:Prop}:tv p=true↔p:=by unfold tv;exact @decide_eq_true_iff p (Classical.propDecidable p)
theorem Co{p q:Prop}(h:p↔q):tv p=tv q:=by rw[propext h]
theorem tv_eq{p:Prop}{b:Bool}(h:b=true↔p):b=tv p:=by
 cases b with
 |true=>exact(tv_iff.2 (h.1 rfl)).symm
 |false=>cases hp:tv p with
  |true=>exact h.2 (tv_iff.1 hp)
  |false=>rfl
theorem tv_not(p:Prop):(!tv p)=tv (¬p):=tv_eq (by rw[Bool.not_eq_true',<-Bool.not_eq_true,tv_iff])
theorem tv_and(p q:Prop):(tv p&&tv q)=tv (p/\q):=tv_eq (by rw[Bool.and_eq_true,tv_iff,tv_iff])
theorem tv_or(p q:Prop):(tv p||tv q)=tv (p\/q):=tv_eq (by rw[Bool.or_eq_true,tv_iff,tv_iff])
def plcN(N B k:Nat):Nat:=if k<N then k else B
def inU(P Q:Nat->Prop)(N t:Nat):Prop:=∃k,t<=k/\k<N/\Q k/\∀j,t<=j->j<k->P j
theorem inU_step(P Q:Nat->Prop){N t:Nat}(h:t+1<N):inU P Q N t↔Q t\/P t/\inU P Q N (t+1):=by
 constructor
 ·rintro⟨k,X,W,c,z⟩;by_cases e:k=t
  ·subst e;exact .inl c
  ·exact .inr ⟨z t (Nat.le_refl _) U,k,by omega,W,c,fun j a b=>z j U b⟩
 ·rintro(w|⟨w,k,X,W,c,z⟩)
  ·exact⟨t,Nat.le_refl _,by omega,w,fun j a b=>by omega⟩
  ·refine⟨k,by omega,W,c,fun j a b=>?_⟩;by_cases e:j=t
   ·subst e;exact w
   ·exact z j U b
theorem inU_last(P Q:Nat->Prop){N t:Nat}(h:t+1=N):inU P Q N t↔Q t:=by
 constructor
 ·rintro⟨k,X,W,c,_⟩;obtain rfl:k=t:=by omega
  exact c
 ·intro T;exact⟨t,Nat.le_refl _,by omega,T,fun j a b=>by omega⟩
theorem until_in{P Q:Nat->Prop}{B p:Nat}(f:1<=p)(e:Per B p P)(M:Per B p Q):CX P Q B↔inU P Q (B+p) B:=by
 constructor
 ·rintro⟨k,X,W,c⟩
  induction k using Nat.strongRecOn with
  |_ k ih=>
  by_cases d:k<B+p
  ·exact⟨k,X,d,W,c⟩
  ·refine ih (k-p) U U ?_ fun j a b=>c j a U;have:=M (k-p) U;rw[<-this,show k-p+p=k by omega];exact W
 ·rintro⟨k,X,_,W,c⟩;exact⟨k,X,W,c⟩
noncomputable def stU (P Q:Nat->Prop) (N i t:Nat):Bool:=if i<=N then(if N<=t+i then tv (inU P Q N t)else false)else if 2*N<=t+i then tv (CX P Q t)else tv (inU P Q N t)
theorem stU_lo{P Q:Nat->Prop}{N i t:Nat}(h:i<=N):stU P Q N i t=if N<=t+i then tv (inU P Q N t)else false:=if_pos h
theorem stU_hi{P Q:Nat->Prop}{N i t:Nat}(h:N<=i)(a:t<N):stU P Q N i t=if 2*N<=t+i then tv (CX P Q t)else tv (inU P Q N t):=by
 by_cases F:i=N
 ·subst F;rw[stU_lo (Nat.le_refl _),if_pos U,if_neg U]
 ·exact if_neg U
theorem stU_step{P Q:Nat->Prop}{B p N i:Nat}(c:1<=p)(e:N=B+p)(a:Per B p P)(b:Per B p Q)(H:i<2*N)(x:Nat)(T:x<N):
  stU P Q N (i+1) x=if x=N-1-i%N then(tv (Q x)||tv (P x)&&stU P Q N i (plcN N B (x+1)))else stU P Q N i x:=by
 have R:CX P Q N↔inU P Q N B:=by
  rw[e,<-until_in c a b];exact Iff.of_eq (until_per a b B (Nat.le_refl _))
 by_cases X:i<N
 ·rw[Nat.mod_eq_of_lt X,stU_lo (i:=i+1) U];by_cases I:x=N-1-i
  ·rw[if_pos I,if_pos (show N<=x+(i+1) by omega),stU_lo U];by_cases M:x+1<N
   ·rw[plcN,if_pos M,if_pos (show N<=x+1+i by omega),tv_and,tv_or];exact Co (inU_step P Q M)
   ·rw[plcN,if_neg M,if_neg (show¬N<=B+i by omega),Bool.and_false,Bool.or_false];exact Co (inU_last P Q U)
  ·rw[if_neg I,stU_lo U];by_cases W:N<=x+i
   ·rw[if_pos (show N<=x+(i+1) by omega),if_pos W]
   ·rw[if_neg (show¬N<=x+(i+1) by omega),if_neg W]
 ·have y:i%N=i-N:=by rw[Nat.mod_eq_sub_mod U,Nat.mod_eq_of_lt U]
  rw[y,stU_hi (i:=i+1) U T];by_cases I:x=N-1-(i-N)
  ·rw[if_pos I,if_pos (show 2*N<=x+(i+1) by omega)];by_cases M:x+1<N
   ·rw[plcN,if_pos M,stU_hi U M,if_pos (show 2*N<=x+1+i by omega),tv_and,tv_or];exact Co (until_step P Q x)
   ·rw[plcN,if_neg M,stU_lo (show i<=N by omega),if_pos (show N<=B+i by omega),tv_and,tv_or];refine Co ?_;rw[until_step,show x+1=N by omega,R]
  ·rw[if_neg I,stU_hi U T];by_cases W:2*N<=x+i
   ·rw[if_pos (show 2*N<=x+(i+1) by omega),if_pos W]
   ·rw[if_neg (show¬2*N<=x+(i+1) by omega),if_neg W]
theorem stU_zero(P Q:Nat->Prop){N t:Nat}(a:t<N):stU P Q N 0 t=false:=by
 unfold stU;rw[if_pos U,if_neg U]
theorem stU_end(P Q:Nat->Prop){N t:Nat}(h:1<=N):stU P Q N (2*N) t=tv (CX P Q t):=by
 unfold stU;rw[if_neg U,if_pos U]
noncomputable def stR (P Q:Nat->Prop) (N i t:Nat):Bool:= !stU (fun t=>¬P t) (fun t=>¬Q t) N i t
theorem stR_step{P Q:Nat->Prop}{B p N i:Nat}(b:1<=p)(e:N=B+p)(a:Per B p P)(M:Per B p Q)(H:i<2*N)(x:Nat)(T:x<N):
  stR P Q N (i+1) x=if x=N-1-i%N then(tv (Q x)&&(tv (P x)||stR P Q N i (plcN N B (x+1))))else stR P Q N i x:=by
 unfold stR;rw[stU_step b e (not_per a) (not_per M) H x T]
 split
 ·rw[<-tv_not,<-tv_not];cases tv (Q x)<;>cases tv (P x)<;>simp
 ·rfl
theorem stR_zero(P Q:Nat->Prop){N t:Nat}(a:t<N):stR P Q N 0 t=true:=by rw[stR,stU_zero _ _ a];rfl
theorem stR_end(P Q:Nat->Prop){N t:Nat}(h:1<=N):stR P Q N (2*N) t=tv (relS P Q t):=by
 rw[stR,stU_end _ _ h,tv_not];exact Co (rel_not P Q t).symm
theorem nest_le:∀f:Fml,DU f<=szF f
 | .mk op nm v b args=>by
  have:=nestL_le args;rw[DU,szF];split<;>omega
where nestL_le:∀l:LF,nestL l<=szL l
 | []=>by simp[nestL]
 |a::l=>by have:=nest_le a;have:=nestL_le l;rw[nestL,szL];omega
theorem nestL_take{l:LF}{k:Nat}{x:Fml}(h:l[k]?=some x):nestL (l.take (k+1))=max (nestL (l.take k)) (DU x):=by
 induction l generalizing k with
 |nil=>cases h
 |cons a l ih=>
  cases k with
  |zero=>cases h;simp[nestL]
  |succ k=>simp only[List.take_succ_cons,nestL,ih EC];omega
set_option maxHeartbeats 1000000 in
theorem gnested_ok:∀(n:Nat)(w:World)(b o:Nat)(f:Fml),dpF f<=n->szF f<=1000000->PF AV w b o f->Fn Zp 174 [.pointer (some ⟨b,o,none⟩)] w fun u w'=>u=iV (DU f:Int)/\Ext w w':=by
 intro n
 induction n with
 |zero=>intro w b o f G;rw[BQ]at G;omega
 |succ n ih=>
 intro w b o f G q K;have c:DU f<=1000000:=Nat.le_trans (nest_le f) q;rw[BQ]at G;obtain⟨r,L,R,g,T,X,q3,Q,Z⟩:=K.all;obtain⟨N,p,v,m,i⟩:=f;simp only[Fml.op,Fml.name,Fml.val,Fml.args]at*
 rw[szF]at q
 have A:∀(k:Nat)(a:Fml),i[k]?=some a->∀W,Ext w W->∃j l,r=some ⟨j,l,none⟩/\Fn Zp 174 [.pointer (some ⟨j,l+k*5,none⟩)] W fun u w'=>u=iV (DU a:Int)/\Ext W w':=fun k a I W D=>by
  obtain⟨j,l,e,C⟩:=Z k a I;have z:=List.mem_of_getElem? I;have:=Bi z;have:=BO z;exact⟨j,l,e,ih W j _ a U U (C.E D (fun _ _=>by simp))⟩
 rw[DU]at c⊢;refine AG Tryz.func174 rfl Tryz.ntmps174 (go ?_);refine Ah (α:=Nat) (fun k=>[(0,.pointer (some ⟨b,o,none⟩)),(3,iV (nestL (i.take k):Int)),(9,iV (i.length:Int)),(10,iV (k:Int))]) (fun k W=>k<=i.length/\Ext w W) (fun k=>i.length-k) 0 ag ⟨by omega,Ext.refl _⟩ ?_;rintro k W M⟨P,V⟩;have a0:=V.cell Q O;have S:=V.cell g O;refine go ?_;by_cases B:k<i.length
 ·obtain⟨y,F⟩:=gl B;obtain⟨j,l,rfl,E⟩:=A k y F W V;refine go ?_;refine AE E rfl ?_;rintro _ w4⟨rfl,H⟩;refine W_max rfl rfl (go ?_);refine⟨k+1,⟨rfl,⟨rfl,?_,rfl,nk k,trivial⟩,⟨by omega,V.trans H⟩⟩,by omega⟩;show iV (max (nestL (i.take k):Int) (DU y:Int))=_;rw[nestL_take F];exact congrArg _ U
 ·obtain rfl:k=i.length:=by omega
  rw[List.take_length];refine go ?_;by_cases h:N=15
  ·rw[if_pos (.inl h)]at c⊢;exact Ft
  by_cases s:N=16
  ·rw[if_pos (.inr (.inl s))]at c⊢;exact Ft
  by_cases d:N=17
  ·rw[if_pos (.inr (.inr (.inl d)))]at c⊢;exact Ft
  by_cases t:N=18
  ·rw[if_pos (.inr (.inr (.inr (.inl t))))]at c⊢;exact Ft
  by_cases x:N=19
  ·rw[if_pos (.inr (.inr (.inr (.inr x))))]at c⊢;exact Ft
  rw[if_neg U]at c⊢;exact Ft
structure AxG(w:World)(t:Nat)(S:List Sgn)(xs:List Int)(m p B:Nat):Prop where
 len:xs.length=m+p/\1<=p/\m<=B/\B+p<=1000000
 D:∃sa sc lb lo lc,Blk w t 182 [.slice sa S.length sc,.slice (some ⟨lb,lo,none⟩) xs.length lc,iV (m:Int),iV (B:Int),iV ((B+p:Nat):Int)]/\SlAt sgnR AV w (.slice sa S.length sc) S/\
  ∀(k:Nat)(x:Int),xs[k]?=some x->∃g rc,w.cell? ⟨lb,lo+k,none⟩=some (.slice (sm g) S.length rc)/\∀i,i<S.length->w.cell? ⟨g,0+i,none⟩=some (iV (valS S x i))
theorem AxG.ext{w w':World}{t:Nat}{S:List Sgn}{xs:List Int}{m p B:Nat}(h:AxG w t S xs m p B)(k:Ext w w'):AxG w' t S xs m p B:=by
 obtain⟨M,L,K,r,e,a,X,W,Q⟩:=h;refine⟨M,L,K,r,e,a,X.E k O,W.ext k,fun j x z=>?_⟩;obtain⟨g,c,b,A⟩:=Q j x z;exact⟨g,c,k.cell b O,fun i H=>k.cell (A i H) O⟩
set_option maxHeartbeats 1000000 in
theorem gplace_ok(w:World)(t:Nat)(S:List Sgn)(xs:List Int)(m p B:Nat)(k:Nat)(h:AxG w t S xs m p B)(P:k<=B+p):Fn Zp 78 [pt t,iV (k:Int)] w fun u w'=>u=iV (plcN (B+p) B k:Int)/\Ext w w':=by
 obtain⟨⟨c,v,D,g⟩,L,K,r,f,d,a,_,_⟩:=h;refine AG Tryz.func78 rfl Tryz.ntmps78 (go ?_);unfold plcN;by_cases b:k<B+p
 ·rw[if_pos b];exact E8
 ·obtain rfl:k=B+p:=by omega
  rw[if_neg b];refine go ?_;refine AX (rd 0 22 .done) An Dv (fun H I G=>⟨Ext H,?_,?_⟩)
  ·exact Ew
  have j:∀V,Ext H V->V.cell? ⟨t,0+3,none⟩=some (iV (B:Int)):=fun V e=>(a.E (I.trans e) O).cell rfl;have i:∀V,Ext H V->V.cell? ⟨t,0+4,none⟩=some (iV ((B+p:Nat):Int)):=fun V e=>(a.E (I.trans e) O).cell rfl;have y:(((B+p:Nat):Int)-(B:Int))%(((B+p:Nat):Int)-(B:Int))=0:=Int.emod_self;refine go ?_;refine AB rfl ⟨?_,I⟩;show iV ((B:Int)+(((B+p:Nat):Int)-(B:Int))%(((B+p:Nat):Int)-(B:Int)))=_;rw[y,Int.add_zero]
def lixN(m p k:Nat):Nat:=if k<m+p then k else m+(k-m)%p
theorem lixN_lt{m p:Nat}(v:1<=p)(k:Nat):lixN m p k<m+p:=by
 unfold lixN
 split
 ·assumption
 ·have:=Nat.mod_lt (k-m) (show 0<p by omega);omega
set_option maxHeartbeats 1000000 in
theorem gvalue_ok(w:World)(t:Nat)(S:List Sgn)(xs:List Int)(m p B:Nat)(k i:Nat)(x:Int)(h:AxG w t S xs m p B)(P:k<=B+p)(T:xs[lixN m p k]?=some x)(d:i<S.length):Fn Zp 209 [pt t,iV (k:Int),iV (i:Int)] w fun u w'=>u=iV (valS S x i)/\Ext w w':=by
 obtain⟨⟨q,v,s,z⟩,L,K,r,l,j,a,_,f⟩:=h;obtain⟨g,F,b,D⟩:=f _ x T;have c:=D i d;have A:=lixN_lt (m:=m) v k;refine AG Tryz.func209 rfl Tryz.ntmps209 (go ?_);by_cases y:k<m+p
 ·have e:lixN m p k=k:=if_pos y;rw[e]at b;exact E8
 ·have e:lixN m p k=m+(k-m)%p:=if_neg y;refine go ?_;refine AX (rd 0 23 .done) An Dv (fun H I G=>⟨Ext H,?_,?_⟩)
  ·exact Ew
  have M:∀V,Ext H V->V.cell? ⟨t,0+1,none⟩=some (.slice (some ⟨r,l,none⟩) xs.length j):=fun V e=>(a.E (I.trans e) O).cell rfl;have N:∀V,Ext H V->V.cell? ⟨t,0+2,none⟩=some (iV (m:Int)):=fun V e=>(a.E (I.trans e) O).cell rfl
  have C:(m:Int)+((k:Int)-(m:Int))%((xs.length:Int)-(m:Int))=((lixN m p k:Nat):Int):=by
   rw[e,show(xs.length:Int)-(m:Int)=(p:Int) by omega,show(k:Int)-(m:Int)=((k-m:Nat):Int) by omega,<-Int.natCast_emod,<-Int.natCast_add]
  have E:0<=((k:Int)-(m:Int))%((xs.length:Int)-(m:Int)):=Int.emod_nonneg _ U;refine go ?_;have o:=a.E I O;have X:=I.cell b O;have n:=I.cell c O;refine go ?_;exact AB rfl ⟨rfl,I⟩
set_option maxHeartbeats 2000000 in
theorem gaxisOf_ok(w:World)(G:Option Addr)(H:Nat)(S:List Sgn)(b o:Nat)(f:Fml)(c:LV)(D a:List Int)(hS:SlAt sgnR AV w (.slice G S.length H) S)(hv:A5 S=true)(hf:PF AV w b o f)(hz:szF f<=10000)(hl:LasG w c D a)
  (hs:D.length<=60)(h1:1<=a.length)(h2:a.length<=40)(hp:∀x∈D,0<=x/\x<CQ S)(hq:∀x∈a,0<=x/\x<CQ S)(hK:KY w)(hN:10<=w.heap.size):
  Fn Zp 121 [.slice G S.length H,.pointer (some ⟨b,o,none⟩),.agg c.toArray] w fun u w'=>∃t,u=pt t/\Ext w w'/\AxG w' t S (D++a) D.length a.length (D.length+DU f*a.length):=by
 obtain⟨e5,e6⟩:=num_valid hv;have h6:S.length<=6:=(DP hv).2.1;have e7:=nest_le f;have e8:DU f*a.length<=10000*40:=Nat.mul_le_mul U h2;have c9:=hl;obtain⟨d8,d7,C,E,rfl,f0,hlp⟩:=hl;obtain⟨m,a0⟩:∃m,m=D++a:=⟨_,rfl⟩;have b9:m.length=D.length+a.length:=by rw[a0,List.length_append]
 have d5:∀x∈m,0<=x/\x<CQ S:=fun x T=>by
  rw[a0]at T;exact(List.mem_append.1 T).elim (hp x) (hq x)
 refine AG Tryz.func121 rfl Tryz.ntmps121 (go ?_);refine Ai (L:=[.slice d8 D.length d7,.slice C a.length E]) rfl (fun R n1=>?_);have b1:=n1.D;have z1:=n1.size;refine go ?_;refine Ai (L:=[.slice G S.length H,.slice none 0 0,iV (D.length:Int),iV 0,iV 0]) rfl (fun w2 n2=>?_);have z2:=n2.size;have c2:=b1.E n2.E O;have k2:Ext w w2:=n1.E.trans n2.E;refine go ?_;refine AE (gprefix_ok w2 _ D a _ (c9.ext k2) hs h1 h2 (fun x T=>by have:=hp x T;omega) (fun x T=>by have:=hq x T;omega) (Int.natCast_add _ _).symm) rfl ?_;rintro u Q⟨o3,k3⟩;rw[<-a0,<-b9]at o3;obtain⟨pa,c1,rfl,a3⟩:=own_ints o3;obtain⟨x0,a6⟩:=gl (l:=m) (k:=0) U;obtain⟨pg,a7,rfl,_⟩:=a3 0 (iV x0) (by rw[List.getElem?_map,a6];rfl);have e3:=k2.trans k3;have c3:=c2.E k3 O;have b0:=n2.D.E k3 O;have z3:=k3.size;have e9:w2.heap.size<=pg:=(Ad o3 rfl).1
 have c8:∀(k:Nat)(x:Int),m[k]?=some x->Q.cell? ⟨pg,a7+k,none⟩=some (iV x):=fun k x hk=>by
  obtain⟨g,o',e,h⟩:=a3 k (iV x) (by rw[List.getElem?_map,hk];rfl);cases e;exact h
 clear a3 o3;refine go ?_
 refine Ah (α:=Nat×Value×LV) (fun|(k,_,_)=>[(0,.slice G S.length H),(1,.pointer (some ⟨b,o,none⟩)),(5,pt w.heap.size),(7,pt R.heap.size),(26,.slice (some ⟨pg,a7,none⟩) m.length c1),(27,.int .i64 (m.length:Int)),(28,.int .i64 (k:Int))])
  (fun|(k,v,N),W=>k<=m.length/\Ext w W/\Keep [R.heap.size] Q W/\Blk W R.heap.size 182 [.slice G S.length H,v,.int .i64 (D.length:Int),.int .i64 0,.int .i64 0]/\W.ownsRow Q.heap.size 24 1 v k N/\RwsAt W Q.heap.size v.ownBlock N S (m.take k)) (fun|(k,_,_)=>m.length-k) (0,.slice none 0 0,[]) ag ⟨by omega,e3,Keep.refl _ _,b0,⟨rfl,.inl ⟨rfl,rfl⟩⟩,rfl,fun k u x h=>by cases h⟩ ?_
 rintro⟨k,v,N⟩W fr⟨hk,kW,a1,bW,q,B⟩;have zW:=a1.size;have lW:=bW.lt;have f1:=b0.lt;have z:∀g,v.ownBlock=some g->Q.heap.size<=g/\g<W.heap.size:=fun g p=>Ad q p;have a9:=c3.E a1 Dw;refine go ?_;by_cases d1:k<m.length
 ·obtain⟨x,T⟩:=gl d1;obtain⟨a6,d4⟩:=d5 x (List.mem_of_getElem? T);have d9:=a1.cell (c8 k x T) (fun h=>by simp at h;omega);refine go ?_;refine W_make1 (n:=S.length) rfl rfl rfl rfl rfl U U (fun wa na=>?_);have za:=na.size;have ka:=na.E;have e1:Ext w wa:=kW.trans ka;refine go ?_
  refine Ah (α:=Nat) (fun i=>[(0,.slice G S.length H),(1,.pointer (some ⟨b,o,none⟩)),(5,pt w.heap.size),(7,pt R.heap.size),(9,iV x),(10,.slice (sm W.heap.size) S.length S.length),(26,.slice (some ⟨pg,a7,none⟩) m.length c1),(27,iV (m.length:Int)),(28,iV (k:Int)),(36,iV (S.length:Int)),(37,iV (i:Int))])
   (fun i s=>i<=S.length/\Ext W s/\Blk s W.heap.size 3 (valsC S x i++List.replicate (S.length-i) (iV 0))) (fun i=>S.length-i) 0 ag ⟨by omega,ka,na.D⟩ ?_
  rintro i s fi⟨hi,A,bU⟩;refine go ?_;by_cases hil:i<S.length
  ·have eU:=kW.trans A;refine go ?_;refine AE (value_ok s _ S x i (hS.ext eU) (hK.E eU O) (Nat.le_trans hN eU.size) hv a6 d4 hil) rfl ?_;rintro _ U1⟨rfl,X⟩;have c4:=bU.E X O;refine go ?_;refine AR (v:=iV (valS S x i)) rfl rfl rfl c4 (by simp[valsC_len];omega) (fun U2 Z=>?_);refine go ?_;have bU2:=Z.D;rw[Nat.zero_add,set_fill _ _ _ _ _ (valsC_len S x i) hil,<-valsC_succ]at bU2;exact⟨i+1,⟨rfl,ag,⟨by omega,(A.trans X).E Z.E O,bU2⟩⟩,by omega⟩
  ·obtain rfl:i=S.length:=by omega
   rw[Nat.sub_self,List.replicate_zero,List.append_nil]at bU;have c5:=bW.E A O;have oU:=Ae q A;have zU:=A.size;have lU:=bU.lt;refine go ?_;refine CT (out:=[.slice (sm W.heap.size) S.length S.length]) rfl U rfl rfl (fun U1 m1=>?_);have oz:=m1.own (n:=1) (size:=1) rfl D3 (Nat.le_refl _);have y1:=m1.size;refine Ap (ok:=AV) (v:=v) rfl rfl (Ae oU m1.E) (Aa oz fun _ _=>trivial) U rfl rfl (AW rfl) U U U (fun v4 U2 M=>?_);have hm:∀{b},b∈v.ownBlock.toList->v.ownBlock=some b:=fun T=>Option.mem_toList.1 T;have d:=(c5.E m1.E O).E M.E (fun h=>by have:=z _ (hm h);omega);refine go ?_;refine AR (v:=v4) rfl rfl (own_oneC' M.own) d O (fun U3 K=>go ?_);have f2:=M.E.size;have f3:=K.size
   have a4:∀g,v4.ownBlock=some g->v.ownBlock=some g\/g=U1.heap.size:=fun g p=>by
    rcases M.D with e|e
    ·exact .inl (e▸p)
    ·rw[e]at p;exact .inr (Option.some.inj p).symm
   have kk:Ext s U1:=m1.E;have kb:∀{g:Nat}{L:LV},Blk s g 3 L->Q.heap.size<=g->v.ownBlock≠some g->Blk U3 g 3 L:=fun h p hn=>((h.E kk O).E M.E (fun h=>hn (hm h))).E K.E Dw;have b8:m.take (k+1)=m.take k++[x]:=by rw[List.take_add_one,T];rfl
   have b5:N.length=k:=by rw[B.1,List.length_take];omega
   refine⟨(k+1,v4,N++[.slice (sm W.heap.size) S.length S.length]),⟨rfl,ag,⟨by omega,?_,?_,K.D,?_,?_,?_⟩⟩,by simp only;omega⟩
   ·exact(((kW.trans A).trans kk).E M.E (fun y F=>by have:=z _ (hm F);omega)).E K.E Dw
   ·exact(((a1.trans A (fun x h=>by cases h)).trans kk (fun x h=>by cases h)).trans M.E (fun y F h=>by have:=z _ (hm F);omega)).trans K.E (fun x h _=>h)
   ·exact Ac M.own K.E (fun g p h=>by simp at h;exact(a4 g p).elim (fun e=>by have:=z _ e;omega) (fun e=>by omega))
   ·rw[b8,List.length_append,List.length_append,B.1];rfl
   ·intro j u y P F;rw[b8]at F;have d0:(m.take k).length=k:=by rw[<-B.1];exact b5
    by_cases e0:j<k
    ·rw[List.getElem?_append_left U]at P F;obtain⟨g,rfl,hB,b6,p⟩:=B.2 j u y P F;have:=p.lt;exact⟨g,rfl,hB,fun e=>(a4 g e.symm).elim (fun h=>b6 h.symm) (fun h=>by omega),kb (p.E A O) hB (fun h=>b6 h.symm)⟩
    ·rw[List.getElem?_append_right U]at P F;have hj0:j-k=0:=by have:=(List.getElem?_eq_some_iff.1 P).1;simp at this;omega
     rw[b5,hj0]at P;rw[d0,hj0]at F;simp only[List.getElem?_cons_zero,Option.some.injEq]at P F;subst P F;exact⟨_,rfl,by omega,fun e=>(a4 _ e.symm).elim (fun h=>by have:=z _ h;omega) (fun h=>by omega),kb bU U (fun h=>by have:=z _ h;omega)⟩
 ·obtain rfl:k=m.length:=by omega
  rw[List.take_length]at B;obtain⟨va,vc,rfl,a5⟩:=own_ints q;have e2:N.length=m.length:=B.1;obtain⟨u0,d3⟩:=gl (l:=N) (k:=0) U;obtain⟨lb,lo,rfl,_⟩:=a5 0 _ d3;have hlb:Q.heap.size<=lb:=(Ad q rfl).1
  have d2:∀s,Keep [R.heap.size] W s->∀(k:Nat)(x:Int),m[k]?=some x->∃g rc,s.cell? ⟨lb,lo+k,none⟩=some (.slice (sm g) S.length rc)/\∀i,i<S.length->s.cell? ⟨g,0+i,none⟩=some (iV (valS S x i)):=by
   intro s A k x T;obtain⟨uk,b7⟩:=gl (l:=N) (k:=k) (by have:=(List.getElem?_eq_some_iff.1 T).1;omega);obtain⟨_,_,e1,ck⟩:=a5 k _ b7;cases e1;obtain⟨g,rfl,p,_,r⟩:=B.2 k uk x b7 T;exact⟨g,_,A.cell ck Dw,fun i hi=>(r.E A Dw).cell (by simp[valsC,hi])⟩
  clear B q a5 z;refine go ?_;refine AX (rd 0 6 (rd 7 3 (.alt 6 (rd 10 4 (.alt 14 .done .stop)) .stop))) An Dv (fun wd I ed=>⟨fun V=>V.cell? ⟨R.heap.size,0+2,none⟩=some (iV (D.length:Int))/\V.cell? ⟨w.heap.size,0+1,none⟩=some (.slice C a.length E),?_,?_⟩)
  ·exact⟨(bW.E I O).cell rfl,(a9.E I O).cell rfl⟩
  have s2:∀V:World,V.cell? ⟨R.heap.size,0+2,none⟩=some (iV (D.length:Int))/\V.cell? ⟨w.heap.size,0+1,none⟩=some (.slice C a.length E)->V.cell? ⟨R.heap.size,0+2,none⟩=some (iV (D.length:Int)):=fun V e=>e.1;have s1:∀V:World,V.cell? ⟨R.heap.size,0+2,none⟩=some (iV (D.length:Int))/\V.cell? ⟨w.heap.size,0+1,none⟩=some (.slice C a.length E)->V.cell? ⟨w.heap.size,0+1,none⟩=some (.slice C a.length E):=fun V e=>e.2;refine go ?_;refine D_E rfl ?_;refine AE (gnested_ok (dpF f) wd b o f (Nat.le_refl _) U (hf.E (kW.trans I) (fun _ _=>by simp))) rfl ?_;rintro _ W1⟨rfl,X⟩;have a8:=bW.E (I.trans X) O;have b2:=a9.E (I.trans X) O;refine wNl (⟨a8.cell rfl,b2.cell rfl⟩) ?_;have hmul:((DU f:Int))*((a.length:Int))=((DU f*a.length:Nat):Int):=(Int.natCast_mul _ _).symm;refine go ?_;have hB:(D.length:Int)+(DU f:Int)*(a.length:Int)=((D.length+DU f*a.length:Nat):Int):=by omega
  refine D_E rfl ?_;refine AR (v:=iV ((D.length:Int)+(DU f:Int)*(a.length:Int))) rfl rfl rfl a8 O (fun W2 Z=>?_);have d:Blk W2 R.heap.size 182 [.slice G S.length H,.slice (some ⟨lb,lo,none⟩) m.length vc,iV (D.length:Int),iV ((D.length:Int)+(DU f:Int)*(a.length:Int)),iV 0]:=Z.D;rw[hB]at d;have a2:=b2.E Z.E Dw;have d6:Keep [R.heap.size] W W2:=((I.trans X).any).trans Z.E (fun x h _=>h);refine wNl (⟨d.cell rfl,a2.cell rfl⟩) ?_;refine go ?_;clear s1 s2;refine AX (rd 0 11 (.alt 11 .done .stop)) An Dv (fun wd I ed=>⟨fun V=>V.cell? ⟨R.heap.size,0+3,none⟩=some (iV ((D.length+DU f*a.length:Nat):Int))/\V.cell? ⟨w.heap.size,0+1,none⟩=some (.slice C a.length E),?_,?_⟩)
  ·exact⟨(d.E I O).cell rfl,(a2.E I O).cell rfl⟩
  have s2:∀V:World,V.cell? ⟨R.heap.size,0+3,none⟩=some (iV ((D.length+DU f*a.length:Nat):Int))/\V.cell? ⟨w.heap.size,0+1,none⟩=some (.slice C a.length E)->V.cell? ⟨R.heap.size,0+3,none⟩=some (iV ((D.length+DU f*a.length:Nat):Int)):=fun V e=>e.1;have s1:∀V:World,V.cell? ⟨R.heap.size,0+3,none⟩=some (iV ((D.length+DU f*a.length:Nat):Int))/\V.cell? ⟨w.heap.size,0+1,none⟩=some (.slice C a.length E)->V.cell? ⟨w.heap.size,0+1,none⟩=some (.slice C a.length E):=fun V e=>e.2;refine go ?_;refine D_E rfl ?_;have b3:=d.E I O;have c7:((D.length+DU f*a.length:Nat):Int)+(a.length:Int)=((D.length+DU f*a.length+a.length:Nat):Int):=(Int.natCast_add _ _).symm;refine AR (v:=iV (((D.length+DU f*a.length:Nat):Int)+(a.length:Int))) rfl rfl rfl b3 O (fun W3 K=>?_);have b4:Blk W3 R.heap.size 182 [.slice G S.length H,.slice (some ⟨lb,lo,none⟩) m.length vc,iV (D.length:Int),iV ((D.length+DU f*a.length:Nat):Int),iV (((D.length+DU f*a.length:Nat):Int)+(a.length:Int))]:=K.D;rw[c7]at b4;have c6:=(a2.E I O).E K.E Dw;have c0:Keep [R.heap.size] W W3:=(d6.trans I (fun x h=>by cases h)).trans K.E (fun x h _=>h);refine wNl (⟨b4.cell rfl,c6.cell rfl⟩) ?_;refine go ?_;have e4:Ext w W3:=kW.E c0 Dw;refine AB rfl ⟨_,rfl,e4,?_⟩;rw[<-a0];exact⟨⟨b9,h1,by omega,by omega⟩,G,H,lb,lo,vc,b4,hS.ext e4,d2 _ c0⟩
def rowC(n:Nat)(p:Nat->Bool):LV:=(List.range n).map fun t=>.bool (p t)
theorem DM(n:Nat)(p:Nat->Bool):(rowC n p).length=n:=by simp[rowC]
theorem rowC_at{n:Nat}{p:Nat->Bool}{t:Nat}(h:t<n):(rowC n p)[t]?=some (.bool (p t)):=by simp[rowC,h]
theorem rowC_succ(n:Nat)(p:Nat->Bool):rowC (n+1) p=rowC n p++[.bool (p n)]:=by simp[rowC,List.range_succ]
theorem rowC_congr{n:Nat}{p q:Nat->Bool}(h:∀t,t<n->p t=q t):rowC n p=rowC n q:=by
 unfold rowC;refine List.map_congr_left fun t P=>?_;rw[h t (List.mem_range.1 P)]
theorem rowC_set{n t:Nat}{p q:Nat->Bool}(h:t<n)(a:∀x,x<n->q x=if x=t then q t else p x):(rowC n p).set t (.bool (q t))=rowC n q:=by
 refine List.ext_getElem? fun x=>?_;by_cases T:x<n
 ·rw[rowC_at T,a x T];by_cases F:x=t
  ·subst F;rw[List.getElem?_set_self (by rw[DM];exact T),if_pos rfl]
  ·rw[List.getElem?_set_ne (fun e=>F e.symm),rowC_at T,if_neg F]
 ·rw[List.getElem?_eq_none (by rw[List.length_set,DM];omega),List.getElem?_eq_none (by rw[DM];omega)]
def Tru(w:World)(v:Value)(n:Nat)(p:Nat->Bool):Prop:=∃g,v=.slice (sm g) n n/\Blk w g 4 (rowC n p)
theorem Tru.ext{w w':World}{v:Value}{n:Nat}{p:Nat->Bool}(h:Tru w v n p)(k:Ext w w'):Tru w' v n p:=by
 obtain⟨g,e,h⟩:=h;exact⟨g,e,h.E k O⟩
theorem Tru.cell{w:World}{v:Value}{n:Nat}{p:Nat->Bool}(h:Tru w v n p):∃g,v=.slice (sm g) n n/\g<w.heap.size/\∀k,k<n->w.cell? ⟨g,0+k,none⟩=some (.bool (p k)):=by
 obtain⟨g,e,h⟩:=h;exact⟨g,e,h.lt,fun k P=>h.cell (by rw[Nat.zero_add];exact rowC_at P)⟩
theorem Tru.congr{w:World}{v:Value}{n:Nat}{p q:Nat->Bool}(h:Tru w v n p)(e:∀t,t<n->p t=q t):Tru w v n q:=by
 obtain⟨g,R,h⟩:=h;exact⟨g,R,by rw[<-rowC_congr e];exact h⟩
theorem DN(w:World)(t:Nat)(S:List Sgn)(xs:List Int)(m p B:Nat)(F:FuncId)[hF:AF Zp F](v1 v2:LV)(q:Nat->Bool)(X:List Nat)(a:Nat->World->Prop)(h:AxG w t S xs m p B)(A:∀x∈X,x<w.heap.size)(s:a 0 w)
  (c:∀{k:Nat}{W l:World}{Y:List Nat},a k W->Keep Y W l->(∀y∈Y,w.heap.size<=y)->a k l)
  (i:∀(k:Nat)(W:World),k<B+p->Keep X w W->a k W->Fn Zp F (v1++[iV (k:Int)]++v2) W fun u l=>u=.bool (q k)/\Keep X W l/\a (k+1) l):
  Fn Zp 203 [pt t,.func (.func F) v1.toArray v2.toArray] w fun u w'=>Tru w' u (B+p) q/\Keep X w w'/\a (B+p) w'/\∀g,u.ownBlock=some g->w.heap.size<=g:=by
 obtain⟨⟨M,Q,D,I⟩,sa,sc,r,lo,R,C,_,_⟩:=h;obtain⟨n,G⟩:∃n,n=B+p:=⟨_,rfl⟩;rw[<-G]at C i I⊢;refine AG Tryz.func203 rfl Tryz.ntmps203 (go ?_);refine W_make1 (n:=n) rfl rfl rfl rfl rfl U U (fun w1 E=>go ?_);refine Ah (α:=Nat) (fun k=>[(1,.func (.func F) v1.toArray v2.toArray),(5,.slice (sm w.heap.size) n n),(13,iV (n:Int)),(14,iV (k:Int))]) (fun k W=>k<=n/\Keep X w W/\a k W/\Blk W w.heap.size 4 (rowC k q++List.replicate (n-k) (.bool false))) (fun k=>n-k) 0 ag ⟨by omega,E.E.any,c s E.E O,E.D⟩ ?_;rintro k W Z⟨P,V,o,b⟩;refine go ?_;by_cases j:k<n
 ·refine go ?_;refine Az (v1:=v1) (v2:=v2) (vs:=[iV (k:Int)]) rfl (i k W j V o) rfl ?_;rintro _ w2⟨rfl,z,N⟩;have d:=b.E z (fun h=>by have:=A _ h;omega);refine go ?_;refine AR (v:=.bool (q k)) rfl rfl rfl d EO (fun w3 K=>?_);refine go ?_;have f:=K.D;rw[Nat.zero_add,set_fill _ _ _ _ _ (DM k q) j,<-rowC_succ]at f;exact⟨k+1,⟨rfl,ag,⟨by omega,(V.trans z (fun x T _=>T)).trans K.E (fun x T h=>by simp at T;omega),c N K.E (fun y L=>by simp at L;omega),f⟩⟩,by omega⟩
 ·obtain rfl:k=n:=by omega
  rw[Nat.sub_self,List.replicate_zero,List.append_nil]at b;refine go ?_;exact AB rfl ⟨⟨_,rfl,b⟩,V,o,fun g H=>by have e:=Option.some.inj H;simp only at e;omega⟩
def TrusG(w:World)(v:Value)(n:Nat)(ps:List (Nat->Bool)):Prop:=∃g R,v=.slice (sm g) ps.length ps.length/\Blk w g 140 R/\∀(k:Nat)(p:Nat->Bool),ps[k]?=some p->∃u,R[k]?=some u/\Tru w u n p
theorem TrusG.ext{w w':World}{v:Value}{n:Nat}{ps:List (Nat->Bool)}(h:TrusG w v n ps)(k:Ext w w'):TrusG w' v n ps:=by
 obtain⟨g,R,e,X,W⟩:=h;refine⟨g,R,e,X.E k O,fun j p z=>?_⟩;obtain⟨u,b,A⟩:=W j p z;exact⟨u,b,A.ext k⟩
theorem TrusG.at{w:World}{v:Value}{n:Nat}{ps:List (Nat->Bool)}(h:TrusG w v n ps):∃g,v=.slice (sm g) ps.length ps.length/\∀(k:Nat)(p:Nat->Bool),ps[k]?=some p->∃u,w.cell? ⟨g,0+k,none⟩=some (.slice (sm u) n n)/\∀i,i<n->w.cell? ⟨u,0+i,none⟩=some (.bool (p i)):=by
 obtain⟨g,R,e,X,W⟩:=h;refine⟨g,e,fun k p P=>?_⟩;obtain⟨u,a,A⟩:=W k p P;obtain⟨b,rfl,_,V⟩:=A.cell;exact⟨b,X.cell (by rw[Nat.zero_add];exact a),V⟩
theorem gall_ok(w:World)(v:Value)(n:Nat)(ps:List (Nat->Bool))(i:Nat)(c:Bool)(H:i<n)(G:n<=1000000)(d:ps.length<=1000000)(h:TrusG w v n ps):Fn Zp 214 [v,iV (i:Int),.bool c] w fun u w'=>u=.bool (ps.all fun p=>p i==c)/\w'=w:=by
 obtain⟨g,rfl,V⟩:=h.at;refine AG Tryz.func214 rfl Tryz.ntmps214 (go ?_);refine Ah (α:=Nat) (fun k=>[(1,iV (i:Int)),(2,.bool c),(9,.slice (sm g) ps.length ps.length),(10,iV (ps.length:Int)),(11,iV (k:Int))]) (fun k W=>k<=ps.length/\W=w/\∀p∈ps.take k,(p i==c)=true) (fun k=>ps.length-k) 0 ag ⟨by omega,rfl,by simp⟩ ?_;rintro k W Z⟨P,rfl,s⟩;refine go ?_;by_cases B:k<ps.length
 ·obtain⟨p,a⟩:=gl B;obtain⟨u,b,D⟩:=V k p a;have S:=D i H;refine go ?_;cases hv:p i==c with
  |true=>
   have e:(p i !=c)=false:=by rw[bne,hv];rfl
   rw[e];refine go ?_;refine⟨k+1,⟨rfl,ag,⟨by omega,rfl,fun q T=>?_⟩⟩,by omega⟩;rw[List.take_add_one,a]at T;rcases List.mem_append.1 T with T|T
   ·exact s q T
   ·simp at T;subst T;exact hv
  |false=>
   have e:(p i !=c)=true:=by rw[bne,hv];rfl
   rw[e];refine go ?_;refine AB rfl ⟨congrArg Value.bool (Eq.symm ?_),rfl⟩;rw[<-Bool.not_eq_true,List.all_eq_true];exact fun h=>by rw[h p (List.mem_of_getElem? a)]at hv;cases hv
 ·obtain rfl:k=ps.length:=by omega
  rw[List.take_length]at s;refine go ?_;exact AB rfl ⟨congrArg Value.bool (List.all_eq_true.2 s).symm,rfl⟩
theorem rowC_const(n:Nat)(b:Bool):rowC n (fun _=>b)=List.replicate n (.bool b):=by
 unfold rowC;rw[List.map_const',List.length_range]
section
variable (w:World)(t:Nat)(S:List Sgn)(xs:List Int)(m p B:Nat)(vl vr:Value)(P Q:Nat->Prop)
set_option maxHeartbeats 1000000 in
theorem guntil_ok(h:AxG w t S xs m p B)(a:Per B p P)(N:Per B p Q)(X:Tru w vl (B+p) fun t=>tv (P t))(hr:Tru w vr (B+p) fun t=>tv (Q t)):
  Fn Zp 222 [pt t,vl,vr] w fun u w'=>Tru w' u (B+p) (fun t=>tv (CX P Q t))/\Ext w w'/\∀g,u.ownBlock=some g->w.heap.size<=g:=by
 obtain⟨⟨b3,hp,b4,a7⟩,sa,sc,lb,lo,lc,R,_,_⟩:=id h;obtain⟨a3,rfl,ll,M⟩:=X.cell;obtain⟨a4,rfl,lr,L⟩:=hr.cell;clear X hr;obtain⟨n,G⟩:∃n,n=B+p:=⟨_,rfl⟩;rw[<-G]at R a7 M L⊢;refine AG Tryz.func222 rfl Tryz.ntmps222 (go ?_);refine W_make1 (n:=n) rfl rfl rfl rfl rfl U U (fun w1 n1=>?_);have e7:=n1.E
 have A:Blk w1 w.heap.size 4 (rowC n (stU P Q n 0)):=by
  have:=n1.D
  rwa [<-rowC_const,rowC_congr fun t ht=>(stU_zero P Q ht).symm]at this
 obtain⟨d,a6⟩:∃d,d=w.heap.size:=⟨_,rfl⟩;rw[<-a6]at A⊢;refine go ?_;refine Ah (α:=Nat) (fun i=>[(0,pt t),(1,.slice (sm a3) n n),(2,.slice (sm a4) n n),(7,.slice (sm d) n n),(19,iV (2*(n:Int))),(20,iV (i:Int))]) (fun i W=>i<=2*n/\Ext w W/\Blk W d 4 (rowC n (stU P Q n i))) (fun i=>2*n-i) 0 ag ⟨by omega,e7,A⟩ ?_;rintro i W fr⟨hi,r,C⟩;refine go ?_;by_cases Z:i<2*n
 ·obtain⟨x,a1⟩:∃x,x=n-1-i%n:=⟨_,rfl⟩;have b2:=Nat.mod_lt i (show 0<n by omega);have k:x<n:=by omega
  have b0:(n:Int)-1-(i:Int)%(n:Int)=(x:Int):=by
   rw[<-Int.natCast_emod];omega
  have a8:plcN n B (x+1)<n:=by unfold plcN;split<;>omega
  have a9:∀y,y<n->stU P Q n (i+1) y=if y=x then stU P Q n (i+1) x else stU P Q n i y:=fun y hy=>by
   by_cases F:y=x
   ·subst F;rw[if_pos rfl]
   ·rw[stU_step hp G a N Z y hy,if_neg (by rw[<-a1];exact F),if_neg F]
  have q:=stU_step hp G a N Z x k;rw[if_pos a1]at q
  have l:∀{V s:World}{T:TypeId}{b:Bool},b=stU P Q n (i+1) x->T=4->Put V s d T ((rowC n (stU P Q n i)).set (0+x) (.bool b))->Blk s d 4 (rowC n (stU P Q n (i+1))):=fun e eT p=>by
   subst e;subst eT;have:=p.D
   rwa [Nat.zero_add,rowC_set k a9]at this
  refine go ?_;refine AX (rd 0 13 .done) An Dv (fun H I ed=>⟨Ext H,?_,?_⟩)
  ·exact Ew
  have a5:=R.E (r.trans I) O;have s1:∀V,Ext H V->V.cell? ⟨t,0+4,none⟩=some (iV (n:Int)):=fun V e=>(a5.E e O).cell rfl;have j:=C.E I O;have D:=r.trans I;have K:=D.cell (L x k) O;have E:=D.cell (M x k) O;have co:=j.cell (o:=0+plcN n B (x+1)) (by rw[Nat.zero_add];exact rowC_at a8);cases hq:tv (Q x)with
  |true=>
   rw[hq]at K q;refine go ?_;refine AR (v:=.bool true) rfl rfl rfl j EO (fun z c=>?_);exact GI
  |false=>
   rw[hq]at K q;cases hpv:tv (P x)with
   |false=>
    rw[hpv]at E q;refine go ?_;refine AR (v:=.bool false) rfl rfl rfl j EO (fun z c=>?_);exact GI
   |true=>
    rw[hpv]at E q;refine go ?_;rw[b0];have a0:=gplace_ok H t S xs m p B (x+1) (h.ext D) U;rw[<-G,Int.natCast_add]at a0;refine AE a0 rfl ?_;rintro _ W1⟨rfl,f⟩;have b1:=f.cell co O;have a2:=j.E f O;refine go ?_;refine AR (v:=.bool (stU P Q n i (plcN n B (x+1)))) rfl rfl rfl a2 EO (fun z c=>?_);refine go ?_;exact⟨i+1,⟨rfl,ag,⟨by omega,(D.trans f).E c.E Dw,l (by rw[q];simp) rfl c⟩⟩,by omega⟩
 ·obtain rfl:i=2*n:=by omega
  refine go ?_;refine AB rfl ⟨⟨_,rfl,?_⟩,r,fun g hg=>by have e:=Option.some.inj hg;simp only at e;omega⟩;rw[rowC_congr fun t _=>(stU_end P Q (show 1<=n by omega)).symm];exact C
theorem galways_ok(w:World)(x:Value):Fn Zp 257 [x] w fun u w'=>u=.bool true/\w'=w:=by
 refine AG Tryz.func257 rfl Tryz.ntmps257 (go ?_);exact AB rfl ⟨rfl,rfl⟩
set_option maxHeartbeats 1000000 in
theorem grelease_ok(h:AxG w t S xs m p B)(a:Per B p P)(R:Per B p Q)(Z:Tru w vl (B+p) fun t=>tv (P t))(hr:Tru w vr (B+p) fun t=>tv (Q t)):
  Fn Zp 224 [pt t,vl,vr] w fun u w'=>Tru w' u (B+p) (fun t=>tv (relS P Q t))/\Ext w w'/\∀g,u.ownBlock=some g->w.heap.size<=g:=by
 obtain⟨⟨b5,hp,b6,a8⟩,sa,sc,lb,lo,lc,X,_,_⟩:=id h;obtain⟨a4,rfl,ll,M⟩:=Z.cell;obtain⟨a5,rfl,lr,N⟩:=hr.cell;clear Z hr;refine AG Tryz.func224 rfl Tryz.ntmps224 (go ?_);refine AE (DN w t S xs m p B 257 [] [] (fun _=>true) [] (fun _ _=>True) h O trivial (fun _ _ _=>trivial) (fun k W _ _ _=>(galways_ok W _).mono fun u w' hu=>⟨hu.1,hu.2▸Ext.refl _,trivial⟩)) rfl ?_;rintro _ w1⟨⟨d,rfl,r⟩,e7,_,a7⟩;have b3:=a7 d rfl;obtain⟨n,G⟩:∃n,n=B+p:=⟨_,rfl⟩;rw[<-G]at X a8 M N r⊢;rw[rowC_congr fun t ht=>(stR_zero P Q ht).symm]at r;refine go ?_;refine Ah (α:=Nat) (fun i=>[(0,pt t),(1,.slice (sm a4) n n),(2,.slice (sm a5) n n),(7,.slice (sm d) n n),(16,iV (2*(n:Int))),(17,iV (i:Int))]) (fun i W=>i<=2*n/\Ext w W/\Blk W d 4 (rowC n (stR P Q n i))) (fun i=>2*n-i) 0 ag ⟨by omega,e7,r⟩ ?_;rintro i W fr⟨hi,z,K⟩;refine go ?_;by_cases a0:i<2*n
 ·obtain⟨x,a2⟩:∃x,x=n-1-i%n:=⟨_,rfl⟩;have b4:=Nat.mod_lt i (show 0<n by omega);have l:x<n:=by omega
  have b1:(n:Int)-1-(i:Int)%(n:Int)=(x:Int):=by
   rw[<-Int.natCast_emod];omega
  have a9:plcN n B (x+1)<n:=by unfold plcN;split<;>omega
  have b0:∀y,y<n->stR P Q n (i+1) y=if y=x then stR P Q n (i+1) x else stR P Q n i y:=fun y hy=>by
   by_cases F:y=x
   ·subst F;rw[if_pos rfl]
   ·rw[stR_step hp G a R a0 y hy,if_neg (by rw[<-a2];exact F),if_neg F]
  have q:=stR_step hp G a R a0 x l;rw[if_pos a2]at q
  have s:∀{V A:World}{T:TypeId}{b:Bool},b=stR P Q n (i+1) x->T=4->Put V A d T ((rowC n (stR P Q n i)).set (0+x) (.bool b))->Blk A d 4 (rowC n (stR P Q n (i+1))):=fun e eT p=>by
   subst e;subst eT;have:=p.D
   rwa [Nat.zero_add,rowC_set l b0]at this
  refine go ?_;refine AX (rd 0 13 .done) An Dv (fun H I ed=>⟨Ext H,?_,?_⟩)
  ·exact Ew
  have a6:=X.E (z.trans I) O;have s1:∀V,Ext H V->V.cell? ⟨t,0+4,none⟩=some (iV (n:Int)):=fun V e=>(a6.E e O).cell rfl;have j:=K.E I O;have D:=z.trans I;have L:=D.cell (N x l) O;have E:=D.cell (M x l) O;have co:=j.cell (o:=0+plcN n B (x+1)) (by rw[Nat.zero_add];exact rowC_at a9);cases hq:tv (Q x)with
  |false=>
   rw[hq]at L q;refine go ?_;refine AR (v:=.bool false) rfl rfl rfl j EO (fun C c=>?_);exact GJ
  |true=>
   rw[hq]at L q;cases hpv:tv (P x)with
   |true=>
    rw[hpv]at E q;refine go ?_;refine AR (v:=.bool true) rfl rfl rfl j EO (fun C c=>?_);exact GJ
   |false=>
    rw[hpv]at E q;refine go ?_;rw[b1];have a1:=gplace_ok H t S xs m p B (x+1) (h.ext D) U;rw[<-G,Int.natCast_add]at a1;refine AE a1 rfl ?_;rintro _ W1⟨rfl,f⟩;have b2:=f.cell co O;have a3:=j.E f O;refine go ?_;refine AR (v:=.bool (stR P Q n i (plcN n B (x+1)))) rfl rfl rfl a3 EO (fun C c=>?_);refine go ?_;exact⟨i+1,⟨rfl,ag,⟨by omega,(D.trans f).E c.E Dw,s (by rw[q];simp) rfl c⟩⟩,by omega⟩
 ·obtain rfl:i=2*n:=by omega
  refine go ?_;refine AB rfl ⟨⟨_,rfl,?_⟩,z,fun g hg=>by have e:=Option.some.inj hg;simp only at e;omega⟩;rw[rowC_congr fun t _=>(stR_end P Q (show 1<=n by omega)).symm];exact K
end
noncomputable def befB (v:Int) (F:Nat->Prop):Nat->Bool
 |0=>decide (v=1)
 |k+1=>tv (F k)
theorem since1_ok(w:World)(b M o n k c gl:Nat)(q p z:Bool)(h:k<n)(X:Blk w b 140 [.slice (sm c) n n])(g:Blk w M 140 [.slice (sm gl) n n])(a:Blk w o 4 [.bool z])(f:w.cell? ⟨c,0+k,none⟩=some (.bool q))(D:w.cell? ⟨gl,0+k,none⟩=some (.bool p)):
  Fn Zp 258 [iV (k:Int),pt b,pt M,pt o] w fun u w'=>u=.bool (q||p&&z)/\Keep [o] w w'/\Blk w' o 4 [.bool (q||p&&z)]:=by
 refine AG Tryz.func258 rfl Tryz.ntmps258 (go ?_);cases q with
 |true=>
  refine go ?_;refine AR (v:=.bool true) rfl rfl rfl a O (fun W e=>?_);have d:Blk W o 4 [.bool true]:=e.D;exact FX
 |false=>
  refine go ?_;cases p with
  |false=>
   refine go ?_;refine AR (v:=.bool false) rfl rfl rfl a O (fun W e=>?_);have d:Blk W o 4 [.bool false]:=e.D;exact FX
  |true=>
   refine go ?_;refine AR (v:=.bool z) rfl rfl rfl a O (fun W e=>?_);have d:Blk W o 4 [.bool z]:=e.D;exact FX
theorem trig1_ok(w:World)(b M o n k c gl:Nat)(q p z:Bool)(h:k<n)(X:Blk w b 140 [.slice (sm c) n n])(g:Blk w M 140 [.slice (sm gl) n n])(a:Blk w o 4 [.bool z])(f:w.cell? ⟨c,0+k,none⟩=some (.bool q))(D:w.cell? ⟨gl,0+k,none⟩=some (.bool p)):
  Fn Zp 259 [iV (k:Int),pt b,pt M,pt o] w fun u w'=>u=.bool (q&&(p||z))/\Keep [o] w w'/\Blk w' o 4 [.bool (q&&(p||z))]:=by
 refine AG Tryz.func259 rfl Tryz.ntmps259 (go ?_);cases q with
 |false=>
  refine go ?_;refine AR (v:=.bool false) rfl rfl rfl a O (fun W e=>?_);have d:Blk W o 4 [.bool false]:=e.D;exact FX
 |true=>
  refine go ?_;cases p with
  |true=>
   refine go ?_;refine AR (v:=.bool true) rfl rfl rfl a O (fun W e=>?_);have d:Blk W o 4 [.bool true]:=e.D;exact FX
  |false=>
   refine go ?_;refine AR (v:=.bool z) rfl rfl rfl a O (fun W e=>?_);have d:Blk W o 4 [.bool z]:=e.D;exact FX
set_option maxHeartbeats 1000000 in
theorem gsince_ok(w:World)(t:Nat)(S:List Sgn)(xs:List Int)(m p B:Nat)(vl vr:Value)(P Q:Nat->Prop)(v:Int)(h:AxG w t S xs m p B)(M:Tru w vl (B+p) fun t=>tv (P t))(x:Tru w vr (B+p) fun t=>tv (Q t)):
  Fn Zp 235 [pt t,vl,vr,.bool (decide (v=1))] w fun u w'=>Tru w' u (B+p) (fun t=>tv (BP v P Q t))/\Ext w w'/\∀g,u.ownBlock=some g->w.heap.size<=g:=by
 obtain⟨I,rfl,H,r⟩:=M.cell;obtain⟨G,rfl,F,o⟩:=x.cell;clear M x;refine AG Tryz.func235 rfl Tryz.ntmps235 (go ?_);refine Ai (L:=[.slice (sm I) (B+p) (B+p)]) rfl (fun R E=>go ?_);refine Ai (L:=[.slice (sm G) (B+p) (B+p)]) rfl (fun D N=>go ?_);refine Ai (L:=[.bool (decide (v=1))]) rfl (fun l Z=>?_);have c:=E.size;have T:=N.size;have z3:=Z.size;have d:Ext w l:=(E.E.trans N.E).trans Z.E;have X:=(E.D.E N.E O).E Z.E O;have s:=N.D.E Z.E O;have i:=Z.D;obtain⟨b,z⟩:∃b,b=D.heap.size:=⟨_,rfl⟩;rw[<-z]at i⊢;refine go ?_;refine AE (DN l t S xs m p B 258 [] [pt R.heap.size,pt w.heap.size,pt b] (fun t=>tv (BP v P Q t)) [b] (fun k W=>Blk W b 4 [.bool (befB v (BP v P Q) k)]) (h.ext d) Dw i (fun j k n=>j.E k (fun h=>by have:=n _ h;omega)) (fun k W f V q=>?_)) rfl ?_
 ·have:=since1_ok W R.heap.size w.heap.size b (B+p) k G I (tv (Q k)) (tv (P k)) _ f (s.E V Dw) (X.E V Dw) q (V.cell (d.cell (o k f) O) Dw) (V.cell (d.cell (r k f) O) Dw)
  have e:(tv (Q k)||tv (P k)&&befB v (BP v P Q) k:Bool)=tv (BP v P Q k):=by
   cases k with
   |zero=>exact tv_eq (by simp[BP,tv_iff,befB])
   |succ k=>exact tv_eq (by simp[BP,tv_iff,befB])
  rw[e]at this;exact this
 exact GC
set_option maxHeartbeats 1000000 in
theorem gtrigger_ok(w:World)(t:Nat)(S:List Sgn)(xs:List Int)(m p B:Nat)(vl vr:Value)(P Q:Nat->Prop)(v:Int)(h:AxG w t S xs m p B)(M:Tru w vl (B+p) fun t=>tv (P t))(x:Tru w vr (B+p) fun t=>tv (Q t)):
  Fn Zp 237 [pt t,vl,vr,.bool (decide (v=1))] w fun u w'=>Tru w' u (B+p) (fun t=>tv (DR v P Q t))/\Ext w w'/\∀g,u.ownBlock=some g->w.heap.size<=g:=by
 obtain⟨I,rfl,H,r⟩:=M.cell;obtain⟨G,rfl,F,o⟩:=x.cell;clear M x;refine AG Tryz.func237 rfl Tryz.ntmps237 (go ?_);refine Ai (L:=[.slice (sm I) (B+p) (B+p)]) rfl (fun R E=>go ?_);refine Ai (L:=[.slice (sm G) (B+p) (B+p)]) rfl (fun D N=>go ?_);refine Ai (L:=[.bool (decide (v=1))]) rfl (fun l Z=>?_);have c:=E.size;have T:=N.size;have z3:=Z.size;have d:Ext w l:=(E.E.trans N.E).trans Z.E;have X:=(E.D.E N.E O).E Z.E O;have s:=N.D.E Z.E O;have i:=Z.D;obtain⟨b,z⟩:∃b,b=D.heap.size:=⟨_,rfl⟩;rw[<-z]at i⊢;refine go ?_;refine AE (DN l t S xs m p B 259 [] [pt R.heap.size,pt w.heap.size,pt b] (fun t=>tv (DR v P Q t)) [b] (fun k W=>Blk W b 4 [.bool (befB v (DR v P Q) k)]) (h.ext d) Dw i (fun j k n=>j.E k (fun h=>by have:=n _ h;omega)) (fun k W f V q=>?_)) rfl ?_
 ·have:=trig1_ok W R.heap.size w.heap.size b (B+p) k G I (tv (Q k)) (tv (P k)) _ f (s.E V Dw) (X.E V Dw) q (V.cell (d.cell (o k f) O) Dw) (V.cell (d.cell (r k f) O) Dw)
  have e:(tv (Q k)&&(tv (P k)||befB v (DR v P Q) k):Bool)=tv (DR v P Q k):=by
   cases k with
   |zero=>exact tv_eq (by simp[DR,tv_iff,befB])
   |succ k=>exact tv_eq (by simp[DR,tv_iff,befB])
  rw[e]at this;exact this
 exact GC
structure LwG(w:World)(c1 c3 t:Nat)(S:List Sgn)(xs:List Int)(m p B:Nat):Prop where
 b1:Blk w c1 139 [pt t]
 b3:Blk w c3 260 [.func (.func 202) #[] #[pt c1]]
 ax:AxG w t S xs m p B
theorem LwG.ext{w w':World}{c1 c3 t:Nat}{S:List Sgn}{xs:List Int}{m p B:Nat}(h:LwG w c1 c3 t S xs m p B)(k:Ext w w'):LwG w' c1 c3 t S xs m p B:=⟨h.b1.E k O,h.b3.E k O,h.ax.ext k⟩
def wdG(S:List Sgn)(xs:List Int)(m p:Nat):Wd:=fun t a=>vlS S (xs.getD (lixN m p t) 0) a
section
variable (w:World)(c1 c3 t:Nat)(S:List Sgn)(xs:List Int)(m p B:Nat)(pv vv:Value)
theorem gtconst1_ok(c:Nat)(b:Bool)(x:Value)(h:Blk w c 4 [.bool b]):Fn Zp 204 [x,pt c] w fun u w'=>u=.bool b/\w'=w:=by
 refine AG Tryz.func204 rfl Tryz.ntmps204 (go ?_);exact AB rfl ⟨rfl,rfl⟩
theorem gtconst_ok(b:Bool)(h:LwG w c1 c3 t S xs m p B):Fn Zp 202 [.bool b,pt c1] w fun u w'=>Tru w' u (B+p) (fun _=>b)/\Ext w w':=by
 refine AG Tryz.func202 rfl Tryz.ntmps202 (go ?_);refine Ai (L:=[.bool b]) rfl (fun R E=>?_);have X:=h.ext E.E;have a:=X.b1;refine go ?_;refine AE (DN R t S xs m p B 204 [] [pt w.heap.size] (fun _=>b) [] (fun _ _=>True) X.ax O trivial (fun _ _ _=>trivial) (fun k W _ V _=>(gtconst1_ok W _ b _ (E.D.E V O)).mono fun u w' n=>⟨n.1,n.2▸Ext.refl _,trivial⟩)) rfl ?_;rintro u c⟨n,l,_⟩;exact Fe
theorem gltrue_ok(h:LwG w c1 c3 t S xs m p B):Fn Zp 205 [pv,vv,pt c3] w fun u w'=>Tru w' u (B+p) (fun _=>true)/\Ext w w':=by
 have y:=h.b3;refine AG Tryz.func205 rfl Tryz.ntmps205 (go ?_);refine Az (v1:=[]) (v2:=[pt c1]) (vs:=[.bool true]) rfl (gtconst_ok w c1 c3 t S xs m p B true h) rfl ?_;rintro u L⟨n,l⟩;refine go ?_;exact AB rfl ⟨n,l⟩
theorem glfalse_ok(h:LwG w c1 c3 t S xs m p B):Fn Zp 206 [pv,vv,pt c3] w fun u w'=>Tru w' u (B+p) (fun _=>false)/\Ext w w':=by
 have y:=h.b3;refine AG Tryz.func206 rfl Tryz.ntmps206 (go ?_);refine Az (v1:=[]) (v2:=[pt c1]) (vs:=[.bool false]) rfl (gtconst_ok w c1 c3 t S xs m p B false h) rfl ?_;rintro u L⟨n,l⟩;refine go ?_;exact AB rfl ⟨n,l⟩
theorem gnot1_ok(n k c:Nat)(ps:List (Nat->Bool))(P:Nat->Bool)(b:k<n)(G:n<=1000000)(d:Blk w c 228 [vv])(q:TrusG w vv n ps)(a:ps[0]?=some P):Fn Zp 211 [iV (k:Int),pt c] w fun u w'=>u=.bool (!P k)/\w'=w:=by
 obtain⟨g,rfl,V⟩:=q.at;obtain⟨u,c1,D⟩:=V 0 P a;have c3:=D k b;have s:=(List.getElem?_eq_some_iff.1 a).1;refine AG Tryz.func211 rfl Tryz.ntmps211 (go ?_);exact AB rfl ⟨rfl,rfl⟩
theorem glnot_ok(ps:List (Nat->Bool))(P:Nat->Bool)(a:ps[0]?=some P)(s:ps.length<=1000000)(h:LwG w c1 c3 t S xs m p B)(q:TrusG w vv (B+p) ps):Fn Zp 210 [pv,vv,pt c1] w fun u w'=>Tru w' u (B+p) (fun t=> !P t)/\Ext w w':=by
 obtain⟨j,v,o,d⟩:=h.ax.len;have D:=q.at;obtain⟨g,rfl,_⟩:=D;refine AG Tryz.func210 rfl Tryz.ntmps210 (go ?_);refine Ai (L:=[.slice (sm g) ps.length ps.length]) rfl (fun R E=>?_);have X:=h.ext E.E;have e:=X.b1;refine go ?_;refine AE (DN R t S xs m p B 211 [] [pt w.heap.size] (fun t=> !P t) [] (fun _ _=>True) X.ax O trivial (fun _ _ _=>trivial) (fun k W c V _=>?_)) rfl ?_
 ·have f:=X.ext V;have i:=f.b1;have C:=(q.ext E.E).ext V;have b:=E.D.E V O;exact(gnot1_ok W _ (B+p) k _ ps P c d b C a).mono fun u w' n=>⟨n.1,n.2▸Ext.refl _,trivial⟩
 rintro u r⟨n,l,_⟩;exact Fe
theorem gand1_ok(n k c:Nat)(ps:List (Nat->Bool))(a:k<n)(G:n<=1000000)(s:ps.length<=1000000)(b:Blk w c 228 [vv])(q:TrusG w vv n ps):Fn Zp 213 [iV (k:Int),pt c] w fun u w'=>u=.bool (ps.all fun P=>P k==true)/\w'=w:=by
 refine AG Tryz.func213 rfl Tryz.ntmps213 (go ?_);refine AE (gall_ok w vv n ps k true a G s q) rfl ?_;rintro _ _⟨rfl,rfl⟩;exact El
theorem gor1_ok(n k c:Nat)(ps:List (Nat->Bool))(a:k<n)(G:n<=1000000)(s:ps.length<=1000000)(b:Blk w c 228 [vv])(q:TrusG w vv n ps):Fn Zp 216 [iV (k:Int),pt c] w fun u w'=>u=.bool (!ps.all fun P=>P k==false)/\w'=w:=by
 refine AG Tryz.func216 rfl Tryz.ntmps216 (go ?_);refine AE (gall_ok w vv n ps k false a G s q) rfl ?_;rintro _ _⟨rfl,rfl⟩;exact El
theorem gland_ok(ps:List (Nat->Bool))(s:ps.length<=1000000)(h:LwG w c1 c3 t S xs m p B)(q:TrusG w vv (B+p) ps):Fn Zp 212 [pv,vv,pt c1] w fun u w'=>Tru w' u (B+p) (fun t=>ps.all fun P=>P t==true)/\Ext w w':=by
 obtain⟨i,v,j,c⟩:=h.ax.len;have D:=q.at;obtain⟨g,rfl,_⟩:=D;refine AG Tryz.func212 rfl Tryz.ntmps212 (go ?_);refine Ai (L:=[.slice (sm g) ps.length ps.length]) rfl (fun R E=>?_);have X:=h.ext E.E;have d:=X.b1;refine go ?_;refine AE (DN R t S xs m p B 213 [] [pt w.heap.size] (fun t=>ps.all fun P=>P t==true) [] (fun _ _=>True) X.ax O trivial (fun _ _ _=>trivial) (fun k W b V _=>?_)) rfl ?_
 ·have f:=X.ext V;have e:=f.b1;have C:=(q.ext E.E).ext V;have a:=E.D.E V O;exact(gand1_ok W _ (B+p) k _ ps b c s a C).mono fun u w' n=>⟨n.1,n.2▸Ext.refl _,trivial⟩
 rintro u o⟨n,l,_⟩;exact Fe
theorem glor_ok(ps:List (Nat->Bool))(s:ps.length<=1000000)(h:LwG w c1 c3 t S xs m p B)(q:TrusG w vv (B+p) ps):Fn Zp 215 [pv,vv,pt c1] w fun u w'=>Tru w' u (B+p) (fun t=> !ps.all fun P=>P t==false)/\Ext w w':=by
 obtain⟨i,v,j,c⟩:=h.ax.len;have D:=q.at;obtain⟨g,rfl,_⟩:=D;refine AG Tryz.func215 rfl Tryz.ntmps215 (go ?_);refine Ai (L:=[.slice (sm g) ps.length ps.length]) rfl (fun R E=>?_);have X:=h.ext E.E;have d:=X.b1;refine go ?_;refine AE (DN R t S xs m p B 216 [] [pt w.heap.size] (fun t=> !ps.all fun P=>P t==false) [] (fun _ _=>True) X.ax O trivial (fun _ _ _=>trivial) (fun k W b V _=>?_)) rfl ?_
 ·have f:=X.ext V;have e:=f.b1;have C:=(q.ext E.E).ext V;have a:=E.D.E V O;exact(gor1_ok W _ (B+p) k _ ps b c s a C).mono fun u w' n=>⟨n.1,n.2▸Ext.refl _,trivial⟩
 rintro u o⟨n,l,_⟩;exact Fe
theorem gnext1_ok(k c:Nat)(ps:List (Nat->Bool))(P:Nat->Bool)(o:k<B+p)(h:LwG w c1 c3 t S xs m p B)(f:Blk w c 228 [vv])(q:TrusG w vv (B+p) ps)(a:ps[0]?=some P):Fn Zp 220 [iV (k:Int),pt c,pt c1] w fun u w'=>u=.bool (P (plcN (B+p) B (k+1)))/\Ext w w':=by
 obtain⟨r,v,D,x⟩:=h.ax.len;have i:plcN (B+p) B (k+1)<B+p:=by unfold plcN;split<;>omega
 obtain⟨g,rfl,V⟩:=q.at;obtain⟨u,b,A⟩:=V 0 P a;have E:=A _ i;have s:=(List.getElem?_eq_some_iff.1 a).1;refine AG Tryz.func220 rfl Tryz.ntmps220 (go ?_);refine AX (rd 0 6 (.alt 6 (rd 7 3 .done) .stop)) An Dv (fun H I G=>⟨Ext H,?_,?_⟩)
 ·exact Ew
 have n:=f.E I O;have j:=(h.ext I).b1;have Z:=I.cell b O;refine go ?_;refine D_E rfl ?_;have d:=gplace_ok H t S xs m p B (k+1) (h.ax.ext I) U;rw[Int.natCast_add]at d;refine AE d rfl ?_;rintro _ L⟨rfl,l⟩;refine AA ⟨Ext L,fun _ e=>l.trans e,Ext.refl _,?_⟩;have X:=(I.trans l).cell E O;refine go ?_;exact AB rfl ⟨rfl,I.trans l⟩
theorem glnext_ok(ps:List (Nat->Bool))(P:Nat->Bool)(a:ps[0]?=some P)(s:ps.length<=1000000)(h:LwG w c1 c3 t S xs m p B)(q:TrusG w vv (B+p) ps):Fn Zp 219 [pv,vv,pt c1] w fun u w'=>Tru w' u (B+p) (fun t=>P (plcN (B+p) B (t+1)))/\Ext w w':=by
 obtain⟨i,v,j,o⟩:=h.ax.len;have D:=q.at;obtain⟨g,rfl,_⟩:=D;refine AG Tryz.func219 rfl Tryz.ntmps219 (go ?_);refine Ai (L:=[.slice (sm g) ps.length ps.length]) rfl (fun R E=>?_);have X:=h.ext E.E;have d:=X.b1;refine go ?_;refine AE (DN R t S xs m p B 220 [] [pt w.heap.size,pt c1] (fun t=>P (plcN (B+p) B (t+1))) [] (fun _ _=>True) X.ax O trivial (fun _ _ _=>trivial) (fun k W c V _=>?_)) rfl ?_
 ·have f:=X.ext V;have e:=f.b1;have C:=(q.ext E.E).ext V;have b:=E.D.E V O;exact(gnext1_ok W c1 c3 t S xs m p B _ k _ ps P c f b C a).mono fun u w' n=>⟨n.1,n.2,trivial⟩
 rintro u r⟨n,l,_⟩;exact Fe
end
structure Dty where
 req:Rqm
 since:Int
 first:Fml
 now:Fml
def strD(t:Int)(r:Rqm):Dty:=⟨r,t,Bc (kernR r.formula).1,Bc (kernR r.formula).1⟩
def startF(s:Spc)(t:Int):List Dty:=s.reqs.map (strD t)
def Dty.to(y:Dty)(g:Fml):Dty:=⟨y.req,y.since,y.first,g⟩
def tickF(S:List Sgn)(d:List Dty)(x:Int):List Dty:=if d.any (fun y=>decide ((CK S y.now x).op=0))=true then[]else d.map fun y=>y.to (CK S y.now x)
def CP(S:List Sgn):List Dty->List Int->List Dty
 |d,[]=>d
 |d,x::xs=>CP S (tickF S d x) xs
def asmD(y:Dty):Bool:=decide (y.req.kind=1)
def kindD(y:Dty):Bool:=decide (y.req.kind=1)||decide (y.req.kind=2)||decide (y.req.kind=3)
def asmsF(d:List Dty):LF:=(d.filter asmD).map fun y=>notR y.now
def gusF(d:List Dty):LF:=(d.filter fun y=> !asmD y).map fun y=>y.now
def Ba(d:List Dty):Fml:=if d.all kindD=true then Db 6 (asmsF d++[Db 5 (gusF d)])else Ag
theorem ticks_nil(S:List Sgn):∀xs,CP S [] xs=[]
 | []=>rfl
 |x::xs=>by
  have:tickF S [] x=[]:=rfl;rw[CP,this,ticks_nil S xs]
theorem ticks_map(S:List Sgn):∀(xs:List Int)(d:List Dty),d.length<=(CP S d xs).length->CP S d xs=d.map (fun y=>y.to (Dc S y.now xs))/\∀y∈d,xs≠[]->(Dc S y.now xs).op≠0
 | [],d,_=>⟨by
   have:d.map (fun y=>y.to (Dc S y.now []))=d.map id:=List.map_congr_left fun y _=>by cases y;rfl
   rw[this,List.map_id];rfl,fun _ _ h=>absurd rfl h⟩
 |x::xs,d,h=>by
  rw[CP]at h⊢;unfold tickF at h⊢;by_cases I:d.any (fun y=>decide ((CK S y.now x).op=0))=true
  ·rw[if_pos I]at h;rw[ticks_nil]at h;have:d=[]:=List.eq_nil_of_length_eq_zero EC;subst this;cases I
  ·rw[if_neg I]at h⊢;have D:∀y∈d,(CK S y.now x).op≠0:=fun y F e=>I (List.any_eq_true.2 ⟨y,F,by simpa using e⟩);obtain⟨X,W⟩:=ticks_map S xs (d.map fun y=>y.to (CK S y.now x)) EC;have a:∀y∈d,Dc S y.now (x::xs)=Dc S (CK S y.now x) xs:=fun y F=>by rw[Dc,if_neg (D y F)]
   refine⟨?_,fun y F _=>?_⟩
   ·rw[X,List.map_map];refine List.map_congr_left fun y F=>?_;show(y.to (CK S y.now x)).to (Dc S (CK S y.now x) xs)=y.to (Dc S y.now (x::xs));rw[a y F];rfl
   ·rw[a y F];cases xs with
    |nil=>exact D y F
    |cons x' xs=>exact W (y.to (CK S y.now x)) (List.mem_map.2 ⟨y,F,rfl⟩) O
theorem con_full{S:List Sgn}{N:Int}(h:N=5\/N=6){l:LF}(d:(Db N l).op≠0)(P:∀a∈l,isB (knS S) a=true):LkS S (Db N l)/\(∀a∈l,BA a=true)/\∀(s:Wd)(t:Nat),sem s (Db N l) t↔semJ s N l t:=by
 rcases con_cases N l with e|⟨X,W,Q⟩
 ·rw[e]at d;exact absurd rfl d
 ·have b:∀a∈l,Sh a:=fun a I=>Cy (BG (Q a I)).2.2;refine⟨⟨X,?_⟩,Q,fun s t=>?_⟩
  ·rw[W];refine is_join h fun c V=>?_;obtain⟨a,I,rfl⟩:=List.mem_map.1 V;exact is_canon (b a I) (P a I)
  ·rw[W,join_sem h s fun c V=>by
    obtain⟨a,I,rfl⟩:=List.mem_map.1 V;exact cf_sh (canon_cf (b a I))]
   unfold semJ
   split
   ·exact⟨fun k a I=>(canon_sem s (b a I) t).1 (k _ (List.mem_map.2 ⟨a,I,rfl⟩)),fun k c V=>by
     obtain⟨a,I,rfl⟩:=List.mem_map.1 V;exact(canon_sem s (b a I) t).2 (k a I)⟩
   ·exact⟨fun⟨c,V,k⟩=>by
     obtain⟨a,I,rfl⟩:=List.mem_map.1 V;exact⟨a,I,(canon_sem s (b a I) t).1 k⟩,fun⟨a,I,k⟩=>⟨_,List.mem_map.2 ⟨a,I,rfl⟩,(canon_sem s (b a I) t).2 k⟩⟩
theorem imp_sem{S:List Sgn}{A G:LF}(b:(Db 6 (A.map notR++[Db 5 G])).op≠0)(E:∀a∈A,isB (knS S) a=true)(C:∀a∈G,isB (knS S) a=true):
  LkS S (Db 6 (A.map notR++[Db 5 G]))/\(∀a,a∈A\/a∈G->BA a=true)/\∀(s:Wd)(t:Nat),sem s (Db 6 (A.map notR++[Db 5 G])) t↔(∃a∈A,¬sem s a t)\/∀a∈G,sem s a t:=by
 have f:∀a∈A.map notR++[Db 5 G],BA a=true:=by
  rcases con_cases 6 (A.map notR++[Db 5 G])with e|⟨_,_,Q⟩
  ·rw[e]at b;exact absurd rfl b
  ·exact Q
 have u:(Db 5 G).op≠0:=loose_op (f _ O);obtain⟨F,v,n⟩:=con_full (S:=S) (.inl rfl) u C
 obtain⟨K,Z,g⟩:=con_full (S:=S) (.inr rfl) b fun a I=>by
  rcases List.mem_append.1 I with I|I
  ·obtain⟨c,V,rfl⟩:=List.mem_map.1 I;exact is_notR (E c V)
  ·simp at I;rw[I];exact F.2
 have d:∀a∈A,(notR a).op≠0:=fun a I=>loose_op (f _ (by simp;exact .inl ⟨a,I,rfl⟩));refine⟨K,fun a I=>?_,fun s t=>?_⟩
 ·rcases I with I|I
  ·exact(notR_sem (fun _ _=>0) (d a I) 0).1
  ·exact v a I
 ·rw[g];unfold semJ;rw[if_neg D7];have H:semJ s 5 G t↔∀a∈G,sem s a t:=by unfold semJ;rw[if_pos rfl]
  constructor
  ·rintro⟨c,V,k⟩;rcases List.mem_append.1 V with V|V
   ·obtain⟨a,I,rfl⟩:=List.mem_map.1 V;exact .inl ⟨a,I,(notR_sem s (d a I) t).2.1 k⟩
   ·simp at V;rw[V]at k;exact .inr (H.1 ((n s t).1 k))
  ·rintro(⟨a,I,k⟩|k)
   ·exact⟨notR a,by simp;exact .inl ⟨a,I,rfl⟩,(notR_sem s (d a I) t).2.2 k⟩
   ·exact⟨Db 5 G,by simp,(n s t).2 (H.2 k)⟩
theorem split_sem{α:Type}(l:List α)(p:α->Bool)(k:α->Fml)(s:Wd)(t:Nat):((∃a∈(l.filter p).map k,¬sem s a t)\/∀a∈(l.filter fun x=> !p x).map k,sem s a t)↔(∃r∈l,p r=true/\¬sem s (k r) t)\/∀r∈l,p r=false->sem s (k r) t:=by
 constructor
 ·rintro(⟨a,I,h⟩|h)
  ·obtain⟨r,b,rfl⟩:=List.mem_map.1 I;obtain⟨X,W⟩:=List.mem_filter.1 b;exact .inl ⟨r,X,W,h⟩
  ·exact .inr fun r b v=>h _ (List.mem_map.2 ⟨r,List.mem_filter.2 ⟨b,by simp[v]⟩,rfl⟩)
 ·rintro(⟨r,b,v,h⟩|h)
  ·exact .inl ⟨_,List.mem_map.2 ⟨r,List.mem_filter.2 ⟨b,v⟩,rfl⟩,h⟩
  ·refine .inr fun a I=>?_;obtain⟨r,b,rfl⟩:=List.mem_map.1 I;obtain⟨X,W⟩:=List.mem_filter.1 b;exact h r X (by simpa using W)
theorem dgoal_lk{S:List Sgn}{d:List Dty}(b:(Ba d).op≠0)(P:∀y∈d,isB (knS S) y.now=true):LkS S (Ba d)/\(∀y∈d,BA y.now=true)/\∀(W:Wd)(t:Nat),sem W (Ba d) t↔(∃y∈d,asmD y=true/\¬sem W y.now t)\/∀y∈d,asmD y=false->sem W y.now t:=by
 unfold Ba at b⊢;by_cases V:d.all kindD=true
 ·rw[if_pos V]at b⊢;have F:asmsF d=((d.filter asmD).map fun y=>y.now).map notR:=by rw[List.map_map];rfl
  rw[F]at b⊢
  obtain⟨X,c,Q⟩:=imp_sem (S:=S) b (fun a I=>by
   obtain⟨r,x,rfl⟩:=List.mem_map.1 I;exact P r (List.mem_filter.1 x).1) (fun a I=>by
   obtain⟨r,x,rfl⟩:=List.mem_map.1 I;exact P r (List.mem_filter.1 x).1)
  refine⟨X,fun r x=>?_,fun W t=>?_⟩
  ·cases hb:asmD r with
   |true=>exact c _ (.inl (List.mem_map.2 ⟨r,List.mem_filter.2 ⟨x,hb⟩,rfl⟩))
   |false=>exact c _ (.inr (List.mem_map.2 ⟨r,List.mem_filter.2 ⟨x,by simp[hb]⟩,rfl⟩))
  ·rw[Q W t];exact split_sem d asmD (fun y=>y.now) W t
 ·rw[if_neg V]at b;exact absurd rfl b
theorem lk_op{S:List Sgn}{f:Fml}(h:LkS S f):f.op≠0:=loose_op h.1
theorem lix_drop(n m p t:Nat):lixN (n+m) p (t+n)=n+lixN m p t:=by
 unfold lixN;by_cases h:t<m+p
 ·rw[if_pos h,if_pos U];omega
 ·rw[if_neg h,if_neg U,show t+n-(n+m)=t-m by omega];omega
theorem word_drop(S:List Sgn)(xs M:List Int)(m p:Nat):dropW xs.length (wdG S (xs++M) (xs.length+m) p)=wdG S M m p:=by
 funext t nm
 show vlS S ((xs++M).getD (lixN (xs.length+m) p (t+xs.length)) 0) nm=vlS S (M.getD (lixN m p t) 0) nm;rw[lix_drop];simp only[List.getD_eq_getElem?_getD];rw[List.getElem?_append_right U,Nat.add_sub_cancel_left]
theorem word_at(S:List Sgn)(xs M:List Int)(m p:Nat):∀i x,xs[i]?=some x->wdG S (xs++M) (xs.length+m) p i=vlS S x:=by
 intro i x T;have H:=(List.getElem?_eq_some_iff.1 T).1
 funext nm
 show vlS S ((xs++M).getD (lixN (xs.length+m) p i) 0) nm=_;unfold lixN;rw[if_pos U,List.getD_eq_getElem?_getD,List.getElem?_append_left H,T];rfl
mutual
def DI:Fml->Fml
 | .mk op nm v b args=>.mk op nm (if op=3 then v else 0) b (shpL args)
def shpL:LF->LF
 | []=>[]
 |a::l=>DI a::shpL l
end
theorem shpL_eq:∀l,shpL l=l.map DI
 | []=>rfl
 |a::l=>by rw[shpL,shpL_eq l];rfl
def conjF(f:Fml):LF:=if f.op=1 then[]else if f.op=5 then f.args else[f]
def pendB(W:LF)(c:Fml):Bool:= !(W.any fun k=>decide (BY k (DI c)=0))
def pendL(a b:Fml):LF:=(conjF b).filter (pendB ((conjF a).map DI))
def Cq(first V:Fml):Fml:=if(Bc first).op=0\/(Bc V).op=0 then Ag else Db 5 (pendL (Bc first) (Bc V))
def CA(x:Dty)(t:Int):List Dty:=if(Cq x.first x.now).op=1 then[]else[⟨⟨x.req.part,x.req.name,3,x.req.formula⟩,t,Cq x.first x.now,Cq x.first x.now⟩]
theorem conj_sem{s:Wd}{f c:Fml}{t:Nat}(h:sem s f t)(V:c∈conjF f):sem s c t:=by
 unfold conjF at V
 split at V
 ·cases V
 ·split at V
  ·rename_i S;obtain⟨N,p,v,b,l⟩:=f;have S:N=5:=S;subst S;have:=(sem_56 (.inl rfl) s p v b l t).1 h;unfold semJ at this;rw[if_pos rfl]at this;exact this c V
  ·simp at V;rw[V];exact h
theorem conj_is{k:LU->Int->Bool}{f c:Fml}(h:isB k f=true)(V:c∈conjF f):isB k c=true:=by
 unfold conjF at V
 split at V
 ·cases V
 ·split at V
  ·obtain⟨N,p,v,b,l⟩:=f;exact(is_iff.1 h).2 c V
  ·simp at V;rw[V];exact h
theorem canG_is{k:LU->Int->Bool}{f:Fml}(h:isB k f=true):isB k (Bc f)=true:=by
 unfold Bc
 split
 ·rename_i hl;exact is_canon (Cy (BG hl).2.2) h
 ·rfl
theorem step_is{S:List Sgn}{f:Fml}{x:Int}(h:isB (knS S) f=true):isB (knS S) (CK S f x)=true:=by
 unfold CK
 split
 ·exact canG_is (is_raw _ h)
 ·rfl
theorem run_is{S:List Sgn}:∀(xs:List Int){f:Fml},isB (knS S) f=true->isB (knS S) (Dc S f xs)=true
 | [],_,h=>h
 |x::xs,f,h=>by
  rw[Dc]
  split
  ·rfl
  ·exact run_is xs (step_is h)
theorem con_zeroOr{S:List Sgn}{l:LF}(P:∀a∈l,isB (knS S) a=true):isB (knS S) (Db 5 l)=true:=by
 by_cases s:(Db 5 l).op=0
 ·rw[con_zero s];rfl
 ·exact(con_full (.inl rfl) s P).1.2
theorem pend_is{S:List Sgn}{a b:Fml}(h:isB (knS S) b=true):isB (knS S) (Cq a b)=true:=by
 unfold Cq
 split
 ·rfl
 ·exact con_zeroOr fun c V=>conj_is (canG_is h) (List.mem_filter.1 V).1
theorem pend_sem{S:List Sgn}{a b:Fml}(h:isB (knS S) b=true)(d:(Cq a b).op≠0){s:Wd}{t:Nat}(D:sem s b t):sem s (Cq a b) t:=by
 unfold Cq at d⊢;by_cases V:(Bc a).op=0\/(Bc b).op=0
 ·rw[if_pos V]at d;exact absurd rfl d
 ·rw[if_neg V]at d⊢;have f:=(canG_lk (S:=S) (fun e=>V (.inr e)) h).2 s t;rw[(con_full (S:=S) (.inl rfl) d fun c V=>conj_is (canG_is h) (List.mem_filter.1 V).1).2.2 s t];unfold semJ;rw[if_pos rfl];exact fun c y=>conj_sem (f.2 D) (List.mem_filter.1 y).1
theorem ticks_one(S:List Sgn)(y:Dty)(xs:List Int):CP S [y] xs=[]\/CP S [y] xs=[y.to (Dc S y.now xs)]/\(xs≠[]->(Dc S y.now xs).op≠0):=by
 by_cases h:([y]:List Dty).length<=(CP S [y] xs).length
 ·obtain⟨X,W⟩:=ticks_map S xs [y] h;exact .inr ⟨by simpa using X,W y O⟩
 ·exact .inl (List.eq_nil_of_length_eq_zero (by have w:¬1<=(CP S [y] xs).length:=h;omega))
theorem left_sem{S:List Sgn}{x:Dty}{t:Int}{xs:List Int}{W:Wd}(P:isB (knS S) x.now=true)(f:∀i z,xs[i]?=some z->W i=vlS S z)(D:sem W x.now 0)(a:(Ba (CP S (CA x t) xs)).op≠0):
  LkS S (Ba (CP S (CA x t) xs))/\sem (dropW xs.length W) (Ba (CP S (CA x t) xs)) 0:=by
 have j:∀d:List Dty,d=[]->(Ba d).op≠0->LkS S (Ba d)/\sem (dropW xs.length W) (Ba d) 0:=fun d C h=>by
  subst C;obtain⟨X,_,Q⟩:=dgoal_lk (S:=S) h fun y F=>by cases F
  exact⟨X,(Q _ _).2 (.inr fun y F=>by cases F)⟩
 unfold CA at a⊢;by_cases v:(Cq x.first x.now).op=1
 ·rw[if_pos v]at a⊢;exact j _ (ticks_nil S xs) a
 ·rw[if_neg v]at a⊢;generalize F:(⟨⟨x.req.part,x.req.name,3,x.req.formula⟩,t,Cq x.first x.now,Cq x.first x.now⟩:Dty)=y at a⊢;have T:asmD y=false:=by rw[<-F];rfl
  have k:y.now=Cq x.first x.now:=by rw[<-F]
  rcases ticks_one S y xs with e|⟨e,m⟩
  ·exact j _ e a
  ·rw[e]at a⊢;have g:isB (knS S) y.now=true:=by rw[k];exact pend_is P
   obtain⟨X,l,Q⟩:=dgoal_lk (S:=S) a fun z o=>by
    simp at o;rw[o];exact run_is xs g
   refine⟨X,(Q _ _).2 (.inr fun z o _=>?_)⟩;simp at o;rw[o];show sem _ (Dc S y.now xs) 0;have R:BA (Dc S y.now xs)=true:=l (y.to (Dc S y.now xs)) O
   have M:BA y.now=true:=by
    cases xs with
    |nil=>exact R
    |cons z zs=>
     have b:=m O;rw[Dc]at b;by_cases V:(CK S y.now z).op=0
     ·rw[if_pos V]at b;exact absurd rfl b
     ·unfold CK at V;by_cases c:fitsB S y.now=true/\0<=z/\z<CQ S
      ·exact(fits_parts c.1).2.1
      ·rw[if_neg c]at V;exact absurd rfl V
   refine(run_sem xs (s:=W) ⟨M,g⟩ (loose_op R) f).2.2 ?_;rw[k]at M⊢;exact pend_sem P (loose_op M) D
theorem dgoal_canon{d:List Dty}(s:(Ba d).op≠0):Bc (Ba d)=Ba d:=by
 unfold Ba at s⊢;by_cases V:d.all kindD=true
 ·rw[if_pos V]at s⊢;rcases con_cases 6 (asmsF d++[Db 5 (gusF d)])with e|⟨X,W,Q⟩
  ·rw[e]at s;exact absurd rfl s
  ·rw[canG_of X,W];refine canon_fix (joinM_cf (.inr rfl) fun c V=>?_);obtain⟨a,I,rfl⟩:=List.mem_map.1 V;exact canon_cf (Cy (BG (Q a I)).2.2)
 ·rw[if_neg V]at s;exact absurd rfl s
theorem owed_sem{S:List Sgn}{x:Dty}{xs:List Int}{W:Wd}(T:LkS S x.now)(f:∀i z,xs[i]?=some z->W i=vlS S z)(D:sem W x.now 0){y:Dty}(F:CP S [x] xs=[y]){t:Int}(s:(Ba (CA y t)).op≠0):
  LkS S (Ba (CA y t))/\sem (dropW xs.length W) (Ba (CA y t)) 0:=by
 rcases ticks_one S x xs with e|⟨e,b⟩
 ·rw[e]at F;cases F
 ·rw[e]at F;simp only[List.cons.injEq,and_true]at F
  have c:(Dc S x.now xs).op≠0:=by
   cases xs with
   |nil=>exact lk_op T
   |cons z zs=>exact b O
  obtain⟨X,a⟩:=run_sem xs T c f;have L:y.now=Dc S x.now xs:=by rw[<-F];rfl
  have:=left_sem (S:=S) (x:=y) (t:=t) (xs:=[]) (W:=dropW xs.length W) (by rw[L];exact X.2) (fun i z h=>by simp at h) (by rw[L];exact a.2 D) s;exact this
theorem w_valid:A5 spcW.sigs=true:=by kernel_rfl
theorem w_num:CQ spcW.sigs=4:=by kernel_rfl
theorem w_chk:chkB spcW=true:=by kernel_rfl
def duW:Dty:=(strD 0 reqW).to (CK spcW.sigs (strD 0 reqW).now 1)
theorem w_tick:tickF spcW.sigs (startF spcW 0) 1=[duW]:=by kernel_rfl
theorem w_first:(runG spcW.sigs duW.first []).op=10:=by kernel_rfl
theorem w_now:(runG spcW.sigs duW.now []).op=5:=by kernel_rfl
def owW:Fml:=⟨9,[],0,0,[⟨1,[],0,0,[]⟩,isF [103] 1]⟩
def drW:Dty:=⟨⟨[112],[97],3,reqW.formula⟩,1,owW,owW⟩
theorem w_drop:CA duW 1=[drW]:=by kernel_rfl
theorem w_goal:Ba [drW]=owW:=by kernel_rfl
theorem w_lk:LkS spcW.sigs owW:=⟨by kernel_rfl,by kernel_rfl⟩
end Go.Proofs.YtohodbnnhlddpaaGreatDoor
