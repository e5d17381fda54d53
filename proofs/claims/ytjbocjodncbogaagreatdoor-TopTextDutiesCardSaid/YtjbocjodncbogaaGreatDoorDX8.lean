/- TopTextDuties, part 8 of 15: lemmas. Conditions: none. -/
import Derived.Test.YtjbocjodncbogaaGreatDoorDX7
namespace Go.Proofs.YtjbocjodncbogaaGreatDoor
open Go.RowKit Go.Proofs.Tryz
set_option linter.unusedVariables false
set_option linter.defProp false
def lx(w:World)(a:Option Addr)(n c:Nat)(h:n<=c):Fn Zp 211 [.slice a n c] w fun u w'=>u=.slice a n n/\w'=w:=by
 refine AM func211 rfl ntmps211 (go ?_);refine cH (h:=n) (m:=n) rfl rfl rfl (AO _) h ?_;exact sd
def pq{w:World}{B:Nat}{v:Value}{l:LF}{L:List (LV)}{ok:Nat->Prop}(d:w.ownsRow B 37 5 v l.length L.flatten)(j:FsAt ok w L l)(m:∀b,ok b->Unm w b):
  ∃a c,v=.slice a l.length c/\l.length<=c/\SlAt fmlR (Unm w) w (.slice a l.length c) l/\Sl (fun b=>B<=b/\Unm w b) w (.slice a l.length l.length) l.length L.flatten:=by
 have F:=j.mono m;have Z:RsAt fmlR (Unm w) w L l:=⟨j.1,fun i c x T V=>⟨j.2.1 c (BA T),F.2.2 i c x T V⟩⟩;rcases d.2 with⟨rfl,f⟩|⟨g,u,C,rfl,h,y,Q,n,q,P⟩
 ·obtain rfl:l=[]:=Dc f;exact⟨none,0,rfl,AO _,⟨none,0,L,rfl,BG (ok:=Unm w) d (fun g y=>by cases y),Z⟩,⟨none,0,rfl,by simp,by simp,fun _=>rfl,.inl rfl⟩⟩
 ·have o:Unm w g:=Unm.cells y;have k:=BG (ok:=fun b=>B<=b/\Unm w b) d (fun D S=>by cases S;exact⟨h,o⟩);refine⟨_,_,rfl,Q,⟨_,_,L,rfl,BG (ok:=Unm w) d (fun D S=>by cases S;exact o),Z⟩,?_⟩;obtain⟨a,c,e,p,W,R,A⟩:=k;cases e;exact⟨_,_,rfl,AO _,by unfold maxLen at n;omega,(fun e=>by cases e),A⟩
def eS(op:Int){l:LF}{k:Nat}{x:Fml}(h:l[k]?=some x):(l.take (k+1)).flatMap (Fl op)=(l.take k).flatMap (Fl op)++Fl op x:=by
 rw[CT,h];simp
def iM(op:Int){l:LF}{k:Nat}{x:Fml}(h:l[k]?=some x):DL op (l.take (k+1))=(DL op (l.take k)||decide (x.op=DA op)):=by
 rw[CT,h];simp[DL]
def aG(op:Int)(l:LF)(k:Nat):((l.take k).flatMap (Fl op)).length<=szL l:=
 Az (D8 _) (Az (O8 op _) (Te l k))
def FsAt.app{ok:Nat->Prop}{w:World}:∀{L M:List (LV)}{l m:LF},FsAt ok w L l->FsAt ok w M m->FsAt ok w (L++M) (l++m)
 | [],_,[],_,_,h=>h
 | [],_,_::_,_,h,_=>by have:=h.1;simp at this
 |_::_,_,[],_,h,_=>by have:=h.1;simp at this
 |c::L,M,x::l,m,h,h'=>FsAt.cons (h.2.2 0 c x rfl rfl) (h.2.1 c O) (FsAt.app ⟨by have:=h.1;simpa using this,fun d a=>h.2.1 d (by simp[a]),fun i d g a y=>h.2.2 (i+1) d g (by simpa using a) (by simpa using y)⟩ h')
def FsAt.oneC{ok:Nat->Prop}{w:World}{L:List (LV)}{l:LF}(h:FsAt ok w L l):oneC L.flatten:=by
 intro u o;obtain⟨c,T,n⟩:=List.mem_flatten.1 o;obtain⟨i,F⟩:=Cn T;have Z:i<l.length:=by rw[<-h.1];exact(Ah.1 F).1
 exact(h.2.2 i c _ F (AU Z)).one u n
def XX(w:World)(op:Int)(a4:op=5\/op=6)(a:Option Addr)(cap:Nat)(l:LF)(ok:Nat->Prop)(hl:SlAt fmlR ok w (.slice a l.length cap) l)(hu:∀b,ok b->Unm w b)(hz:szL l<=100000)(b6:∀x∈l,Sh x):
  Fn Zp 154 [iV op,.slice a l.length cap] w fun u w'=>Ext w w'/\FAt (fun b=>ok b\/(w.heap.size<=b/\Unm w' b)) w' u (GT op l):=by
 have d0:=hl.lt ry;have d4:l.length<=100000:=Az (D8 l) hz;obtain⟨d6,d7,d8,d9,e0⟩:=Ja a4;refine AM func154 rfl ntmps154 ?_;refine nX ?_;(refine AN ?_;refine Ai (L:=zero5) (fun w1 n1=>?_))
 refine nX ?_;have z1:=n1.size;have b4:=n1.D;have k1:=n1.E;refine AN (AT (AS rfl (AT (AS rfl ?_))));refine nX ?_;refine AN (AS rfl ?_);refine K6 rfl rfl ?_;refine AB ?_;refine Fx ?_;refine CE (α:=Unit) (fun _=>[(0,iV op),(1,.slice a l.length cap),(4,pt w.heap.size),(5,iV (Dk op)),(6,iV (DA op))]) (fun _ W=>W=w1) ?_ ?_
 ·rcases a4 with rfl|rfl
  ·exact sh
  ·exact sh
 rintro _ W f3 rfl;refine go ?_
 refine Aj (α:=Nat×Value×List (LV)) (fun|(k,v,_)=>[(0,.int .i64 op),(4,pt w.heap.size),(5,.int .i64 (Dk op)),(6,.int .i64 (DA op)),(7,v),(14,.slice a l.length cap),(15,.int .i64 (l.length:Int)),(16,.int .i64 (k:Int))])
  (fun y V=>y.1<=l.length/\Ext w V/\Blk V w.heap.size 37 zero5/\V.ownsRow W.heap.size 37 5 y.2.1 ((l.take y.1).flatMap (Fl op)).length y.2.2.flatten/\DL op (l.take y.1)=false/\FsAt (fun b=>ok b/\b<w.heap.size) V y.2.2 ((l.take y.1).flatMap (Fl op))/\W.heap.size<=V.heap.size) (fun y=>l.length-y.1) (0,nS,[]) ag ⟨by simp,k1,b4,⟨rfl,.inl ⟨rfl,rfl⟩⟩,rfl,FsAt.nil _ _,AO _⟩ ?_
 rintro⟨k,v,L⟩V fr⟨hk,kV,bV,K,a5,fV,zV⟩;simp only at hk bV K a5 fV;refine go ?_;by_cases b5:k<l.length
 ·refine go ?_;obtain⟨b,o,f,d,R,X,j,rfl,T,G⟩:=(d0.ext kV).c5 b5;have m:l[k]?=some (l.getD k Ad):=by rw[Ce,AU b5];rfl
  obtain⟨x,d1⟩:∃x,x=l.getD k Ad:=⟨_,rfl⟩;rw[<-d1]at m G;have d5:=BA m;have t:=eS op m;have a6:=iM op m;rw[a5,Ha]at a6;have a9:=aG op l (k+1);refine go ?_;refine Al (L:=[f,d,R,X,j]) rfl rfl T ?_;refine Ai (L:=zero5) (fun w4 n4=>?_);refine Aa (cs:=[f,d,R,X,j]) rfl rfl rfl G.one n4.D rK (fun w5 p5=>go ?_);have N:Ext V w5:=n4.E.E p5.E O;have b1:=G.ext N;obtain⟨av,e,La,hS,c3,hL5,hA⟩:=b1.form;simp only[Kb,QM,I7,KG]at e;obtain⟨rfl,rfl,rfl,rfl,rfl⟩:=e;have b8:Blk w5 V.heap.size 37 [iV x.op,AA x.name,iV x.val,iV x.bound,j]:=p5.D;have o5:=CD K N;have f5:=fV.ext N;have e5:=kV.Q N;have a1:=bV.E N O;have z5:=N.size;have z:∀g,v.ownBlock=some g->W.heap.size<=g:=fun g hg=>(Ao K hg).1;have hvk:∀(b:Nat),ok b/\b<w.heap.size->b∉v.ownBlock.toList:=fun b S m=>by have:=z b (Aw.1 m);omega
  refine go ?_;by_cases a7:x.op=op
  ·refine go ?_;have i:Fl op x=x.args:=by unfold Fl;rw[AJ a7]
   rw[i]at t;have Z:DL op (l.take (k+1))=false:=by rw[a6,BC];omega
   have c8:((l.take k).flatMap (Fl op)).length+x.args.length<=100000:=by rw[t,A9]at a9;omega
   have fA:FsAt (fun b=>ok b/\b<w.heap.size) w5 La x.args:=⟨c3,hL5,hA⟩;refine go ?_;refine Bk (v:=v) (sv:=j) rfl rfl o5 hS U rfl fA.flat fA.oneC U U U (fun v7 A q=>?_);have e7:Ext w A:=e5.E q.E (fun y I=>by have:=z y (Aw.1 I);omega);have H:=(f5.app fA).E q.E hvk;have b7:=a1.E q.E (fun m=>by have:=z _ (Aw.1 m);omega);have o7:A.ownsRow W.heap.size 37 5 v7 ((l.take (k+1)).flatMap (Fl op)).length (L++La).flatten:=by rw[t,A9,FN];exact q.own
   rw[<-t]at H;refine go ?_;refine⟨(k+1,v7,L++La),⟨rfl,⟨rfl,rfl,rfl,rfl,rfl,rfl,rfl,?_,trivial⟩,⟨by simp only;omega,e7,b7,o7,Z,H,Az (Az zV z5) q.E.size⟩⟩,by simp only;omega⟩;show iV ((k:Int)+1)=_;rw[BB];rfl
  ·by_cases a8:x.op=DA op
   ·refine go ?_;refine Aa (cs:=[iV (DA op),AA [],iV 0,iV 0,nS]) rfl rfl rfl (Ak rfl) a1 rK (fun p E=>go ?_)
    have d2:DL op l=true:=by
     unfold DL;exact RN m (by rw[BD];exact a8)
    rw[In a4,d2,AJ rfl];exact Ar rfl rfl rfl E.D.cells ⟨e5.E E.E O,FAt.leaf _ _ (DA op) [] 0 0⟩
   ·by_cases b3:x.op=Dk op
    ·refine go ?_;have i:Fl op x=[]:=by unfold Fl;rw[AG a7,AJ b3]
     rw[i,Ch]at t;have Z:DL op (l.take (k+1))=false:=by rw[a6,BC a8]
     rw[<-t]at f5 o5;refine go ?_;refine⟨(k+1,v,L),⟨rfl,⟨rfl,rfl,rfl,rfl,rfl,rfl,rfl,?_,trivial⟩,⟨by simp only;omega,e5,a1,o5,Z,f5,Az zV z5⟩⟩,by simp only;omega⟩;show iV ((k:Int)+1)=_;rw[BB];rfl
    ·refine go ?_;have i:Fl op x=[x]:=by unfold Fl;rw[AG a7,AG b3]
     rw[i]at t;have Z:DL op (l.take (k+1))=false:=by rw[a6,BC a8]
     have c8:((l.take k).flatMap (Fl op)).length+1<=100000:=by rw[t,A9]at a9;simp only[HA]at a9;omega
     refine go ?_;refine Ay (out:=[iV x.op,AA x.name,iV x.val,iV x.bound,j]) rfl U rP (fun w6 P=>?_);have o6:=P.own (n:=1) (size:=5) rfl rL (AO _);have z6:=P.size;refine Bk (ok:=AL) (v:=v) (sv:=.slice (sm w5.heap.size) 1 1) rfl rfl (CD o5 P.E) (BG o6 fun _ _=>trivial) U rfl rfl b1.one U U U (fun v7 A q=>?_);have e7:Ext w A:=(e5.Q P.E).E q.E (fun y I=>by have:=z y (Aw.1 I);omega);have H:=((f5.snoc b1 rfl).ext P.E).E q.E hvk;have b7:=(a1.E P.E O).E q.E (fun m=>by have:=z _ (Aw.1 m);omega)
     have o7:A.ownsRow W.heap.size 37 5 v7 ((l.take (k+1)).flatMap (Fl op)).length (L++[[iV x.op,AA x.name,iV x.val,iV x.bound,j]]).flatten:=by
      rw[t,A9,FN];simpa using q.own
     rw[<-t]at H;have z7:W.heap.size<=A.heap.size:=by have:=q.E.size;omega
     refine go ?_;refine⟨(k+1,v7,L++[[iV x.op,AA x.name,iV x.val,iV x.bound,j]]),⟨rfl,⟨rfl,rfl,rfl,rfl,rfl,rfl,rfl,?_,trivial⟩,⟨by simp only;omega,e7,b7,o7,Z,H,z7⟩⟩,by simp only;omega⟩;show iV ((k:Int)+1)=_;rw[BB];rfl
 ·refine go ?_;obtain rfl:k=l.length:=by omega
  rw[GE (AO _)]at K a5 fV;have z:∀g,v.ownBlock=some g->W.heap.size<=g:=fun g hg=>(Ao K hg).1;have hGz:szL (l.flatMap (Fl op))<=100000:=Az (O8 op l) hz
  have b0:∀x∈l.flatMap (Fl op),szF x<=1000000/\(x.op=4->0<x.args.length):=fun x m=>by
   refine⟨by have:=Ci m;omega,fun h4=>?_⟩;obtain⟨c,T,M⟩:=Ib.1 m
   have hs:Sh x:=by
    unfold Fl at M
    split at M
    ·exact(Sx (b6 c T)).2.2 x M
    ·split at M
     ·cases M
     ·rw[Bj.1 M];exact b6 c T
   have:=(Sx hs).2.1.2.1;rw[h4]at this;have:x.args.length=1:=by simpa[Am]using this
   omega
  have d3:(l.flatMap (Fl op)).length<=100000:=Az (D8 _) hGz;have a3:(Dl (l.flatMap (Fl op))).length<=100000:=Az (D8 _) (Az (SJ _) hGz);refine gC (ah V W.heap.size v _ L _ K fV (fun b S=>⟨(hu b S.1).eq (kV.block b S.2 O),by have:=kV.size;omega,fun e=>by have:=z b e;omega⟩) (fun x m=>(b0 x m).1) U) ?_;rintro u2 C⟨k2,e1,L2,o2,s⟩;have e2:Ext w C:=kV.E k2 (fun y I=>by have:=z y (Aw.1 I);omega);have b42:=bV.E k2 (fun m=>by have:=z _ (Aw.1 m);omega);obtain⟨a2,c2,rfl,Q,F,B⟩:=pq o2 s (fun b S=>(hu b S.1).eq (e2.block b S.2 O));have b2:=MX (l.flatMap (Fl op));have hDm:∀x∈Dl (l.flatMap (Fl op)),szF x<=1000000/\(x.op=4->0<x.args.length):=fun x m=>b0 x (mem_dist.1 m);rw[In a4,a5,AG CX];clear o2 b0;generalize Dl (l.flatMap (Fl op))=D at a3 F B s b2 hDm Q⊢;refine gC (dQ C a2 c2 D (Unm C) F (fun b h=>h) (fun x m=>(hDm x m).1) b2 U fun x m=>(hDm x m).2) ?_;rintro _ w3⟨rfl,k3⟩;have e3:=e2.Q k3;have a0:=b42.E k3 O;have c6:∀p,Keep [w.heap.size] C p->∀b,(W.heap.size<=b/\Unm C b)/\b<C.heap.size->ok b\/(w.heap.size<=b/\Unm p b):=fun p k9 b S=>.inr ⟨by omega,S.1.2.eq (k9.block b S.2 rE)⟩;unfold NC;cases hob:Fg D with
  |true=>
   rw[AJ rfl];refine go ?_;refine Aa (cs:=[iV (DA op),AA [],iV 0,iV 0,nS]) rfl rfl rfl (Ak rfl) a0 rK (fun p E=>go ?_);exact Ar rfl rfl rfl E.D.cells ⟨e3.E E.E O,FAt.leaf _ _ (DA op) [] 0 0⟩
  |false=>
   rw[AG CX];refine AT (AH rfl ?_);refine nY ?_
   match D,a3,F,B,s,b2,hDm,Q with
   | [],_,_,_,_,_,_,_=>
    refine AN (BY rfl (Cj rfl ?_));refine K6 rfl rfl ?_;refine AT (AH rfl ?_);refine nX ?_;refine AN (AS rfl (DB rF rF ?_));refine Aa (cs:=[iV (Dk op),AA [],iV 0,iV 0,nS]) rfl rfl rfl (Ak rfl) a0 rK (fun p E=>?_);refine nX ?_;exact Ar rfl rfl rfl E.D.cells ⟨e3.E E.E O,FAt.leaf _ _ (Dk op) [] 0 0⟩
   | [x],_,F,B,s,_,_,_=>
    obtain⟨f,d,R,X,j,c1,_,G⟩:=s.at (k:=0) O;obtain⟨b,o,rfl,S,T⟩:=Sl.fml B s.2.1 c1 O;have c7:Cells w3 b (o+0*5) [f,d,R,X,j]:=T.E k3 O;refine AN (BY rfl (Cj rfl ?_));refine K6 rfl rfl ?_;refine AT (AH rfl ?_);refine nY ?_;refine AN (BY rfl (Cj rfl ?_));refine K6 rfl rfl ?_;refine AT (AH rfl ?_);refine nX ?_;refine AN (BY rfl ?_);refine DZ (k:=0) rfl rfl rfl O ?_;refine Al (L:=[f,d,R,X,j]) rfl rfl c7 ?_;refine Aa (cs:=[f,d,R,X,j]) rfl rfl rfl G.one a0 rK (fun p E=>?_);refine nX ?_;exact Ar rfl rfl rfl E.D.cells ⟨e3.E E.E O,((G.ext k3).E E.E (fun y I r=>by have:=I.2;simp at r;omega)).mono fun y I=>.inl I.1⟩
   |x::y::D',a3,F,B,s,_,_,Q=>
    have c9:(x::y::D').length=D'.length+2:=rfl;generalize b9:x::y::D'=D2 at a3 F B s Q c9⊢;refine gC (lx w3 a2 D2.length c2 Q) ?_;rintro _ _⟨rfl,rfl⟩;refine go ?_;refine Aa (cs:=[iV op,AA [],iV 0,iV 0,.slice a2 D2.length D2.length]) rfl rfl rfl (Ak rfl) a0 rK (fun p E=>go ?_);have k9:Keep [w.heap.size] C p:=k3.any.Q E.E (fun _ h _=>h)
    have c4:Sl (fun b=>ok b\/(w.heap.size<=b/\Unm p b)) p (.slice a2 D2.length D2.length) D2.length L2.flatten:=by
     have h1:=(B.lt (Nv s.1 s.2.1)).E k9 (fun b S r=>by simp at r;omega);exact h1.mono (c6 p k9)
    have c0:FsAt (fun b=>ok b\/(w.heap.size<=b/\Unm p b)) p L2 D2:=(s.E k9 (fun b S r=>by have:=S.2;simp at r;omega)).mono fun b S=>.inl S.1;subst b9;exact Ar rfl rfl rfl E.D.cells ⟨e3.E E.E O,FAt.node op [] 0 0 c4 c0⟩
section
variable {mk:Prop}[MK mk]
structure Fil(B:Nat)(W:World)(g n:Nat)(l:LF)(L:List (LV))(Z:LV):Prop where
 D:Blk W g 37 (L.flatten++Z)
 zl:Z.length=(n-l.length)*5
 ln:l.length<=n
 fs:FsAt (fun b=>B<=b/\b≠g) W L l
 gB:B<=g
section
variable {B g n:Nat}{W W':World}{l:LF}{L:List (LV)}{Z:LV}
def Fil.start{w w':World}{z:Array Value}(h:New w w' 37 (madeCells z (n*5)).toList)(x:B<=w.heap.size):Fil B w' w.heap.size n [] [] (madeCells z (n*5)).toList:=
 ⟨h.D,by simp[madeCells],by simp,FsAt.nil _ _,x⟩
def Fil.ext(h:Fil B W g n l L Z)(k:Ext W W'):Fil B W' g n l L Z:=⟨h.D.E k O,h.zl,h.ln,h.fs.ext k,h.gB⟩
def Fil.room(h:Fil B W g n l L Z)(H:l.length<n):l.length*5+5<=(L.flatten++Z).length:=by
 rw[A9,h.fs.flat,h.zl];omega
def Fil.push{T:TypeId}{cs:LV}{x:Fml}(h:Fil B W g n l L Z)(K:FAt (fun b=>B<=b/\b≠g) W (.agg cs.toArray) x)(o:cs.length=5)(H:l.length<n)(p:Put W W' g T (splice (L.flatten++Z) (l.length*5) cs))(a:T=37):
  Fil B W' g n (l++[x]) (L++[cs]) (Z.drop 5):=by
 subst a;have t:=h.fs.flat
 have e:splice (L.flatten++Z) (l.length*5) cs=(L++[cs]).flatten++Z.drop 5:=by
  unfold splice;rw[<-t,Kd,o,No];simp
 have S:=p.D;rw[e]at S;refine⟨S,by rw[HY,h.zl,A9];simp only[HA];omega,by rw[A9];simp only[HA];omega,?_,h.gB⟩;exact(h.fs.snoc K o).E p.E fun b S V=>by simp at V;exact S.2 V
def Fil.fin(h:Fil B W g n l L Z)(H:l.length=n)(r:n<=1000000):SlAt fmlR (fun b=>B<=b) W (.slice (sm g) n n) l/\
  ∀(op:Int)(d:LU)(v b:Int),FAt (fun b=>B<=b) W (.agg #[iV op,AA d,iV v,iV b,.slice (sm g) n n]) ⟨op,d,v,b,l⟩:=by
 subst H;have p:Z=[]:=Dc (by rw[h.zl];simp);have S:=h.D;rw[p,Ch]at S;have f:Sl (fun b=>B<=b) W (.slice (sm g) l.length l.length) l.length L.flatten:=⟨_,_,rfl,AO _,by omega,(fun e=>by cases e),.inr ⟨g,0,rfl,h.gB,S.cells⟩⟩;have j:FsAt (fun b=>B<=b) W L l:=h.fs.mono fun b S=>S.1;exact⟨⟨_,_,L,rfl,f,j.1,fun i c a T G=>⟨j.2.1 c (BA T),j.2.2 i c a T G⟩⟩,fun op d v b=>FAt.node op d v b f j⟩
end
end
def FAt.unm{ok:Nat->Prop}{X:List Nat}{w w':World}{u:Value}{f:Fml}(h:FAt (fun b=>ok b/\Unm w b) w u f)(k:Keep X w w')(T:∀b,ok b->b∉X):FAt (fun b=>ok b/\Unm w' b) w' u f:=
 (h.lt.E k fun b S=>T b S.1.1).mono fun b S=>⟨S.1.1,S.1.2.eq (k.block b S.2 (T b S.1.1))⟩
def FsAt.unm{ok:Nat->Prop}{X:List Nat}{w w':World}{L:List (LV)}{l:LF}(h:FsAt (fun b=>ok b/\Unm w b) w L l)(k:Keep X w w')(T:∀b,ok b->b∉X):FsAt (fun b=>ok b/\Unm w' b) w' L l:=
 (h.lt.E k fun b S=>T b S.1.1).mono fun b S=>⟨S.1.1,S.1.2.eq (k.block b S.2 (T b S.1.1))⟩
def SlAt.unm{ok:Nat->Prop}{X:List Nat}{w w':World}{v:Value}{l:LF}(h:SlAt fmlR (fun b=>ok b/\Unm w b) w v l)(k:Keep X w w')(T:∀b,ok b->b∉X):SlAt fmlR (fun b=>ok b/\Unm w' b) w' v l:=
 ((SlAt.lt ry h).E k fun b S=>T b S.1.1).mono fun b S=>⟨S.1.1,S.1.2.eq (k.block b S.2 (T b S.1.1))⟩
def Y0(w:World)(N:Option Addr)(args:LF):Prop:=∀(k:Nat)(a:Fml),args[k]?=some a->∀W,Ext w W->∃q m,N=some ⟨q,m,none⟩/\Fn Zp 114 [.pointer (sn q (m+k*5))] W fun u X=>Ext W X/\FAt (fun b=>W.heap.size<=b/\Unm X b) X u (Ba a)
def eD(w:World)(args:LF)(N:Option Addr)(A:Nat)(a0:args.length<=1000)(q:Y0 w N args):
  Fn Zp 155 [.slice N args.length A] w fun u w'=>Ext w w'/\∃g,u=.slice (sm g) args.length args.length/\SlAt fmlR (fun b=>w.heap.size<=b/\Unm w' b) w' u (args.map Ba):=by
 refine AM func155 rfl ntmps155 (go ?_);refine ST (n:=args.length) rfl rfl rfl rfl U rL (fun w2 R=>?_);have j:=Fil.start (B:=w.heap.size) R (AO _);refine go ?_
 refine Aj (α:=Nat×List (LV)×LV) (fun y=>[(0,.slice N args.length A),(3,.slice (sm w.heap.size) args.length args.length),(9,iV (args.length:Int)),(10,iV (y.1:Int))])
  (fun y W=>y.1<=args.length/\Ext w W/\Fil w.heap.size W w.heap.size args.length ((args.take y.1).map Ba) y.2.1 y.2.2/\FsAt (fun b=>(w.heap.size<=b/\b≠w.heap.size)/\Unm W b) W y.2.1 ((args.take y.1).map Ba)/\w.heap.size<W.heap.size) (fun y=>args.length-y.1) (0,[],_) ag ⟨by simp,R.E,by simpa using j,by simpa using FsAt.nil _ _,by have:=R.size;omega⟩ ?_
 rintro⟨k,L,Z⟩W fr⟨P,K,l,s,C⟩;simp only at P K l s C;have d:((args.take k).map Ba).length=k:=by simp;omega
 refine go ?_;by_cases z:k<args.length
 ·refine go ?_;obtain⟨x,V⟩:∃x,args[k]?=some x:=⟨_,AU z⟩;obtain⟨b',o',rfl,M⟩:=q k x V W K;refine go ?_;refine AD M rfl ?_;rintro u w4⟨h,D⟩;obtain⟨t,rfl,o,Q⟩:=D.cells;refine go ?_;have f:=l.ext h;have X:=f.room (by rw[d];exact z);rw[d]at X;refine Aa (cs:=t) rfl rfl o Q f.D U (fun w5 m=>go ?_);have E:=m;rw[show 0+k*5=((args.take k).map Ba).length*5 by rw[d];omega]at E;have H:=f.push (D.mono fun y I=>⟨by omega,by omega⟩) o (by rw[d];exact z) E rfl;have u4:=s.unm h (fun _ _=>by simp);have u6:=(u4.snoc (D.mono fun y I=>⟨⟨by omega,by omega⟩,I.2⟩) o).unm m.E (fun y I r=>by rw[Bj]at r;exact I.2 r);refine go ?_;refine⟨(k+1,L++[t],Z.drop 5),⟨rfl,⟨rfl,rfl,rfl,?_,trivial⟩,⟨by simp only;omega,(K.Q h).E m.E O,?_,?_,by have:=m.size;have:=h.size;omega⟩⟩,by simp only;omega⟩
  ·show iV ((k:Int)+1)=_;rw[BB];rfl
  ·simp only;rw[CT,V,FB];exact H
  ·simp only;rw[CT,V,FB];exact u6
 ·refine go ?_;rw[GE U]at l s;refine go ?_;refine AC rfl ⟨K,w.heap.size,rfl,?_⟩;have v:(args.map Ba).length=args.length:=by simp
  have p:Z=[]:=Dc (by rw[l.zl,v];simp);have S:=l.D;rw[p,Ch]at S;have F:FsAt (fun b=>w.heap.size<=b/\Unm W b) W L (args.map Ba):=s.mono fun b S=>⟨S.1.1,S.2⟩;refine⟨some ⟨w.heap.size,0,none⟩,args.length,L,?_,?_,F.1,fun i c a T G=>⟨F.2.1 c (BA T),F.2.2 i c a T G⟩⟩
  ·rw[v];rfl
  ·rw[v];exact⟨_,_,rfl,AO _,by omega,(fun e=>by cases e),.inr ⟨w.heap.size,0,rfl,⟨AO _,Unm.cells S⟩,S.cells⟩⟩
def RQ(w:World)(i g o n c:Nat)(l:LF)(k:Nat)(x:Fml)(ok:Nat->Prop)(S:Blk w i 35 [.slice (sn g o) n c])(C:PF ok w g (o+k*5) x)(P:k<n):
  Fn Zp 170 [iV (k:Int),pt i] w fun u w'=>u=.bool (Cz x)/\w'=w:=by
 have R:=C.opc;refine AM func170 rfl ntmps170 (go ?_);by_cases Z:x.op=1
 ·have B:Cz x=true:=by unfold Cz;rw[BE Z,SM]
  rw[B];exact sd
 ·by_cases W:x.op=2
  ·have B:Cz x=true:=by unfold Cz;rw[BE W,Bool.or_true]
   rw[B];exact sd
  ·have B:Cz x=false:=by unfold Cz;rw[BC Z,BC W];rfl
   rw[B];exact sd
def SlAt.el{ok:Nat->Prop}{w:World}{g n c:Nat}{l:LF}{k:Nat}{x:Fml}(h:SlAt fmlR ok w (.slice (sm g) n c) l)(V:l[k]?=some x):PF ok w g (0+k*5) x/\∃f a i m j,Cells w g (0+k*5) [f,a,i,m,j]/\FAt ok w (.agg [f,a,i,m,j].toArray) x:=by
 obtain⟨b,o,e,C⟩:=SlAt.pf h V;cases e;refine⟨C,?_⟩;obtain⟨_,d,p,T,K⟩:=C;obtain⟨f,a,i,m,j,rfl⟩:=An p;exact⟨f,a,i,m,j,T,K⟩
def ie:∀(n:Nat)(w:World)(b o:Nat)(f:Fml),dpF f<=n->szF f<=1000->PF AL w b o f->Sh f->Fn Zp 114 [.pointer (sn b o)] w fun u w'=>Ext w w'/\FAt (fun b=>w.heap.size<=b/\Unm w' b) w' u (Ba f):=by
 intro n
 induction n with
 |zero=>intro w b o f hd;rw[Cr]at hd;omega
 |succ n ih=>
 intro w b o f hd hz hf hs;obtain⟨aa,cc,d0,q0,q1,q2,q3,q4,qa⟩:=hf.all;obtain⟨M,H,v,bd,m⟩:=f;obtain⟨_,⟨d7,a8,d9,e0,_⟩,b4⟩:=sh_iff.1 hs;rw[Cr]at hd;rw[Bn]at hz;simp only[Fml.op,Fml.name,Fml.val,Fml.args]at hd hz d0 q0 q1 q2 q4 qa;have d8:=D8 m;have c6:=HX w _ q0;simp only at c6
 have c5:∀V,Ext w V->Y0 V aa m:=fun V eV k a ha W eW=>by
  obtain⟨b',o',e,C⟩:=qa k a ha;have b1:=BA ha;have h1:=Ds b1;have h2:=Ci b1;exact⟨b',o',e,ih W b' _ a U U (C.E (eV.Q eW) (fun _ _=>by simp)) (b4 a b1)⟩
 rw[Im];refine AM func114 rfl ntmps114 (go ?_);refine Ai (L:=zero5) (fun Q D=>go ?_);have z1:=D.size;have d4:=D.E.cell q4 O;refine gC (eD Q m aa cc U (c5 Q D.E)) ?_;rintro _ w2⟨k2,g,rfl,c0⟩;refine Ai (L:=[nS]) (fun w3 n3=>?_);refine AW (v:=.slice (sm g) m.length m.length) rfl rfl rfl n3.D O (fun t p4=>?_);refine nX ?_;have b3:Blk t w2.heap.size 35 [.slice (sm g) m.length m.length]:=p4.D;have a6:Ext w2 t:=n3.E.E p4.E O;have G:Ext w t:=(D.E.Q k2).Q a6;have T:Blk t w.heap.size 37 zero5:=D.D.E (k2.Q a6) O;have N:=c0.unm a6 (fun _ _=>by simp);have z2:=k2.size;have e1:=a6.size;have b7:=G.cell q0 O;have d2:=G.cell q1 O;have d3:=G.cell q2 O;have Z:(m.map Ba).length=m.length:=by simp
 have b5:∀x∈m.map Ba,Sh x:=fun x P=>by
  obtain⟨y,I,rfl⟩:=By.1 P;exact Sr (RO (b4 y I))
 have b6:szL (m.map Ba)<=1000:=by
  have:=SI Ba m fun a ha=>RP (b4 a ha);omega
 clear c0 D k2 n3 p4 d4;generalize m.map Ba=l at N Z b5 b6⊢;obtain⟨B,c7⟩:∃B,B=w2.heap.size:=⟨_,rfl⟩;rw[<-c7]at b3⊢;have d5:Q.heap.size<=B:=by omega
 refine AN (Jt rfl rfl (AT (K3 rfl ?_)));refine nX ?_;(refine AN (Aq rfl (A7 rfl (AV rfl (AQ rfl rG ?_))))<;>refine AB ?_)
 refine Fx ?_;refine CE (α:=Unit) (fun _=>[(0,.pointer (sn b o)),(2,pt w.heap.size),(3,pt B)]) (fun _ W=>W=t/\Dr M H v l=⟨M,H,v,0,l⟩) ?_ ?_
 ·have a2:∀k,k<m.length->∃x,l[k]?=some x/\l.getD k Ad=x:=fun k hk=>by
   have c2:k<l.length:=by omega
   exact⟨l[k],AU c2,by rw[Ce,AU c2];rfl⟩
  refine go ?_;by_cases b9:M=5\/M=6
  ·rcases b9 with rfl|rfl
   ·refine go ?_;rw[show Dr 5 H v l=GT 5 l by unfold Dr;rw[AJ U]];refine Ab (rd 0 5 (.alt 5 (.alt 6 .done .stop) .stop)) AX rD (fun X p ed=>⟨fun V=>Keep [w.heap.size] X V,?_,?_⟩)
    ·exact tK
    have s1:∀V,Keep [w.heap.size] X V->CC V b (o+0) (iV 5):=fun V e=>e.cell (p.cell b7 O) rE;have s2:∀V,Keep [w.heap.size] X V->CC V B 0 (.slice (sm g) m.length m.length):=fun V e=>e.cell ((b3.E p O).cell rfl) rE;refine gE ?_;have a1:=SlAt.lt ry (N.unm p (fun _ _=>by simp));rw[<-Z]at a1;have hj:=XX X 5 U (sm g) _ l _ a1 (fun b hb=>hb.1.2) (Az b6 U) b5;rw[Z]at hj;refine AD hj rfl ?_;rintro u w5⟨F,f5⟩;obtain⟨K,rfl,hcs,b2⟩:=f5.cells;obtain⟨q,d,s,z,A,rfl⟩:=An hcs;refine AB ⟨_,fun _ e=>e,F.any,?_⟩;refine D_E rfl ?_;have zd:=p.size;have z5:=F.size;refine Aa (cs:=[q,d,s,z,A]) rfl rfl rfl b2 ((T.E p O).E F O) rK (fun R E=>?_);refine AB ⟨_,fun _ e=>e,F.any.Q E.E (fun _ h _=>h),?_⟩;refine go ?_
    have f6:FAt (fun b=>Q.heap.size<=b/\Unm w5 b) w5 (.agg [q,d,s,z,A].toArray) (GT 5 l):=f5.mono fun y I=>by
     rcases I with h|h
     ·exact⟨h.1.1,h.1.2.eq (F.block y h.2 O)⟩
     ·exact⟨by omega,h.2⟩
    exact tj
   ·refine go ?_;rw[show Dr 6 H v l=GT 6 l by unfold Dr;rw[AJ U]];refine Ab (rd 0 5 (.alt 5 (.alt 6 .done .stop) .stop)) AX rD (fun X p ed=>⟨fun V=>Keep [w.heap.size] X V,?_,?_⟩)
    ·exact tK
    have s1:∀V,Keep [w.heap.size] X V->CC V b (o+0) (iV 6):=fun V e=>e.cell (p.cell b7 O) rE;have s2:∀V,Keep [w.heap.size] X V->CC V B 0 (.slice (sm g) m.length m.length):=fun V e=>e.cell ((b3.E p O).cell rfl) rE;refine gE ?_;have a1:=SlAt.lt ry (N.unm p (fun _ _=>by simp));rw[<-Z]at a1;have hj:=XX X 6 U (sm g) _ l _ a1 (fun b hb=>hb.1.2) (Az b6 U) b5;rw[Z]at hj;refine AD hj rfl ?_;rintro u w5⟨F,f5⟩;obtain⟨K,rfl,hcs,b2⟩:=f5.cells;obtain⟨q,d,s,z,A,rfl⟩:=An hcs;refine AB ⟨_,fun _ e=>e,F.any,?_⟩;refine D_E rfl ?_;have zd:=p.size;have z5:=F.size;refine Aa (cs:=[q,d,s,z,A]) rfl rfl rfl b2 ((T.E p O).E F O) rK (fun R E=>?_);refine AB ⟨_,fun _ e=>e,F.any.Q E.E (fun _ h _=>h),?_⟩;refine go ?_
    have f6:FAt (fun b=>Q.heap.size<=b/\Unm w5 b) w5 (.agg [q,d,s,z,A].toArray) (GT 6 l):=f5.mono fun y I=>by
     rcases I with h|h
     ·exact⟨h.1.1,h.1.2.eq (F.block y h.2 O)⟩
     ·exact⟨by omega,h.2⟩
    exact tj
  ·by_cases h8:M=8
   ·subst h8;have d6:m.length=1:=by simpa[Am]using a8
    obtain⟨x,P,a3⟩:=a2 0 U;obtain⟨C,q,d,s,z,A,a0,S⟩:=N.el P;have j:=Kk H v l;rw[a3]at j;refine go ?_;refine Bg (v1:=[]) (v2:=[pt B]) (vs:=[iV ((0:Nat):Int)]) rfl (RQ t B g 0 _ _ l 0 x _ b3 C U) rfl ?_;rintro _ t⟨rfl,rfl⟩;cases hic:Cz x with
    |true=>
     rw[hic,AJ rfl]at j;exact sL
    |false=>
     rw[hic,AG CX]at j;refine go ?_;exact Af () ag ⟨rfl,j⟩
   ·by_cases h9:M=9
    ·subst h9;have hl2:m.length=2:=by simpa[Am]using a8
     obtain⟨y,I,b0⟩:=a2 0 U;obtain⟨hpy,_⟩:=N.el I;obtain⟨x,P,a3⟩:=a2 1 U;obtain⟨C,q,d,s,z,A,a0,S⟩:=N.el P;have j:=Kl H v l;rw[a3,b0]at j;have qy:=hpy.opc;refine go ?_;refine Bg (v1:=[]) (v2:=[pt B]) (vs:=[iV ((1:Nat):Int)]) rfl (RQ t B g 0 _ _ l 1 x _ b3 C U) rfl ?_;rintro _ t⟨rfl,rfl⟩;cases hic:Cz x with
     |true=>
      rw[AJ (.inl hic)]at j;exact sL
     |false=>
      by_cases a4:y.op=2
      ·rw[AJ (.inr a4)]at j;exact sL
      ·exact ue
    ·by_cases b8:M=10
     ·subst b8;have hl2:m.length=2:=by simpa[Am]using a8
      obtain⟨y,I,b0⟩:=a2 0 U;obtain⟨hpy,_⟩:=N.el I;obtain⟨x,P,a3⟩:=a2 1 U;obtain⟨C,q,d,s,z,A,a0,S⟩:=N.el P;have j:=Kf H v l;rw[a3,b0]at j;have qy:=hpy.opc;refine go ?_;refine Bg (v1:=[]) (v2:=[pt B]) (vs:=[iV ((1:Nat):Int)]) rfl (RQ t B g 0 _ _ l 1 x _ b3 C U) rfl ?_;rintro _ t⟨rfl,rfl⟩;cases hic:Cz x with
      |true=>
       rw[AJ (.inl hic)]at j;exact sL
      |false=>
       by_cases a4:y.op=1
       ·rw[AJ (.inr a4)]at j;exact sL
       ·exact ue
     ·refine go ?_;exact Af () ag ⟨rfl,Km b9 h8 h9 b8 H v l⟩
 rintro _ W f5⟨rfl,d1⟩;rw[d1];refine go ?_;refine Ab (rd 0 14 (.alt 14 .done .stop)) AX rD (fun X p ed=>⟨fun V=>Keep [w.heap.size] X V,?_,?_⟩)
 ·exact tK
 have s0:∀V,Keep [w.heap.size] X V->CC V b (o+0) (iV M):=fun V e=>e.cell (p.cell b7 O) rE;have s1:∀V,Keep [w.heap.size] X V->CC V b (o+1) (AA H):=fun V e=>e.cell (p.cell d2 O) rE;have s2:∀V,Keep [w.heap.size] X V->CC V b (o+2) (iV v):=fun V e=>e.cell (p.cell d3 O) rE;have s3:∀V,Keep [w.heap.size] X V->CC V B 0 (.slice (sm g) m.length m.length):=fun V e=>e.cell ((b3.E p O).cell rfl) rE;refine go ?_;refine gE ?_;refine Aa (cs:=[iV M,AA H,iV v,iV 0,.slice (sm g) m.length m.length]) rfl rfl rfl (Ak rfl) (T.E p O) rK (fun R E=>?_);refine AB ⟨_,fun _ e=>e,E.E,?_⟩;refine go ?_;have zd:=p.size;have c4:=(N.unm p (fun _ _=>by simp)).unm E.E (fun y I r=>by rw[Bj]at r;omega);obtain⟨a9,c9,L9,e9,a7,a5⟩:=c4;rw[Z]at a7 e9
 have c3:FsAt (fun b=>Q.heap.size<=b/\Unm R b) R L9 l:=⟨a5.1,fun c hc=>by
  obtain⟨i,hi⟩:=Cn hc;have c8:i<l.length:=by rw[<-a5.1];exact(Ah.1 hi).1
  exact(a5.2 i c _ hi (AU c8)).1,fun i c x hc P=>(a5.2 i c x hc P).2⟩
 rw[<-Z]at a7;have c1:=FAt.node M H v 0 a7 c3;rw[Z]at c1;refine go ?_;exact Ar rfl rfl rfl E.D.cells ⟨(G.Q p).E E.E O,c1.mono fun y I=>⟨by omega,I.2⟩⟩
section
variable {mk:Prop}[MK mk]
def Ta{op v b:Int}{l:LU}{args:LF}{i:Bool}(h:BQ i (.mk op l v b args)=true)(C:op=15\/op=16\/op=17):Cp (.mk op l v b args)=true:=by
 obtain⟨_,_,_,A⟩:=HI h;have e:(i||CR op)=true:=by rcases C with rfl|rfl|rfl<;>cases i<;>rfl
 rw[e]at A;rw[Cp,Ma fun a G=>Ik a (A a G)];rcases C with rfl|rfl|rfl<;>rfl
def ju(w0:World)(r:Nat)(S:List Sgn)(x:Int)(hR:Rdr w0 r S x):∀(n:Nat)(w:World)(b o:Nat)(f:Fml)(i:Bool),dpF f<=n->szF f<=1000->Ext w0 w->PF AL w b o f->BQ i f=true->isB (knS S) f=true->
  Fn Zp 298 [pt r,.pointer (sn b o)] w fun u w'=>Ext w w'/\FAt (fun b=>w.heap.size<=b) w' u (C4 (vlS S x) f):=by
 have c2:=Xo w0 r S x hR;obtain⟨X,hX⟩:∃X,X=vlS S x:=⟨_,rfl⟩;rw[<-hX]at c2⊢;intro n
 induction n with
 |zero=>intro w b o f i hd;rw[Cr]at hd;omega
 |succ n ih=>
 intro w b o f i hd hz e0 hf hb hk;have e2:dpF f<=n+1:=hd;have e9:=@Ta;have f6:=hf;have c6:=hb;have e6:=hk;obtain⟨M,l,T,bd,c⟩:=f;obtain⟨f9,f0,_,b6⟩:=HI hb;have d8:=Fp f0;obtain⟨f7,c1⟩:=is_iff.1 hk;have hla:=D8 c;rw[Cr]at hd;rw[Bn]at hz;simp only[Fml.args]at hd hz;rw[Rw];refine AM func298 rfl ntmps298 (go ?_);refine Ai (fun w1 n1=>go ?_);have z1:=n1.size;have c9:=hf.E n1.E (fun _ _=>by simp);obtain⟨aa,cc,_,q0,q1,q2,q3,q4,_⟩:=c9.all;refine Ab (rd 0 13 (.alt 13 (.alt 14 .done .stop) .stop)) AX rD (fun C m ed=>⟨Ext C,?_,?_⟩)
 ·exact sY
 have s0:∀V,Ext C V->CC V b (o+0) (iV M):=fun V e=>(m.Q e).cell q0 O;have s1:∀V,Ext C V->CC V b (o+1) (AA l):=fun V e=>(m.Q e).cell q1 O;have s2:∀V,Ext C V->CC V b (o+2) (iV T):=fun V e=>(m.Q e).cell q2 O;refine go ?_;refine gE ?_;refine Ai (L:=zero5) (fun w2 n2=>?_);refine AB ⟨Ext C,fun _ e=>e,n2.E,?_⟩;refine D_E rfl ?_;refine Aa (cs:=[iV M,AA l,iV T,iV 0,nS]) rfl rfl rfl (Ak rfl) n2.D rK (fun Z p3=>?_);refine AB ⟨Ext C,fun _ e=>e,n2.E.E p3.E O,?_⟩;refine Cy ?_;clear s0 s1 s2 q0 q1 q2 q3 q4;have z2:=n2.size;have z3:=p3.size;have zd:=m.size;have b3:Blk Z C.heap.size 37 [iV M,AA l,iV T,iV 0,nS]:=p3.D;have d3:Ext C Z:=n2.E.E p3.E O;have c3:Ext w1 Z:=m.Q d3;have P:Ext w Z:=n1.E.Q c3;have b4:Blk Z w.heap.size 37 zero5:=n1.D.E c3 O;have a9:=hf.E P (fun _ _=>by simp);have d0:=hf;have q0:=a9.opc;obtain⟨f1,f2,_,d4,b9⟩:=a9.arg;simp only[Fml.op,Fml.args]at q0 d4 b9;obtain⟨D,d9⟩:∃D,D=C.heap.size:=⟨_,rfl⟩;rw[<-d9]at b3⊢;have hc5w:w1.heap.size<=D:=by omega
 have hc5l:D<Z.heap.size:=b3.lt;clear c9 n2 p3 d3 c3 n1;obtain⟨R,a7⟩:∃R,R=JW X M T ((c.map (Bb X)).getD 0 false) (Bb X (.mk M l T bd c)):=⟨_,rfl⟩;rw[<-a7];refine nX ?_;refine AN (AT (AH rfl ?_));refine nX ?_;(refine AN (Aq rfl (A7 rfl (AV rfl (AQ rfl rG ?_))))<;>refine AB ?_)
 refine Fx ?_;refine CE (α:=Bool×Int) (fun y=>[(0,pt r),(1,.pointer (sn b o)),(4,pt w.heap.size),(5,pt D),(6,.bool y.1)]) (fun y W=>Ext w W/\(if y.1 then 1 else y.2)=R/\Blk W D 37 [iV M,AA l,iV y.2,iV 0,nS]/\Blk W w.heap.size 37 zero5) ?_ ?_
 ·by_cases c5:M=15
  ·subst c5;have e7:c.length=1:=by simpa[Am]using d8
   obtain⟨a,ha⟩:=FU e7;have ham:a∈c:=by rw[ha];simp
   obtain⟨q,o',rfl,e5⟩:=b9 0 a (by rw[ha];rfl);have b7:=b6 a ham;simp only[show∀i,(i||CR 15)=true from fun i=>by cases i<;>rfl]at b7;refine gC (c2 n Z q _ a true (by have:=Ds ham;omega) (e0.Q P) e5 b7 (Ik a b7) (c1 a ham)) ?_;rintro _ w4⟨rfl,E⟩;refine go ?_;refine AW (v:=iV 0) rfl rfl rfl (b3.E E O) O (fun w5 s=>go ?_);exact Af (Bb X a,0) ag ⟨(P.Q E).E s.E rE,by rw[a7,ha];rfl,s.D,(b4.E E O).E s.E rE⟩
  ·by_cases h67:M=16\/M=17
   ·have c7:=c2 (n+1) Z b o (.mk M l T bd c) i e2 (e0.Q P) a9 c6 (e9 c6 (.inr h67)) e6;have a8:R=NO (Bb X (.mk M l T bd c)):=by rw[a7];unfold JW;rw[AG c5,AJ h67]
    refine go ?_;rcases h67 with rfl|rfl
    ·refine go ?_;refine AD c7 rfl ?_;rintro _ w4⟨rfl,E⟩;refine go ?_;refine AW (v:=iV 0) rfl rfl rfl (b3.E E O) O (fun w5 s=>go ?_);exact Af (Bb X (.mk 16 l T bd c),0) ag ⟨(P.Q E).E s.E rE,a8.symm,s.D,(b4.E E O).E s.E rE⟩
    ·refine go ?_;refine AD c7 rfl ?_;rintro _ w4⟨rfl,E⟩;refine go ?_;refine AW (v:=iV 0) rfl rfl rfl (b3.E E O) O (fun w5 s=>go ?_);exact Af (Bb X (.mk 17 l T bd c),0) ag ⟨(P.Q E).E s.E rE,a8.symm,s.D,(b4.E E O).E s.E rE⟩
   ·have a8:R=T:=by rw[a7];exact To X _ _ _ U
    refine go ?_;exact Af (false,T) ag ⟨P,a8.symm,b3,b4⟩
 rintro⟨hh,y⟩W3 f3⟨b2,b1,a5,c4⟩;simp only at b1 a5;refine nX ?_;refine AN (AH rfl (AB ?_));refine Fx ?_;refine CE (α:=Unit) (fun _=>[(0,pt r),(1,.pointer (sn b o)),(4,pt w.heap.size),(5,pt D)]) (fun _ W=>Ext w W/\Blk W D 37 [iV M,AA l,iV R,iV 0,nS]/\Blk W w.heap.size 37 zero5) ?_ ?_
 ·cases hh with
  |true=>
   refine go ?_;refine AW (v:=iV 1) rfl rfl rfl a5 O (fun w5 s=>go ?_);refine Af () ag ⟨b2.E s.E rE,?_,c4.E s.E rE⟩;rw[<-b1];exact s.D
  |false=>
   refine go ?_;refine Af () ag ⟨b2,?_,c4⟩;rw[<-b1];exact a5
 rintro _ W4 f4⟨E,b5,d7⟩;clear b3 b4 q0 a9 P hc5l b2 a5 c4 b1 b9 d4;have e3:=d0.E E (fun _ _=>by simp);obtain⟨aa,cc,_,a2,_⟩:=e3.arg;simp only[Fml.args]at a2;refine go ?_
 refine Aj (α:=Nat×Value×List (LV)) (fun x=>[(0,pt r),(1,.pointer (sn b o)),(4,pt w.heap.size),(5,pt D),(48,iV (c.length:Int)),(49,iV (x.1:Int))])
  (fun x W=>x.1<=c.length/\Ext w W/\Bld w1 W D M l R 0 ((c.take x.1).map (C4 X)) x.2.1 x.2.2/\Blk W w.heap.size 37 zero5/\D<W.heap.size) (fun x=>c.length-x.1) (0,nS,[]) ag ⟨by simp,E,by simpa using Bld.start b5,d7,b5.lt⟩ ?_
 rintro⟨k,v,L⟩W fr⟨hk,K,p,bz,e1⟩;simp only at hk K p bz e1;refine go ?_;by_cases e8:k<c.length
 ·refine go ?_;obtain⟨x,j⟩:∃x,c[k]?=some x:=⟨_,AU e8⟩;have e4:=d0.E K (fun _ _=>by simp);obtain⟨aa,cc,_,a2,c8⟩:=e4.arg;simp only[Fml.args]at a2 c8;obtain⟨q,o',rfl,d1⟩:=c8 k x j;refine Ab (.read 0 (rd 2 7 (.alt 1 (.alt 9 (.alt 10 (.alt 11 (.read 12 (.alt 13 .done .stop)) .stop) .stop) .stop) (.alt 9 (.alt 1 (.alt 10 (.alt 11 (.read 12 (.alt 13 .done .stop)) .stop) .stop) (.alt 10 (.alt 1 (.alt 11 (.read 12 (.alt 13 .done .stop)) .stop) .stop) .stop)) .stop)))) AX rD (fun C m ed=>⟨fun V=>CC V b (o+4) (.slice (sn q o') c.length cc),?_,?_⟩)
  ·exact m.cell a2 O
  have ca:∀V:World,CC V b (o+4) (.slice (sn q o') c.length cc)->CC V b (o+4) (.slice (sn q o') c.length cc):=fun V e=>e;refine go ?_;have hSd:CC C b (o+4) (.slice (sn q o') c.length cc):=m.cell a2 O;have a6:=p.ext m;have hbw:b<w.heap.size:=by have:=hf.lt.1;exact this.2
  have zd:=m.size;have a1:=BA j;have f5:=Ds a1;have g0:=Ci a1;have c0:∀g,v.ownBlock=some g->g<C.heap.size:=fun g hg=>(Ao a6.own hg).2;refine D_A rfl ?_ ?_
  ·refine AQ rfl (a6.D.cell (o:=4) rfl) ?_;refine wNl hSd ?_;refine D_E rfl ?_;refine AD (ih C q (o'+k*5) x _ U U (e0.Q (K.Q m)) (d1.E m (fun _ _=>by simp)) (b6 x a1) (c1 x a1)) rfl ?_;rintro u8 w8⟨F,f8⟩;obtain⟨cs,rfl,b8,b0⟩:=f8.cells;obtain⟨x0,x1,x2,x3,x4,rfl⟩:=An b8;have a0:=F.cell hSd O;have G:=a6.ext F;have z8:=F.size;refine wNl a0 ?_;refine D_E rfl ?_;refine Ay (out:=[x0,x1,x2,x3,x4]) rfl U rP (fun w9 z=>?_);have H:=z.E.cell a0 O;have d:=G.ext z.E;refine wNl H ?_;refine D_E rfl ?_;have o9:=z.own (n:=1) (size:=5) rfl rL (AO _);have z9:=z.size;have d2:((c.take k).map (C4 X)).length=k:=by simp;omega
   refine Bk (ok:=AL) (v:=v) (sv:=.slice (sm w8.heap.size) 1 1) rfl rfl d.own (BG o9 fun _ _=>trivial) U rfl rfl b0 U U U (fun Q d5 t=>?_);have d6:=t.E.size;have N:=t.E.cell H (fun j=>by have:=Ao d.own (Aw.1 j);omega);refine wNl N ?_;refine gE ?_;have a3:D∉v.ownBlock.toList:=fun j=>d.ne _ (Aw.1 j) rfl;refine AW (v:=Q) rfl rfl (MZ t.own) (d.D.E t.E a3) O (fun a4 A=>?_);refine wNl (A.E.cell N rE) ?_;refine go ?_;obtain⟨hB,kB⟩:=G.push (B:=C.heap.size) ⟨by omega,by omega⟩ c0 U U f8 rfl z t A rfl
   have kD:Ext w a4:=((K.Q m).Q F).E kB (fun y I=>by
    rcases BI.1 I with rfl|I
    ·omega
    ·have:=(Ao G.own (Aw.1 I)).1;omega)
   refine go ?_;refine⟨(k+1,Q,L++[[x0,x1,x2,x3,x4]]),⟨rfl,⟨rfl,rfl,rfl,rfl,rfl,?_,trivial⟩,⟨by simp only;omega,kD,?_,(bz.E (m.Q F) O).E kB ?_,by have:=kB.size;omega⟩⟩,by simp only;omega⟩
   ·show iV ((k:Int)+1)=_;rw[BB];rfl
   ·simp only;rw[CT,j,FB];exact hB
   ·intro I;rcases BI.1 I with e|I
    ·omega
    ·have:=(Ao p.own (Aw.1 I)).1;omega
  refine D_E rfl ?_;refine AD (ih C q (o'+k*5) x _ U U (e0.Q (K.Q m)) (d1.E m (fun _ _=>by simp)) (b6 x a1) (c1 x a1)) rfl ?_;rintro u8 w8⟨F,f8⟩;obtain⟨cs,rfl,b8,b0⟩:=f8.cells;obtain⟨x0,x1,x2,x3,x4,rfl⟩:=An b8;have a0:=F.cell hSd O;have G:=a6.ext F;have z8:=F.size;refine wNl a0 ?_;refine D_A rfl ?_ ?_
  ·refine AQ rfl (G.D.cell (o:=4) rfl) ?_;refine wNl a0 ?_;refine D_E rfl ?_;refine Ay (out:=[x0,x1,x2,x3,x4]) rfl U rP (fun w9 z=>?_);have H:=z.E.cell a0 O;have d:=G.ext z.E;refine wNl H ?_;refine D_E rfl ?_;have o9:=z.own (n:=1) (size:=5) rfl rL (AO _);have z9:=z.size;have d2:((c.take k).map (C4 X)).length=k:=by simp;omega
   refine Bk (ok:=AL) (v:=v) (sv:=.slice (sm w8.heap.size) 1 1) rfl rfl d.own (BG o9 fun _ _=>trivial) U rfl rfl b0 U U U (fun Q d5 t=>?_);have d6:=t.E.size;have N:=t.E.cell H (fun j=>by have:=Ao d.own (Aw.1 j);omega);refine wNl N ?_;refine gE ?_;have a3:D∉v.ownBlock.toList:=fun j=>d.ne _ (Aw.1 j) rfl;refine AW (v:=Q) rfl rfl (MZ t.own) (d.D.E t.E a3) O (fun a4 A=>?_);refine wNl (A.E.cell N rE) ?_;refine go ?_;obtain⟨hB,kB⟩:=G.push (B:=C.heap.size) ⟨by omega,by omega⟩ c0 U U f8 rfl z t A rfl
   have kD:Ext w a4:=((K.Q m).Q F).E kB (fun y I=>by
    rcases BI.1 I with rfl|I
    ·omega
    ·have:=(Ao G.own (Aw.1 I)).1;omega)
   refine go ?_;refine⟨(k+1,Q,L++[[x0,x1,x2,x3,x4]]),⟨rfl,⟨rfl,rfl,rfl,rfl,rfl,?_,trivial⟩,⟨by simp only;omega,kD,?_,(bz.E (m.Q F) O).E kB ?_,by have:=kB.size;omega⟩⟩,by simp only;omega⟩
   ·show iV ((k:Int)+1)=_;rw[BB];rfl
   ·simp only;rw[CT,j,FB];exact hB
   ·intro I;rcases BI.1 I with e|I
    ·omega
    ·have:=(Ao p.own (Aw.1 I)).1;omega
  refine D_E rfl ?_;refine Ay (out:=[x0,x1,x2,x3,x4]) rfl U rP (fun w9 z=>?_);have H:=z.E.cell a0 O;have d:=G.ext z.E;refine wNl H ?_;refine D_E rfl ?_;refine AQ rfl (d.D.cell (o:=4) rfl) ?_;refine wNl H ?_;refine D_E rfl ?_;have o9:=z.own (n:=1) (size:=5) rfl rL (AO _);have z9:=z.size;have d2:((c.take k).map (C4 X)).length=k:=by simp;omega
  refine Bk (ok:=AL) (v:=v) (sv:=.slice (sm w8.heap.size) 1 1) rfl rfl d.own (BG o9 fun _ _=>trivial) U rfl rfl b0 U U U (fun Q d5 t=>?_);have d6:=t.E.size;have N:=t.E.cell H (fun j=>by have:=Ao d.own (Aw.1 j);omega);refine wNl N ?_;refine gE ?_;have a3:D∉v.ownBlock.toList:=fun j=>d.ne _ (Aw.1 j) rfl;refine AW (v:=Q) rfl rfl (MZ t.own) (d.D.E t.E a3) O (fun a4 A=>?_);refine wNl (A.E.cell N rE) ?_;refine go ?_;obtain⟨hB,kB⟩:=G.push (B:=C.heap.size) ⟨by omega,by omega⟩ c0 U U f8 rfl z t A rfl
  have kD:Ext w a4:=((K.Q m).Q F).E kB (fun y I=>by
   rcases BI.1 I with rfl|I
   ·omega
   ·have:=(Ao G.own (Aw.1 I)).1;omega)
  refine go ?_;refine⟨(k+1,Q,L++[[x0,x1,x2,x3,x4]]),⟨rfl,⟨rfl,rfl,rfl,rfl,rfl,?_,trivial⟩,⟨by simp only;omega,kD,?_,(bz.E (m.Q F) O).E kB ?_,by have:=kB.size;omega⟩⟩,by simp only;omega⟩
  ·show iV ((k:Int)+1)=_;rw[BB];rfl
  ·simp only;rw[CT,j,FB];exact hB
  ·intro I;rcases BI.1 I with e|I
   ·omega
   ·have:=(Ao p.own (Aw.1 I)).1;omega
 ·refine go ?_;rw[GE U]at p;have bf:=p.D;refine go ?_;refine Aa (cs:=[iV M,AA l,iV R,iV 0,v]) rfl rfl rfl ?_ bz rK (fun w5 s=>?_)
  ·intro u hu;simp at hu;rcases hu with rfl|rfl|rfl|rfl|rfl<;>first|rfl|exact MZ p.own
  refine go ?_;exact Ar rfl rfl rfl s.D.cells ⟨K.E s.E O,((p.fin.E s.E (fun x j hm=>by have:=j.1;simp at hm;omega)).mono fun x j=>by have:=j.1;omega)⟩
def J7(w:World)(op:Int)(a:Option Addr)(n c:Nat):Fn Zp 297 [iV op,.slice a n c] w fun u w'=>u=.agg #[iV op,AA [],iV 0,iV 0,.slice a n c]/\Ext w w':=by
 refine AM func297 rfl ntmps297 (go ?_);refine Ai (L:=zero5) (fun Q D=>go ?_);refine Aa (cs:=[iV op,AA [],iV 0,iV 0,.slice a n c]) rfl rfl rfl (Ak rfl) D.D rK (fun b i=>go ?_);exact Ar rfl rfl rfl i.D.cells ⟨rfl,D.E.E i.E O⟩
def NK(w:World)(r:Nat)(X:Vl)(N:Option Addr)(args:LF):Prop:=∀(k:Nat)(a:Fml),args[k]?=some a->∀W,Ext w W->∃q m,N=some ⟨q,m,none⟩/\Fn Zp 229 [pt r,.pointer (sn q (m+k*5))] W fun u c=>Ext W c/\FAt (fun b=>W.heap.size<=b) c u (DK X a)
def WJ(w:World)(r b o:Nat)(X:Vl)(op:Int)(args:LF)(N:Option Addr)(g:Nat)(a0:args.length<=1000)(q0:CC w b (o+0) (iV op))(E:CC w b (o+4) (.slice N args.length g))(q:NK w r X N args):
  Fn Zp 225 [pt r,.pointer (sn b o)] w fun u w'=>Ext w w'/\FAt (fun b=>w.heap.size<=b) w' u (opF op (args.map (DK X))):=by
 refine AM func225 rfl ntmps225 (go ?_);refine Ai (L:=zero5) (fun Q D=>go ?_);have a2:=D.E.cell E O;refine go ?_;refine ST (n:=args.length) rfl rfl rfl rfl U rL (fun A R=>?_);have j:=Fil.start (B:=Q.heap.size) R (AO _);have m:Ext w A:=D.E.Q R.E;have z1:=D.size;have F:Blk A w.heap.size 37 zero5:=D.D.E R.E O;have a3:=m.cell E O;refine go ?_
 refine Aj (α:=Nat×List (LV)×LV) (fun y=>[(0,pt r),(1,.pointer (sn b o)),(4,pt w.heap.size),(5,.slice (sm Q.heap.size) args.length args.length),(17,iV (args.length:Int)),(18,iV (y.1:Int))])
  (fun y W=>y.1<=args.length/\Ext w W/\Blk W w.heap.size 37 zero5/\Fil Q.heap.size W Q.heap.size args.length ((args.take y.1).map (DK X)) y.2.1 y.2.2/\Q.heap.size<W.heap.size) (fun y=>args.length-y.1) (0,[],_) ag ⟨by simp,m,F,by simpa using j,by have:=R.size;omega⟩ ?_
 rintro⟨k,L,Z⟩W fr⟨P,K,p,l,C⟩;simp only at P K p l C;have a4:=K.cell E O;have d:((args.take k).map (DK X)).length=k:=by simp;omega
 refine go ?_;by_cases z:k<args.length
 ·refine go ?_;obtain⟨x,V⟩:∃x,args[k]?=some x:=⟨_,AU z⟩;obtain⟨b',o',rfl,H⟩:=q k x V W K;refine go ?_;refine AD H rfl ?_;rintro u w4⟨e,t⟩;obtain⟨a,rfl,v,S⟩:=t.cells;refine go ?_;have f:=l.ext e;have T:=f.room (by rw[d];exact z);rw[d]at T;refine Aa (cs:=a) rfl rfl v S f.D U (fun w5 h=>go ?_);have c:=h;rw[show 0+k*5=((args.take k).map (DK X)).length*5 by rw[d];omega]at c;have G:=f.push (t.mono fun y I=>⟨by omega,by omega⟩) v (by rw[d];exact z) c rfl;refine go ?_;refine⟨(k+1,L++[a],Z.drop 5),⟨rfl,⟨rfl,rfl,rfl,rfl,rfl,?_,trivial⟩,⟨by simp only;omega,(K.Q e).E h.E rE,(p.E e O).E h.E rE,?_,by have:=h.size;have:=e.size;omega⟩⟩,by simp only;omega⟩
  ·show iV ((k:Int)+1)=_;rw[BB];rfl
  ·simp only;rw[CT,V,FB];exact G
 ·refine go ?_;rw[GE U]at l;have a1:=K.cell q0 O;obtain⟨_,s⟩:=l.fin O U;refine gC (J7 W op _ _ _) ?_;rintro _ w5⟨rfl,i⟩;refine Aa (cs:=[iV op,AA [],iV 0,iV 0,.slice (sm Q.heap.size) args.length args.length]) rfl rfl rfl (Ak rfl) (p.E i O) rK (fun w6 c=>go ?_);exact Ar rfl rfl rfl c.D.cells ⟨(K.Q i).E c.E O,(((s op [] 0 0).ext i).E c.E (fun y I M=>by simp at M;omega)).mono fun y I=>by omega⟩
def FnA(w:World)(r:Nat)(X:Vl)(b o:Nat)(f:Fml):Prop:=Fn Zp 298 [pt r,.pointer (sn b o)] w fun u a=>Ext w a/\FAt (fun b=>w.heap.size<=b) a u (C4 X f)
def gL(w:World)(r b o:Nat)(X:Vl)(args:LF)(a:Fml)(N:Option Addr)(g:Nat)(E:CC w b (o+4) (.slice N args.length g))(G:args=[a])
  (h:∀W,Ext w W->∃q m,N=some ⟨q,m,none⟩/\FnA W r X q (m+0*5) a):Fn Zp 226 [pt r,.pointer (sn b o)] w fun u w'=>Ext w w'/\FAt (fun b=>w.heap.size<=b) w' u (C4 X a):=by
 subst G;obtain⟨q,m,rfl,_⟩:=h w (Ext.refl _);simp only[HA]at E;refine AM func226 rfl ntmps226 (go ?_);refine Ai (L:=zero5) (fun Q D=>go ?_);have B:=D.E.cell E O;have C:=D.size;obtain⟨_,_,l,p⟩:=h Q D.E;cases l;refine go ?_;refine AD p rfl ?_;rintro u t⟨i,e⟩;obtain⟨k,rfl,n,v⟩:=e.cells;obtain⟨f,d,z,A,j,rfl⟩:=An n;refine Aa (cs:=[f,d,z,A,j]) rfl rfl rfl v (D.D.E i O) rK (fun c x=>go ?_);exact Ar rfl rfl rfl x.D.cells ⟨(D.E.Q i).E x.E O,(e.E x.E (fun y I s=>by simp at s;omega)).mono fun y I=>by omega⟩
def PB{w w':World}{ok:Nat->Prop}{a d b k j Q W X T y:Value}{f g:Fml}(n:New w w' 37 [a,d,b,k,j,Q,W,X,T,y])(K:FAt ok w (.agg #[a,d,b,k,j]) f)(h:FAt ok w (.agg #[Q,W,X,T,y]) g)(e:ok w.heap.size)(op:Int):
  FAt ok w' (.agg #[iV op,AA [],iV 0,iV 0,.slice (sm w.heap.size) 2 2]) (opF op [f,g]):=by
 have S:FsAt ok w [[a,d,b,k,j],[Q,W,X,T,y]] [f,g]:=FsAt.two K rfl h rfl;obtain⟨Z,c⟩:=FsAt.fresh (L:=[[a,d,b,k,j],[Q,W,X,T,y]]) n S e O;exact FAt.node op [] 0 0 Z c
def gW(w:World)(r b o:Nat)(X:Vl)(f:Fml)(a c:Fml)(N:Option Addr)(G:Nat)(C:CC w b (o+4) (.slice N [a,c].length G))(t:NK w r X N [a,c])(i:∀W,Ext w W->FnA W r X b o f):
  Fn Zp 227 [pt r,.pointer (sn b o)] w fun u w'=>Ext w w'/\FAt (fun b=>w.heap.size<=b) w' u (opF 6 [DK X c,opF 5 [DK X a,C4 X f]]):=by
 obtain⟨R,o',rfl,_⟩:=t 0 a rfl w (Ext.refl _);simp only[C9,FP]at C;refine AM func227 rfl ntmps227 (go ?_);refine Ai (L:=zero5) (fun P D=>go ?_);have z1:=D.size;refine Ab (rd 0 6 (rd 7 6 (.read 14 (.read 15 (.alt 6 (.alt 13 (.alt 16 (.alt 17 (.alt 18 (.alt 19 (.alt 20 (.alt 21 .done .stop) .stop) .stop) .stop) .stop) .stop) .stop) .stop))))) AX rD (fun F A ed=>⟨fun V=>Keep [w.heap.size] F V,?_,?_⟩)
 ·exact tK
 have l:=D.E.Q A;have zd:=A.size;have T:=HX w _ C;simp only at T;have s1:∀V,Keep [w.heap.size] F V->CC V b (o+4) (.slice (sn R o') (0+1+1) G):=fun V e=>e.cell (l.cell C O) rE;refine go ?_;refine gE ?_;obtain⟨_,_,s,x⟩:=t 1 c rfl F l;cases s;refine AD x rfl ?_;rintro u2 w2⟨m,H⟩;obtain⟨k,rfl,j,a0⟩:=H.cells;obtain⟨x0,x1,x2,x3,x4,rfl⟩:=An j;have z2:=m.size;refine AB ⟨_,fun _ e=>e,(m).any,?_⟩;refine D_E rfl ?_;obtain⟨_,_,s,x⟩:=t 0 a rfl w2 (l.Q m);cases s;refine AD x rfl ?_;rintro u3 w3⟨g,K⟩;obtain⟨k,rfl,j,a1⟩:=K.cells;obtain⟨y0,y1,y2,y3,y4,rfl⟩:=An j;have z3:=g.size;refine AB ⟨_,fun _ e=>e,(m.Q g).any,?_⟩;refine D_E rfl ?_;refine AD (i w3 ((l.Q m).Q g)) rfl ?_;rintro u4 w4⟨d,M⟩;obtain⟨k,rfl,j,a2⟩:=M.cells;obtain⟨v0,v1,v2,v3,v4,rfl⟩:=An j;have z4:=d.size;refine AB ⟨_,fun _ e=>e,((m.Q g).Q d).any,?_⟩;refine D_E rfl ?_;refine Ay (out:=[y0,y1,y2,y3,y4,v0,v1,v2,v3,v4]) rfl U rZ (fun w5 I=>?_);have z5:=I.size;refine AB ⟨_,fun _ e=>e,(((m.Q g).Q d).Q I.E).any,?_⟩;have z:=PB (ok:=fun b=>P.heap.size<=b) I ((K.ext d).mono fun y n=>by omega) (M.mono fun y n=>by omega) U 5;refine D_E rfl ?_;refine AD (J7 w5 5 _ _ _) rfl ?_;rintro _ w6⟨rfl,q⟩;have z6:=q.size;have B:=z.ext q;refine AB ⟨_,fun _ e=>e,((((m.Q g).Q d).Q I.E).Q q).any,?_⟩;refine D_E rfl ?_;refine Ay (out:=[x0,x1,x2,x3,x4,iV 5,AA [],iV 0,iV 0,.slice (sm w4.heap.size) 2 2]) rfl U rZ (fun w7 p=>?_);have z7:=p.size;refine AB ⟨_,fun _ e=>e,(((((m.Q g).Q d).Q I.E).Q q).Q p.E).any,?_⟩;have S:=PB (ok:=fun b=>P.heap.size<=b) p (((((H.ext g).ext d).ext I.E).ext q).mono fun y n=>by omega) B U 6;refine D_E rfl ?_;refine AD (J7 w7 6 _ _ _) rfl ?_;rintro _ w8⟨rfl,v⟩;have Q:=(((((m.Q g).Q d).Q I.E).Q q).Q p.E).Q v;refine AB ⟨_,fun _ e=>e,(Q).any,?_⟩;refine D_E rfl ?_;refine Aa (cs:=[iV 6,AA [],iV 0,iV 0,.slice (sm w6.heap.size) 2 2]) rfl rfl rfl (Ak rfl) (D.D.E (A.Q Q) O) rK (fun w9 E=>?_);exact tS
def nj(w:World)(r b o:Nat)(X:Vl)(f:Fml)(a c:Fml)(N:Option Addr)(G:Nat)(C:CC w b (o+4) (.slice N [a,c].length G))(t:NK w r X N [a,c])(i:∀W,Ext w W->FnA W r X b o f):
  Fn Zp 228 [pt r,.pointer (sn b o)] w fun u w'=>Ext w w'/\FAt (fun b=>w.heap.size<=b) w' u (opF 5 [DK X c,opF 6 [DK X a,C4 X f]]):=by
 obtain⟨R,o',rfl,_⟩:=t 0 a rfl w (Ext.refl _);simp only[C9,FP]at C;refine AM func228 rfl ntmps228 (go ?_);refine Ai (L:=zero5) (fun P D=>go ?_);have z1:=D.size;refine Ab (rd 0 6 (rd 7 6 (.read 14 (.read 15 (.alt 6 (.alt 13 (.alt 16 (.alt 17 (.alt 18 (.alt 19 (.alt 20 (.alt 21 .done .stop) .stop) .stop) .stop) .stop) .stop) .stop) .stop))))) AX rD (fun F A ed=>⟨fun V=>Keep [w.heap.size] F V,?_,?_⟩)
 ·exact tK
 have l:=D.E.Q A;have zd:=A.size;have T:=HX w _ C;simp only at T;have s1:∀V,Keep [w.heap.size] F V->CC V b (o+4) (.slice (sn R o') (0+1+1) G):=fun V e=>e.cell (l.cell C O) rE;refine go ?_;refine gE ?_;obtain⟨_,_,s,x⟩:=t 1 c rfl F l;cases s;refine AD x rfl ?_;rintro u2 w2⟨m,H⟩;obtain⟨k,rfl,j,a0⟩:=H.cells;obtain⟨x0,x1,x2,x3,x4,rfl⟩:=An j;have z2:=m.size;refine AB ⟨_,fun _ e=>e,(m).any,?_⟩;refine D_E rfl ?_;obtain⟨_,_,s,x⟩:=t 0 a rfl w2 (l.Q m);cases s;refine AD x rfl ?_;rintro u3 w3⟨g,K⟩;obtain⟨k,rfl,j,a1⟩:=K.cells;obtain⟨y0,y1,y2,y3,y4,rfl⟩:=An j;have z3:=g.size;refine AB ⟨_,fun _ e=>e,(m.Q g).any,?_⟩;refine D_E rfl ?_;refine AD (i w3 ((l.Q m).Q g)) rfl ?_;rintro u4 w4⟨d,M⟩;obtain⟨k,rfl,j,a2⟩:=M.cells;obtain⟨v0,v1,v2,v3,v4,rfl⟩:=An j;have z4:=d.size;refine AB ⟨_,fun _ e=>e,((m.Q g).Q d).any,?_⟩;refine D_E rfl ?_;refine Ay (out:=[y0,y1,y2,y3,y4,v0,v1,v2,v3,v4]) rfl U rZ (fun w5 I=>?_);have z5:=I.size;refine AB ⟨_,fun _ e=>e,(((m.Q g).Q d).Q I.E).any,?_⟩;have z:=PB (ok:=fun b=>P.heap.size<=b) I ((K.ext d).mono fun y n=>by omega) (M.mono fun y n=>by omega) U 6;refine D_E rfl ?_;refine AD (J7 w5 6 _ _ _) rfl ?_;rintro _ w6⟨rfl,q⟩;have z6:=q.size;have B:=z.ext q;refine AB ⟨_,fun _ e=>e,((((m.Q g).Q d).Q I.E).Q q).any,?_⟩;refine D_E rfl ?_;refine Ay (out:=[x0,x1,x2,x3,x4,iV 6,AA [],iV 0,iV 0,.slice (sm w4.heap.size) 2 2]) rfl U rZ (fun w7 p=>?_);have z7:=p.size;refine AB ⟨_,fun _ e=>e,(((((m.Q g).Q d).Q I.E).Q q).Q p.E).any,?_⟩;have S:=PB (ok:=fun b=>P.heap.size<=b) p (((((H.ext g).ext d).ext I.E).ext q).mono fun y n=>by omega) B U 5;refine D_E rfl ?_;refine AD (J7 w7 5 _ _ _) rfl ?_;rintro _ w8⟨rfl,v⟩;have Q:=(((((m.Q g).Q d).Q I.E).Q q).Q p.E).Q v;refine AB ⟨_,fun _ e=>e,(Q).any,?_⟩;refine D_E rfl ?_;refine Aa (cs:=[iV 5,AA [],iV 0,iV 0,.slice (sm w6.heap.size) 2 2]) rfl rfl rfl (Ak rfl) (D.D.E (A.Q Q) O) rK (fun w9 E=>?_);exact tS
def Mo(w:World)(r:Nat)(S:List Sgn)(x:Int)(F:FuncId)[hF:AI Zp F](b o:Nat)(f g:Fml)(t:Rdr w r S x)(K:PF AL w b o f)(C:Cp f=false)(N:(TC r).lookup f.op=some (mvR F r))
  (B:∀W,Ext w W->Fn Zp F [pt r,.pointer (sn b o)] W fun u Z=>Ext W Z/\FAt (fun b=>W.heap.size<=b) Z u g):Fn Zp 229 [pt r,.pointer (sn b o)] w fun u w'=>Ext w w'/\FAt (fun b=>w.heap.size<=b) w' u g:=by
 obtain⟨sa,sc,ra,rc,mt,G,q,hS,hv,a0,c⟩:=t;have R:=K.opc;have a2:=q.lt;have a1:=c.lt;have M:=HX w _ R;simp only at M;refine AM func229 rfl ntmps229 (go ?_);refine Ai (L:=zero5) (fun Q D=>?_);refine gC (WQ (dpF f) Q b o f (AO _) (K.E D.E (fun _ _=>by simp))) ?_;rintro _ H⟨rfl,m⟩;have s:=D.E.Q m;have p:Blk H w.heap.size 37 zero5:=D.D.E m O;rw[C];refine go ?_;refine Ab (rd 0 10 (.alt 10 (.alt 11 .done .stop) .stop)) AX rD (fun X l ed=>⟨fun V=>Keep [w.heap.size] X V,?_,?_⟩)
 ·exact tK
 have a:=s.Q l;have s1:∀V,Keep [w.heap.size] X V->CC V r (0+3) (.map (some G)):=fun V e=>e.cell ((q.E a O).cell rfl) rE;have s2:∀V,Keep [w.heap.size] X V->CC V b (o+0) (iV f.op):=fun V e=>e.cell (a.cell R O) rE;refine go ?_;refine D_R rfl rfl (fun V v=>by refine Qq rfl rfl ((c.E a O).E v rE) N ?_;exact AB ⟨rfl,rfl,rfl⟩) ?_;refine gE ?_;refine Bg (v1:=[pt r]) (v2:=[]) (vs:=[.pointer (sn b o)]) rfl (B X a) rfl ?_;rintro u w4⟨i,n⟩;obtain⟨k,rfl,z,A⟩:=n.cells;obtain⟨P,d,T,x3,j,rfl⟩:=An z;refine AB ⟨_,fun _ e=>e,i.any,?_⟩;refine D_E rfl ?_;have zd:=a.size;have z1:=D.size;have zk:=m.size;have a3:=l.size;refine Aa (cs:=[P,d,T,x3,j]) rfl rfl rfl A ((p.E l O).E i O) rK (fun w9 E=>?_);refine AB ⟨_,fun _ e=>e,i.any.Q E.E (fun _ h _=>h),?_⟩;refine go ?_;exact Ar rfl rfl rfl E.D.cells ⟨(a.Q i).E E.E O,(n.E E.E (fun y I c=>by simp at c;omega)).mono fun y I=>by omega⟩
def pr{a:Fml}{i:Bool}(h:BQ i a=true)(R:a.op=3):Cp a=true:=by
 obtain⟨op,l,v,b,e⟩:=a;obtain⟨_,W,_,_⟩:=HI h;obtain rfl:op=3:=R;have V:=Fp W;have:e=[]:=Dc (by simpa[Am]using V);subst this;rfl
def aZ{op v b:Int}{l:LU}{args:LF}{i:Bool}(h:BQ i (.mk op l v b args)=true)(C:Cp (.mk op l v b args)=false):op=5\/op=6\/op=8\/op=9\/op=10:=by
 obtain⟨Z,W,R,A⟩:=HI h;have V:=Fp W
 have d:op=1\/op=2\/op=3->False:=fun c=>by
  have:args=[]:=Dc (by rcases c with rfl|rfl|rfl<;>simpa[Am]using V);subst this;rcases c with rfl|rfl|rfl<;>simp[Cp,GU]at C
 have f:op=15\/op=16\/op=17->False:=fun c=>by rw[Ta h c]at C;cases C
 have e:op=4->False:=fun c=>by
  have E:=(sh_iff.1 (KA h)).2.1.2.2.2.2 c;rw[Cp,Ma fun a G=>pr (A a G) (E a G)]at C;subst c;simp at C
 rcases Hd Z with h|h|h|h|h|h|h|h|h|h|h|h<;>first|exact(d U).elim|exact(f U).elim|exact(e h).elim|omega
def ni(B:World)(r:Nat)(S:List Sgn)(x:Int)(Z:Rdr B r S x):∀(n:Nat)(w:World)(b o:Nat)(f:Fml),dpF f<=n->szF f<=1000->Ext B w->PF AL w b o f->BQ false f=true->isB (knS S) f=true->
  Fn Zp 229 [pt r,.pointer (sn b o)] w fun u w'=>Ext w w'/\FAt (fun b=>w.heap.size<=b) w' u (DK (vlS S x) f):=by
 have a3:=Xo B r S x Z;have F:=ju B r S x Z;obtain⟨X,hX⟩:∃X,X=vlS S x:=⟨_,rfl⟩;rw[<-hX]at a3 F⊢;intro n
 induction n with
 |zero=>intro w b o f m;rw[Cr]at m;omega
 |succ n ih=>
 intro w b o f m p j K z P;have a6:=m;have a9:=p;have I:=Z.ext j;obtain⟨N,i,a7,q0,q1,q2,q3,E,qa⟩:=K.all;have t:=K;cases hp:Cp f with
 |false=>
  obtain⟨op,T,vl,C,d⟩:=f;obtain⟨b1,a8,_,a0⟩:=HI z;have H:=Fp a8;obtain⟨b0,a2⟩:=is_iff.1 P;have b2:=D8 d;rw[Cr]at m;rw[Bn]at p;simp only[Fml.op,Fml.args]at m p a7 q0 E qa;have a1:=aZ z hp;rw[Sf,AG (by rw[hp];exact CX)]
  have a5:NK w r X N d:=fun k a G W eW=>by
   obtain⟨q,o',e,M⟩:=qa k a G;have g:=BA G;have h1:=Ds g;have h2:=Ci g;have h3:=a0 a g;rw[show(false||CR op)=false by rcases a1 with rfl|rfl|rfl|rfl|rfl<;>rfl]at h3;exact⟨q,o',e,ih W q _ a U U (j.Q eW) (M.E eW (fun _ _=>by simp)) h3 (a2 a g)⟩
  have D:∀W,Ext w W->NK W r X N d:=fun W e k a G V h=>a5 k a G V (e.Q h);have a4:∀W,Ext w W->FnA W r X b o (.mk op T vl C d):=fun W e=>F (n+1) W b o _ false a6 a9 (j.Q e) (t.E e (fun _ _=>by simp)) z P;rcases a1 with rfl|rfl|rfl|rfl|rfl
  ·exact Mo w r S x 225 b o _ _ I t hp rfl fun W e=>WJ W r b o X 5 d N i U (e.cell q0 O) (e.cell E O) (D W e)
  ·exact Mo w r S x 225 b o _ _ I t hp rfl fun W e=>WJ W r b o X 6 d N i U (e.cell q0 O) (e.cell E O) (D W e)
  ·obtain⟨a,G⟩:=FU (l:=d) (by simpa[Am]using H);have g:a∈d:=by rw[G];simp
   have h1:=Ds g;have h2:=Ci g;obtain⟨q,o',e',M⟩:=qa 0 a (by rw[G];rfl);have Q:Po 8 (C4 X (.mk 8 T vl C d)) (d.map (DK X)) (d.map (C4 X))=C4 X a:=by rw[G];rfl
   rw[Q];exact Mo w r S x 226 b o _ _ I t hp rfl fun W e=>gL W r b o X d a N i (e.cell E O) G fun V h=>⟨q,o',e',F n V q _ a _ U U (j.Q (e.Q h)) (M.E (e.Q h) (fun _ _=>by simp)) (a0 a g) (a2 a g)⟩
  ·obtain⟨a,c,G⟩:=GM (l:=d) (by simpa[Am]using H);subst G;exact Mo w r S x 227 b o _ _ I t hp rfl fun W e=>gW W r b o X _ a c N i (e.cell E O) (D W e) fun V h=>a4 V (e.Q h)
  ·obtain⟨a,c,G⟩:=GM (l:=d) (by simpa[Am]using H);subst G;exact Mo w r S x 228 b o _ _ I t hp rfl fun W e=>nj W r b o X _ a c N i (e.cell E O) (D W e) fun V h=>a4 V (e.Q h)
 |true=>
  have Q:DK X f=LD (Bb X f):=by
   obtain⟨op,T,vl,C,d⟩:=f;rw[Sf,AJ hp]
  rw[Q];refine AM func229 rfl ntmps229 (go ?_);refine Ai (L:=zero5) (fun w1 R=>?_);refine gC (WQ (dpF f) w1 b o f (AO _) (K.E R.E (fun _ _=>by simp))) ?_;rintro _ w2⟨rfl,k2⟩;have y:=R.E.Q k2;have b4:Blk w2 w.heap.size 37 zero5:=R.D.E k2 O;rw[hp];refine gC (a3 (dpF f) w2 b o f false (AO _) (j.Q y) (K.E y (fun _ _=>by simp)) z hp P) ?_;rintro _ w3⟨rfl,A⟩;cases Bb X f with
  |true=>
   refine gC (J7 w3 1 none 0 0) ?_;rintro _ w4⟨rfl,s⟩;refine Aa (cs:=[iV 1,AA [],iV 0,iV 0,nS]) rfl rfl rfl (Ak rfl) ((b4.E A O).E s O) rK (fun w9 v=>go ?_);exact Ar rfl rfl rfl v.D.cells ⟨((y.Q A).Q s).E v.E O,FAt.leaf _ _ 1 [] 0 0⟩
  |false=>
   refine gC (J7 w3 2 none 0 0) ?_;rintro _ w4⟨rfl,s⟩;refine Aa (cs:=[iV 2,AA [],iV 0,iV 0,nS]) rfl rfl rfl (Ak rfl) ((b4.E A O).E s O) rK (fun w9 v=>go ?_);exact Ar rfl rfl rfl v.D.cells ⟨((y.Q A).Q s).E v.E O,FAt.leaf _ _ 2 [] 0 0⟩
end
def DV(f:Fml):Fml:=if DP f=true then Ba f else Ad
def H4{f:Fml}(h:DP f=true):szF f<=400/\dpF f<=60/\BQ false f=true:=by
 simp only[DP,AZ,BD]at h;obtain⟨⟨Z,W⟩,R⟩:=h;rw[OY U]at R;exact⟨Z,W,R⟩
def jd{f:Fml}(Z:szF f<=400)(W:dpF f<=60)(R:BQ false f=true):DP f=true:=by
 simp only[DP,AZ,BD];exact⟨⟨Z,W⟩,by rw[OY U];exact R⟩
def MR(w:World)(v:Value)(f:Fml)(K:FAt AL w v f)(z:GF w)(G:KY w)(x:10<=w.heap.size):Fn Zp 53 [v] w fun u w'=>Ext w w'/\FAt (fun b=>w.heap.size<=b/\Unm w' b) w' u (DV f):=by
 obtain⟨c,rfl,F,l⟩:=K.cells;obtain⟨n,d,p,s,j,rfl⟩:=An F;refine AM func53 rfl ntmps53 (go ?_);refine Ac (L:=[n,d,p,s,j]) rfl (fun S D=>?_);refine Ai (L:=zero5) (fun a R=>go ?_);have V:=D.size;have Q:=D.E.Q R.E;have q:Blk a w.heap.size 37 [n,d,p,s,j]:=D.D.E R.E O;have h:=R.D;have C:PF AL a w.heap.size 0 f:=⟨trivial,_,rfl,q.cells,K.ext Q⟩;refine gC (Vz a w.heap.size 0 f C (z.ext Q) (G.E Q O) (Az x Q.size)) ?_;rintro _ B⟨rfl,g⟩;have i:=h.E g O;unfold DV;cases hl:DP f with
 |false=>
  rw[AG CX];refine go ?_;refine Aa (cs:=zero5) rfl rfl rfl (Ak rfl) i rK (fun H E=>go ?_);exact Ar rfl rfl rfl E.D.cells ⟨(Q.Q g).E E.E rE,FAt.leaf _ _ 0 [] 0 0⟩
 |true=>
  rw[AJ rfl];obtain⟨P,Z,A⟩:=H4 hl;refine gC (ie 60 B w.heap.size 0 f Z U (C.E g (fun _ _=>by simp)) (KA A)) ?_;rintro u t⟨m,e⟩;obtain⟨k,rfl,o,l⟩:=e.cells;obtain⟨M,W,X,T,N,rfl⟩:=An o;have z3:=Q.size;have a0:=g.size;have z2:=R.size;refine Aa (cs:=[M,W,X,T,N]) rfl rfl rfl l (i.E m O) rK (fun H E=>go ?_);exact Ar rfl rfl rfl E.D.cells ⟨((Q.Q g).Q m).E E.E rE,(e.unm E.E (fun y I r=>by rw[Bj]at r;omega)).mono fun y I=>⟨by omega,I.2⟩⟩
def ZA(x:Vl)(f:Fml):Fml:=DV (DK x f)
def kI(w:World)(r:Nat)(S:List Sgn)(x:Int)(Z:Rdr w r S x)(b o:Nat)(f:Fml)(N:DP f=true)(C:isB (knS S) f=true)(K:PF AL w b o f)(z:GF w)(G:KY w)(B:10<=w.heap.size):
  Fn Zp 173 [pt r,.pointer (sn b o)] w fun u w'=>Ext w w'/\FAt (fun b=>w.heap.size<=b/\Unm w' b) w' u (ZA (vlS S x) f):=by
 obtain⟨l1,H,M⟩:=H4 N;refine AM func173 rfl ntmps173 (go ?_);refine Ai (L:=zero5) (fun Q D=>go ?_);have z1:=D.size;refine gC (ni w r S x Z 60 Q b o f H U D.E (K.E D.E (fun _ _=>by simp)) M C) ?_;rintro u q⟨m,e⟩;obtain⟨k,rfl,a,c⟩:=e.cells;obtain⟨s,d,v,A,j,rfl⟩:=An a;refine Ai (L:=zero5) (fun w3 l=>?_);refine Aa (cs:=[s,d,v,A,j]) rfl rfl rfl c l.D rK (fun t g=>go ?_);have b5:Blk t q.heap.size 37 [s,d,v,A,j]:=g.D;have P:Ext q t:=l.E.E g.E O;have n:=(D.E.Q m).Q P;have p:Blk t w.heap.size 37 zero5:=D.D.E (m.Q P) O;refine gC (MR t _ _ ((e.ext P).mono fun _ _=>trivial) (z.ext n) (G.E n O) (Az B n.size)) ?_;rintro u w5⟨i,h⟩;obtain⟨k,rfl,a,c⟩:=h.cells;obtain⟨R,W,X,T,V,rfl⟩:=An a;have z4:=n.size;have z2:=m.size;have a0:=P.size;refine Aa (cs:=[R,W,X,T,V]) rfl rfl rfl c (p.E i O) rK (fun w9 E=>go ?_);exact Ar rfl rfl rfl E.D.cells ⟨(n.Q i).E E.E O,(h.unm E.E (fun y I F=>by rw[Bj]at F;omega)).mono fun y I=>⟨by omega,I.2⟩⟩
def Mw(f:Fml):Bool:=ND f||decide ((DV f).op≠0)
def gQ(w:World)(b o:Nat)(f:Fml)(K:PF AL w b o f)(z:GF w)(G:KY w)(c:10<=w.heap.size):Fn Zp 214 [.pointer (sn b o)] w fun u w'=>u=.bool (Mw f)/\Ext w w':=by
 have t:=K;obtain⟨_,d,x,W,C⟩:=K;obtain⟨e,h,g,k,j,rfl⟩:=An x;refine AM func214 rfl ntmps214 (go ?_);refine Al (L:=[e,h,g,k,j]) rfl rfl W ?_;refine AD (aq w _ f C z G c) rfl ?_;rintro _ Q⟨rfl,a⟩;unfold Mw;cases hkf:ND f with
 |true=>
  refine gR ?_;exact⟨rfl,a⟩
 |false=>
  refine go ?_;refine Al (L:=[e,h,g,k,j]) rfl rfl (W.E a O) ?_;refine gC (MR Q _ f (C.ext a) (z.ext a) (G.E a O) (Az c a.size)) ?_;rintro u i⟨m,D⟩;obtain⟨R,rfl,_⟩:=D.form;refine go ?_;refine XC (L:=[iV (DV f).op,AA (DV f).name,iV (DV f).val,iV (DV f).bound,R]) rfl rfl ?_;by_cases v:(DV f).op=0
  ·rw[BC U];refine gR ?_;exact⟨rfl,a.Q m⟩
  ·rw[BE v];refine gR ?_;exact⟨rfl,a.Q m⟩

mutual
def HU(p:Fml->Bool):Fml->Bool
 | .mk op nm v b args=>p (.mk op nm v b args)&&KE p args
def KE(p:Fml->Bool):LF->Bool
 | []=>true
 |a::l=>HU p a&&KE p l
end
def Lw(p:Fml->Bool):∀{l:LF},KE p l=true↔∀a∈l,HU p a=true
 | []=>by simp[KE]
 |a::l=>by rw[KE,AZ,Lw p];simp
def RM(p:Fml->Bool)(f:Fml):HU p f=(p f&&KE p f.args):=by cases f;rfl
structure TnG(yv:Value)(X:List Nat)(B N:Nat)(p:Fml->Bool)(J D:World->Prop):Prop where
 fn:∃y,yv=.func (.yield y) #[] #[]
 ext:∀{W W':World},J W->Ext W W'->J W'
 step:∀{W:World}{b o:Nat}{f:Fml},J W->PF (fun b=>b∉X/\b<B) W b o f->szF f<=N->YldP Zp yv [.pointer (sn b o)] W (fun v W'=>v=.bool (p f)/\Keep X W W'/\if p f=true then J W' else D W') fun _ _=>False
abbrev tvV(I D:Nat):Value:=.func (.func 201) #[] #[pt I,pt D]
def fL{t:Value}{X:List Nat}{B N:Nat}{p:Fml->Bool}{r D:World->Prop}(H:TnG t X B N p r D)(I c:Nat)(Z:I∉X)(C:c∉X):∀(n:Nat)(w:World)(b o:Nat)(f:Fml),dpF f<=n->szF f<=N->PF (fun b=>b∉X/\b<B) w b o f->
  Blk w I 154 [t]->Blk w c 154 [tvV I c]->r w->
  Fn Zp 201 [.pointer (sn b o),pt I,pt c] w fun v w'=>v=.bool (HU p f)/\Keep X w w'/\if HU p f=true then r w' else D w':=by
 intro n
 induction n with
 |zero=>intro w b o f L;rw[Cr]at L;omega
 |succ n ih=>
 intro w b o f L hz K b1 b2 hJ;rw[Cr]at L;have hzz:=Bn f;obtain⟨y,rfl⟩:=H.fn;rw[RM];refine AM func201 rfl ntmps201 (go ?_);refine Mh rfl rfl (H.step hJ K hz) ?_;rintro _ w1⟨rfl,d,s⟩;have R:=K.E d (fun _ h=>h.1);have b11:=b1.E d Z;have a1:=b2.E d C;obtain⟨a0,a6,a7,a8,_⟩:=R.arg;cases hp:p f with
 |false=>
  rw[hp,AG CX]at s;rw[MD];refine gR ?_;exact⟨rfl,d,by rw[AG CX];exact s⟩
 |true=>
 rw[hp,AJ rfl]at s;rw[HE];refine go ?_;refine Aj (α:=Nat) (fun k=>[(0,.pointer (sn b o)),(1,pt I),(2,pt c),(14,iV (f.args.length:Int)),(15,iV (k:Int))]) (fun k W=>k<=f.args.length/\Keep X w W/\r W/\PF (fun b=>b∉X/\b<B) W b o f/\Blk W I 154 [.func (.yield y) #[] #[]]/\Blk W c 154 [tvV I c]/\∀a∈f.args.take k,HU p a=true) (fun k=>f.args.length-k) 0 ag ⟨by omega,d,s,R,b11,a1,by simp⟩ ?_;rintro k W fr⟨b0,P,g,T,j,A,E⟩;refine go ?_;by_cases a5:k<f.args.length
 ·obtain⟨x,M⟩:=gl a5;obtain⟨aa,cc,_,a2,a3⟩:=T.arg;obtain⟨q,m,rfl,a4⟩:=a3 k x M;have F:=BA M;have a9:=Ds F;have hzx:=Ci F;refine go ?_;refine Ab (rd 0 7 (.alt 7 (.read 8 .done) .stop)) AX rD (fun z i ed=>⟨Keep X z,?_,?_⟩)
  ·exact tK
  have ca:∀V,Keep X z V->CC V c 0 (tvV I c):=fun V e=>((A.E i O).E e C).cell rfl;have cb:∀V,Keep X z V->CC V b (o+4) (.slice (sn q m) f.args.length cc):=fun V e=>e.cell (i.cell a2 O) T.1.1;refine gE ?_;refine Bg (v1:=[]) (v2:=[pt I,pt c]) (vs:=[.pointer (sn q (m+k*5))]) rfl (ih z q (m+k*5) x U U (a4.E i (fun _ _=>by simp)) (j.E i O) (A.E i O) (H.ext g i)) rfl ?_;rintro _ w4⟨rfl,l,u⟩;refine wNl l ?_;have Q:=(P.Q i (fun x h=>by cases h)).Q l (fun x h _=>h);refine go ?_;cases hpx:HU p x with
  |false=>
   rw[hpx,AG CX]at u
   have S:KE p f.args=false:=by
    rw[<-EK,Lw];intro h;rw[h x F]at hpx;cases hpx
   rw[S];refine gR ?_;exact⟨rfl,Q,by rw[AG CX];exact u⟩
  |true=>
   rw[hpx,AJ rfl]at u;refine go ?_;refine⟨k+1,⟨rfl,ag,⟨by omega,Q,u,(T.E i (fun _ _=>by simp)).E l (fun _ h=>h.1),(j.E i O).E l Z,(A.E i O).E l C,fun a G=>?_⟩⟩,by omega⟩;rw[CT,M]at G;rcases DM.1 G with G|G
   ·exact E a G
   ·simp at G;rw[G];exact hpx
 ·obtain rfl:k=f.args.length:=by omega
  rw[Co]at E;have S:=(Lw p).2 E;rw[S];refine gR ?_;exact⟨rfl,P,by rw[AJ rfl];exact g⟩
def am{t:Value}{X:List Nat}{N:Nat}{p:Fml->Bool}{k D:World->Prop}(w:World)(r b o:Nat)(f:Fml)(H:TnG t X w.heap.size N p k D)(d:Blk w r 89 [.pointer (sn b o)])(K:PF (fun b=>b∉X/\b<w.heap.size) w b o f)(z:szF f<=N)(u:k w)(T:∀x∈X,x<w.heap.size):
  Fn Zp 200 [t,pt r] w fun _ w'=>Keep X w w'/\if HU p f=true then k w' else D w':=by
 have m:∀{c:Nat},w.heap.size<=c->c∉X:=fun h V=>by have:=T _ V;omega
 obtain⟨y,rfl⟩:=H.fn;refine AM func200 rfl ntmps200 (go ?_);refine Ac (L:=[.func (.yield y) #[] #[]]) rfl (fun Q l=>go ?_);refine Ai (fun C R=>go ?_);refine AW (v:=tvV w.heap.size Q.heap.size) rfl rfl rfl R.D O (fun a i=>?_);have j:=l.size;have F:=R.size;have G:=i.size;have q:Ext Q a:=R.E.E i.E O;have g:Ext w a:=l.E.Q q;have s:Blk a w.heap.size 154 [.func (.yield y) #[] #[]]:=l.D.E q O;have n:Blk a Q.heap.size 154 [tvV w.heap.size Q.heap.size]:=i.D;have B:=(d.E g O).cell (o:=0) rfl;refine go ?_;refine Bg (v1:=[]) (v2:=[pt w.heap.size,pt Q.heap.size]) (vs:=[.pointer (sn b o)]) rfl (fL H w.heap.size Q.heap.size (m (AO _)) (m U) (dpF f) a b o f (AO _) z (K.E g (fun _ _=>by simp)) s n (H.ext u g)) rfl ?_;rintro _ E⟨rfl,A,e⟩;refine go ?_;exact Bt rfl ⟨(g.any:Keep X w a).Q A (fun y I _=>I),e⟩
def fD(w:World)(b o:Nat):Fn Zp 142 [.pointer (sn b o)] w fun v w'=>v=.func (.func 200) #[] #[pt w.heap.size]/\New w w' 89 [.pointer (sn b o)]:=by
 refine AM func142 rfl ntmps142 (go ?_);refine Ac (L:=[.pointer (sn b o)]) rfl (fun Q D=>?_);refine gR ?_;exact⟨rfl,D⟩
def Mu(op:Int):Bool:=decide (op=15)||decide (op=16)||decide (op=17)||decide (op=18)||decide (op=19)
def HW(S:List Sgn)(f:Fml):Bool:=if f.op=3 then knS S f.name f.val else if Mu f.op=true then f.args.all KM else true
def QZ(S:List Sgn)(l:LU):(EW S l= -1/\∀v,knS S l v=false)\/∃(i:Nat)(s:Sgn),EW S l=(i:Int)/\S[i]?=some s/\∀v,knS S l v=decide (v<s.size):=by
 unfold EW knS;cases hi:S.findIdx? (fun y=>decide (y.name=l))with
 |none=>exact .inl ⟨rfl,fun _=>rfl⟩
 |some i=>
  obtain⟨z, -⟩:=IX.1 hi;refine .inr ⟨i,S[i],rfl,AU z,fun v=>?_⟩;simp[AU z]
def ak(w:World)(H:Option Addr)(d:Nat)(S:List Sgn)(b o:Nat)(f:Fml)(j:SlAt sgnR AL w (.slice H S.length d) S)(I:PF AL w b o f)(z:GF w)(y:10<=w.heap.size)(B:dpF f<=5000):Fn Zp 143 [.slice H S.length d,.pointer (sn b o)] w fun u w'=>∃e:Int,u=iV e/\Ext w w'/\(e=0↔HW S f=true):=by
 obtain⟨aa,cc,a5,q0,q1,q2,q3,q4,qa⟩:=I.all;unfold HW;refine AM func143 rfl ntmps143 (go ?_);by_cases R:f.op=3
 ·rw[AJ R];refine gC (Kh w _ S f.name j) ?_;rintro _ w5⟨rfl,rfl⟩;rcases QZ S f.name with⟨r,P⟩|⟨i,s,r,E,P⟩
  ·rw[r,P];refine gR ?_;exact⟨70,rfl,Ext.refl _,by simp⟩
  ·rw[r,P];have a3:=(Ah.1 E).1;obtain⟨_,sb,so,rfl,_,a0⟩:=j.sig E;have A:=a0 2 _ rfl;refine go ?_;refine Ab (rd 0 10 .done) AX rD (fun X c ed=>⟨Ext X,?_,?_⟩)
   ·exact sY
   have s1:CC X b (o+2) (iV f.val):=c.cell q2 O;have s2:CC X sb (so+i*3+2) (iV s.size):=c.cell A O;by_cases l:f.val<s.size
   ·refine gR ?_;exact⟨0,rfl,c,by simp[l]⟩
   ·refine gR ?_;exact⟨71,rfl,c,by simp[l]⟩
 rw[AG R];cases C:Mu f.op with
 |false=>
  rw[AG CX];have C:=C;simp only[Mu,H0,Ec]at C;obtain⟨⟨⟨⟨n,q⟩,p⟩,t⟩,a1⟩:=C;refine gR ?_;exact⟨0,rfl,Ext.refl _,by simp⟩
 |true=>
  rw[AJ rfl];refine mO1 ?_;refine mO1 ?_;refine mO1 ?_;iterate 4 (first|refine nx rfl ?_|refine nf rfl ?_)
  refine CE (α:=Unit) (fun _=>[(0,.slice H S.length d),(1,.pointer (sn b o)),(31,.bool true)]) (fun _ W=>W=w) ?_ ?_
  ·have C:=C;simp only[Mu,Fm,BD]at C;by_cases n:f.op=15
   ·exact sh
   by_cases q:f.op=16
   ·exact sh
   by_cases p:f.op=17
   ·exact sh
   by_cases t:f.op=18
   ·exact sh
   exact sh
  rintro _ _ f3 N;rw[N];clear N;refine go ?_;refine Aj (α:=Nat) (fun k=>[(0,.slice H S.length d),(1,.pointer (sn b o)),(41,iV (f.args.length:Int)),(42,iV (k:Int))]) (fun k W=>k<=f.args.length/\Ext w W/\∀a∈f.args.take k,KM a=true) (fun k=>f.args.length-k) 0 ag ⟨by omega,Ext.refl _,by simp⟩ ?_;rintro k W fr⟨a4,K,g⟩;have a6:=K.cell q4 O;refine go ?_;by_cases T:k<f.args.length
  ·obtain⟨x,V⟩:=gl T;obtain⟨b',o',rfl,L⟩:=qa k x V;have D:=BA V;have a2:=Ds D;rw[Cr]at B;obtain⟨_,x5,Z,F,M⟩:=L;obtain⟨x0,x1,x2,x3,x4,rfl⟩:=An Z;have Q:=F.E K O;refine go ?_;refine Al rfl rF Q ?_;refine AD (iw W _ x (M.ext K) (z.ext K) (Az y K.size) U) rfl ?_;rintro _ w4⟨rfl,m⟩;cases L:KM x with
   |false=>
    have v:f.args.all KM=false:=by
     rw[<-EK,Bu];intro h;rw[h x D]at L;cases L
    rw[v];refine gR ?_;exact⟨72,rfl,K.Q m,by simp⟩
   |true=>
    refine go ?_;refine⟨k+1,⟨rfl,ag,⟨by omega,K.Q m,fun a G=>?_⟩⟩,by omega⟩;rw[CT,V]at G;rcases DM.1 G with G|G
    ·exact g a G
    ·simp at G;rw[G];exact L
  ·obtain rfl:k=f.args.length:=by omega
   rw[Co]at g;refine gR ?_;exact⟨0,rfl,K,by simpa using g⟩
def GD(S:List Sgn)(f:Fml):Bool:=Bo S&&Fy f&&HU (HW S) f&&decide ((Fc f).2=0)
def T0(w:World)(sa:Option Addr)(G:Nat)(S:List Sgn)(v:Value)(f:Fml)(hS:SlAt sgnR AL w (.slice sa S.length G) S)(hf:FAt AL w v f)(hG:GF w)(hK:KY w)(hN:10<=w.heap.size):
  Fn Zp 95 [.slice sa S.length G,v] w fun u w'=>∃e:Int,u=iV e/\Ext w w'/\(e=0↔GD S f=true):=by
 have b1:=hf.lt;obtain⟨c,rfl,a9,c2⟩:=hf.cells;obtain⟨x0,x1,x2,x3,x4,rfl⟩:=An a9;unfold GD;refine HN func95 rfl ntmps95 nlr rD (go ?_);refine Ac (L:=[.slice sa S.length G]) rfl (fun w1 n1=>?_);refine Ac (L:=[x0,x1,x2,x3,x4]) rfl (fun N n2=>?_);refine Ai (fun w3 n3=>?_);have z1:=n1.size;have z2:=n2.size;have z3:=n3.size;have a3:=n2.E.Q n3.E;have k3:Ext w w3:=n1.E.Q a3;have bs:=n1.D.E a3 O;have bf:=n2.D.E n3.E O;have be:Blk w3 N.heap.size 28 [iV 0]:=n3.D;refine gC (Lu w3 _ S (hS.ext k3) (hK.E k3 O)) ?_;rintro _ w4⟨rfl,k4⟩;have z4:=k4.size;have t:=k3.Q k4;have b9:=bf.E k4 O;have a8:=be.E k4 O;cases hv:Bo S with
 |false=>
  refine go ?_;refine AW (v:=iV 1) rfl rfl rfl (a8) O (fun T E=>go ?_);exact Et (CV rfl (E.D.cell (o:=0) rfl) ⟨1,rfl,t.E E.E rE,by simp⟩)
 |true=>
 refine gC (Ui w4 _ f (hf.ext t) (hG.ext t) (hK.E t O) (Az hN t.size)) ?_;rintro _ w5⟨rfl,k5⟩;have z5:=k5.size;have e5:=t.Q k5;have a1:=k4.Q k5;have M:=bs.E a1 O;have p:=bf.E a1 O;have K:=be.E a1 O;cases hvf:Fy f with
 |false=>
  refine go ?_;refine AW (v:=iV 30) rfl rfl rfl (K) O (fun T E=>go ?_);exact Et (CV rfl (E.D.cell (o:=0) rfl) ⟨30,rfl,e5.E E.E rE,by simp⟩)
 |true=>
 obtain⟨b5,c0,_⟩:=VI hvf;simp only[HE];refine gC (fD w5 w1.heap.size 0) ?_;rintro _ P⟨rfl,B⟩;refine go ?_;have z6:=B.size;have b6:=B.D;have e6:=e5.Q B.E;replace M:=M.E B.E O;replace p:=p.E B.E O;replace K:=K.E B.E O;refine Me [] [pt w5.heap.size] rfl rD fun a7 b8 a6 A I k7 s7 m7 r7=>?_;replace b6:=b6.E k7 O;replace M:=M.E k7 O;replace p:=p.E k7 O;replace K:=K.E k7 O;have e7:=e6.Q k7;have hp7:PF (fun b=>b∉[N.heap.size,P.heap.size+1]/\b<A.heap.size) A w1.heap.size 0 f:=⟨by simp;omega,_,rfl,p.cells,(b1.ext e7).mono fun b hb=>by have:=hb.2;simp;omega⟩;obtain⟨a0,j⟩:∃a0:World->Prop,∀W,a0 W↔(Ext w W/\Blk W w.heap.size 22 [.slice sa S.length G]/\Blk W w1.heap.size 37 [x0,x1,x2,x3,x4]/\Blk W N.heap.size 28 [iV 0]/\a7 W/\W.heap[P.heap.size]?=some (.deferred (some []))/\A.heap.size<=W.heap.size):=⟨_,fun _=>Ho⟩;obtain⟨D,hD⟩:∃D:World->Prop,∀W,D W↔(Ext w W/\(∃e:Int,e≠0/\Blk W N.heap.size 28 [iV e])/\a6 .ret W/\W.heap[P.heap.size]?=some (.deferred (some []))/\A.heap.size<=W.heap.size):=⟨_,fun _=>Ho⟩
 have H:TnG (.func (.yield (P.heap.size+1)) #[] #[]) [N.heap.size,P.heap.size+1] A.heap.size 60 (HW S) a0 D:=by
  refine⟨⟨_,rfl⟩,fun C k=>?_,fun{W b o x}C hp hz=>?_⟩
  ·obtain⟨q,l,g,Q,n,r,j7⟩:=(j _).1 C;exact(j _).2 ⟨q.Q k,l.E k O,g.E k O,Q.E k O,I.rdy n k O,(k.block _ U O).Q r,Az j7 k.size⟩
  ·obtain⟨q,l,g,Q,n,r,j7⟩:=(j _).1 C;refine YldP.mono (R:=fun v W'=>v=.bool (HW S x)/\Keep [N.heap.size,P.heap.size+1] W W'/\if HW S x=true then a0 W' else D W') (Y:=fun _ _=>False) (I.round n rfl ?_) (fun v W' h=>h) (fun _ _ h=>h);refine go ?_;refine⟨n,fun W2 s c5 y2=>?_⟩;have Z:=q.E s rE;replace l:=l.E s rE;replace g:=g.E s rE;replace Q:=Q.E s rE;replace r:=(s.block _ U O).Q r;have b3:=(hp.E s (fun b h=>by have:=h.1;simp at this⊢;omega)).mono (ok':=AL) (fun _ _=>trivial);have c1:=Pf x;refine gC (ak W2 sa G S b o x (hS.ext Z) b3 (hG.ext Z) (Az hN Z.size) U) ?_;rintro _ W3⟨e,rfl,a,he⟩;have q3:=s.Q a (fun x h=>by cases h);have zq:=q3.size;by_cases i:e=0
   ·have V:=he.1 i;subst i;refine go ?_;refine M4 (I.bsy y2 a O) fun W4 d s4 y4=>⟨by rw[V],(q3.Q d (fun x h _=>h)).mono (fun x V=>by simp at V;simp[V]),(AJ V).mpr<|(j _).2 ⟨(Z.Q a).E d rE,(l.E a O).E d rE,(g.E a O).E d rE,(Q.E a O).E d rE,y4,(d.block _ U O).Q ((a.block _ U O).Q r),by omega⟩⟩
   ·have V:HW S x=false:=by rw[<-EK,<-he];exact i
    refine go ?_;refine AW (v:=iV e) rfl rfl rfl (Q.E a O) O (fun W5 F=>go ?_);have zp:=F.E.size;refine Qn (I.bsy (I.bsy y2 a O) F.E rE) fun W4 d s4 y4=>⟨by rw[V],((q3.mono (fun x V=>by simp at V;simp[V])).Q F.E (fun x V _=>by simp at V;simp[V])).Q d (fun x V _=>by simp at V;simp[V]),(AG (by rw[V];simp)).mpr<|(hD _).2 ⟨((Z.Q a).E F.E rE).E d rE,⟨e,i,F.D.E d rE⟩,y4,(d.block _ U O).Q ((F.E.block _ U rE).Q ((a.block _ U O).Q r)),by omega⟩⟩
 refine Fn.mono (am A w5.heap.size w1.heap.size 0 f H b6 hp7 b5 ((j _).2 ⟨e7,M,p,K,r7,m7,AO _⟩) (fun x V=>by simp at V;omega)) ?_;rintro v w8⟨_,C⟩;clear b6 M p K;cases ha:HU (HW S) f with
 |false=>
  rw[ha,AG CX]at C;obtain⟨q,⟨e,i,l⟩,g,Q,n⟩:=(hD _).1 C;refine .inr ⟨.ret,g,fun T m s9=>?_⟩;clear j hD H C I;dsimp only[LC];refine go ?_;refine GI ((m.block _ U O).Q Q) fun a5 X a4=>?_;exact Et (CV rfl (((l.E m rE).E X rE).cell (o:=0) rfl) ⟨e,rfl,(q.E m rE).E X rE,by simp[i]⟩)
 |true=>
 rw[ha,AJ rfl]at C;obtain⟨q,l,g,Q,n,r,j7⟩:=(j _).1 C;refine .inl ⟨n,fun T m s9=>?_⟩;clear j hD H C I;replace g:=g.E m rE;replace Q:=Q.E m rE;replace r:=(m.block _ U O).Q r;have y:=q.E m rE;refine gC (Tx T _ f (hf.ext y) (hG.ext y) (hK.E y O) (Az hN y.size)) ?_;rintro u c3⟨cu,rfl,k10,fu⟩;obtain⟨cs,rfl,b0,b2⟩:=fu.cells;obtain⟨y0,y1,y2,y3,y4,rfl⟩:=An b0;refine go ?_;refine CL (cs:=[y0,y1,y2,y3,y4]) rfl rfl rF b2 (fun c4 b7=>?_);have z:=k10.Q b7.E;have zz:=z.size;have b4:=Q.E z O;have a2:=(z.block _ U O).Q r;by_cases i:(Fc f).2=0
 ·refine go ?_;refine AW (v:=iV 0) rfl rfl rfl (b4) O (fun T E=>go ?_);refine GI ((E.E.block _ U rE).Q a2) fun a5 X a4=>?_;exact Et (CV rfl ((E.D.E X rE).cell (o:=0) rfl) ⟨0,rfl,((y.Q z).E E.E rE).E X rE,by simp[i]⟩)
 ·refine go ?_;refine AW (v:=iV 2) rfl rfl rfl (b4) O (fun T E=>go ?_);refine GI ((E.E.block _ U rE).Q a2) fun a5 X a4=>?_;exact Et (CV rfl ((E.D.E X rE).cell (o:=0) rfl) ⟨2,rfl,((y.Q z).E E.E rE).E X rE,by simp[i]⟩)
section
attribute [local semireducible] WC AF CO B0 Cx B8 Cc CB
variable {P:Program}{all:Array Oper}{Z:Fr->DS->List PanicEntry->World->Prop}{K:Fr->DS->World->Prop}{rest:List Oper}{f:Fr}{ds:DS}{w:World}{d:Nat}{ty:TypeId}{pos:String}{af:Array Edge}
def du{T:TypeId}{m k:Operand}{r:Nat}{x:LU}{y z:Value}{L:List (LU×Value)}[hT:KH P T z](n:ev f m=.map (some r))(e:ev f k=AA x)(S:SMap w r L)(V:L.lookup x=some y)
  (h:AF P all Z K rest (upd f d y) ds w):AF P all Z K (⟨some d,.lookup T m k false,ty,pos,af,none⟩::rest) f ds w:=by
 obtain⟨l,p,i,b,W,R,A⟩:=hT.out;have H:=OG S;obtain⟨N,g,c,E,o⟩:=S;refine At rfl ?_ h;have I:=KW (P:=P) (w:=w) (k:=AA x) W trivial N.isEmpty 9999;rcases Od W o H x w with⟨a,u,_⟩|⟨j,v,a,u⟩
 ·rw[a]at V;cases V
 ·rw[a]at V;cases V;simp[execOp,n,e,Instr.lookup,BV b,I5 c,I,u]
def om{T:TypeId}{m k v:Operand}{r:Nat}{x:LU}{y z:Value}{L:List (LU×Value)}[hT:KH P T z](p:ev f m=.map (some r))(o:ev f k=AA x)(s:ev f v=y)(b:SMap w r L)(V:L.lookup x=none)
  (h:∀w',Keep [r] w w'->w'.heap.size=w.heap.size->SMap w' r (L++[(x,y)])->AF P all Z K rest f ds w'):AF P all Z K (⟨none,.mapUpdate T m k v,ty,pos,af,none⟩::rest) f ds w:=by
 obtain⟨l,q,i,n,W,R,A⟩:=hT.out;have H:=OG b;obtain⟨e,g,S,E,c⟩:=b;have I:=KW (P:=P) (w:=w) (k:=AA x) W trivial false 9999;rcases Od W c H x w with⟨a,u,N⟩|⟨j,t,a,u⟩
 ·refine M7 (w':={w with heap:=w.heap.setIfInBounds r (.map (e.push {key:=AA x,val:=y,born:=g}) (g+1))}) rfl ?_ (h _ (TP fun _ _ _ h=>by cases h) O ⟨_,_,(Wy S).1,UL E N,?_⟩)
  ·simp[execOp,p,o,s,Instr.mapUpdate,BV n,I5 S,I,u,TU _ S]
  ·rw[Wt,FB,c];simp[rdS,KP]
 ·rw[a]at V;cases V
end
instance:KH Zp 146 (iV 0):=Wg underlying146 underlying9 rD
def SlAt.req{ok:Nat->Prop}{w:World}{a:Option Addr}{n c:Nat}{l:List Rqm}{k:Nat}{x:Rqm}(h:SlAt reqR ok w (.slice a n c) l)(V:l[k]?=some x):∃b o d,a=some ⟨b,o,none⟩/\ok b/\d.length=5/\Cells w b (o+k*8) ([AA x.part,AA x.name,iV x.kind]++d)/\FAt ok w (.agg d.toArray) x.formula:=by
 obtain⟨p,q,L,e,i,j⟩:=h;cases e;have C:=(Ah.1 V).1;obtain⟨s,r⟩:∃s,L[k]?=some s:=⟨_,AU (by rw[j.1];exact C)⟩;obtain⟨d,rfl,g,m⟩:=j.2 k s x r V;obtain⟨b,o,e,S,T⟩:=i.recs j (sz:=8) rfl r C;exact⟨b,o,d,e,S,g,T,m⟩
def nmI(k:List Rqm)(l:LU):Option Nat:=k.findIdx? fun r=>decide (r.name=l)
def TA(w:World)(n:Nat)(l:List Rqm):Prop:=∃r L,Blk w n 146 [.map (some r)]/\SMap w r L/\∀a,L.lookup a=(nmI l a).map fun i=>iV (i:Int)
def jh(l:List Rqm)(x:Rqm)(a:LU):nmI (l++[x]) a=match nmI l a with|some i=>some i|none=>if x.name=a then some l.length else none:=by
 unfold nmI;rw[List.findIdx?_append];cases h:l.findIdx? (fun r=>decide (r.name=a))with
 |some i=>simp
 |none=>
  simp only[Option.none_or,List.findIdx?_cons,List.findIdx?_nil];by_cases V:x.name=a<;>simp[V]
abbrev ER(k:Nat)(L:LV):Value:=.func (.func k) #[] L.toArray
def qo:(madeCells (Value.agg #[.nilFunc]).cells (3*1)).toList=[.nilFunc,.nilFunc,.nilFunc]:=by kernel_rfl
def kR(w:World)(E:Nat)(sv:Value)(ra:Option Addr)(a:Nat)(b:List Rqm)(A:Blk w E 25 [sv,.slice ra b.length a])(hr:SlAt reqR AL w (.slice ra b.length a) b)(H:b.length<=1000):
  Fn Zp 36 [pt E] w fun u w'=>∃g y mb,u=.slice (sm g) 3 3/\Ext w w'/\Blk w' g 83 [ER 92 [pt y],ER 93 [pt mb,pt y],ER 94 [pt y]]/\Blk w' y 72 [pt E]/\TA w' mb b:=by
 refine AM func36 rfl ntmps36 (go ?_);refine Ac (L:=[pt E]) rfl (fun Q D=>go ?_);refine QU (fun o k2 z2 m=>?_);refine Ai (fun w3 C=>?_);refine AW (v:=.map (some Q.heap.size)) rfl rfl rfl C.D O (fun r F=>?_);have z1:=D.size;have z3:=C.size;have z4:=F.size;have B:Ext o r:=C.E.E F.E O;have a2:Blk r w.heap.size 72 [pt E]:=D.D.E (k2.Q B) O;have a1:Blk r o.heap.size 146 [.map (some Q.heap.size)]:=F.D;have m4:=m.E B O;have n:Ext w r:=(D.E.Q k2).Q B;have b4:=A.E n O;have a9:=A.lt;refine go ?_;refine Aj (α:=Nat) (fun k=>[(1,pt w.heap.size),(2,nS),(3,pt o.heap.size),(15,iV (b.length:Int)),(16,iV (k:Int))]) (fun k W=>k<=b.length/\Ext w W/\Blk W w.heap.size 72 [pt E]/\Blk W o.heap.size 146 [.map (some Q.heap.size)]/\r.heap.size<=W.heap.size/\∃L,SMap W Q.heap.size L/\∀l,L.lookup l=(nmI (b.take k) l).map fun i=>iV (i:Int)) (fun k=>b.length-k) 0 ag ⟨by omega,n,a2,a1,AO _,[],m4,fun l=>rfl⟩ ?_;rintro k W fr⟨a8,q,R,z,zW,L,mW,S⟩;have bW:=A.E q O;refine go ?_;by_cases a5:k<b.length
 ·obtain⟨x,hx⟩:=gl a5;obtain⟨rb,ro,d,rfl, -,hd,hc, -⟩:=hr.req hx;have G:=hc 1 _ rfl;have a7:=HX w _ G;simp only at a7;have c1:=q.cell G O;refine go ?_;refine Ab (rd 0 15 .done) AX rD (fun X j ed=>⟨Ext X,?_,?_⟩)
  ·exact sY
  have zd:=j.size;have T:=R.E j O;have c:=z.E j O;have bd:=bW.E j O;have a3:=j.cell c1 O;have s:=mW.E j O;refine go ?_;apply D_R;rfl;rfl
  ·intro V hV;refine Tm rfl rfl (s.E hV O) ?_;exact AB ⟨rfl,rfl,rfl⟩
  refine go ?_;have t:L.lookup x.name=_:=S x.name
  have a0:∀l,nmI (b.take (k+1)) l=match nmI (b.take k) l with|some i=>some i|none=>if x.name=l then some k else none:=by
   intro l;rw[CT,hx];have:=jh (b.take k) x l
   rwa [DE,Ga U]at this
  cases hi:nmI (b.take k) x.name with
  |some i=>
   rw[hi]at t;rw[t];refine go ?_;refine⟨k+1,⟨rfl,ag,⟨by omega,q.Q j,T,c,by omega,L,s,fun l=>?_⟩⟩,by omega⟩;rw[S,a0];by_cases H:x.name=l
   ·subst H;simp[hi]
   ·cases nmI (b.take k) l<;>simp[H]
  |none=>
   rw[hi]at t;rw[t];refine go ?_;have a4:=q.Q j;refine Ab (rd 0 10 (.alt 10 .done .stop)) AX rD (fun X j ed=>⟨Keep [Q.heap.size] X,?_,?_⟩)
   ·exact tK
   have b0:=j.size;have N:=T.E j O;have M:=c.E j O;have m:=s.E j O;have s1:∀V,Keep [Q.heap.size] X V->CC V w.heap.size 0 (pt E):=fun V e=>(N.E e rE).cell rfl;have s2:∀V,Keep [Q.heap.size] X V->CC V o.heap.size 0 (.map (some Q.heap.size)):=fun V e=>(M.E e rE).cell rfl;have s3:∀V,Keep [Q.heap.size] X V->CC V E (0+1) (.slice (sn rb ro) b.length a):=fun V e=>((bd.E j O).E e rE).cell rfl;have s4:∀V,Keep [Q.heap.size] X V->CC V rb (ro+k*8+1) (AA x.name):=fun V e=>e.cell (j.cell a3 O) rE;refine gE ?_;refine om rfl rfl rfl m t (fun w9 p z9 m9=>?_);refine wNl p ?_;refine go ?_;refine⟨k+1,⟨rfl,ag,⟨by omega,(a4.Q j).E p rE,N.E p rE,M.E p rE,by have:=p.size;omega,_,m9,fun l=>?_⟩⟩,by omega⟩;rw[a0,List.lookup_append,S];by_cases H:x.name=l
   ·subst H;rw[hi];simp;rfl
   ·have a6:(l==x.name)=false:=by simpa using fun h=>H h.symm
    cases nmI (b.take k) l with
    |some i=>simp
    |none=>simp[Jo,H,a6]
 ·obtain rfl:k=b.length:=by omega
  rw[Co]at S;refine go ?_;refine Ay (out:=[ER 92 [pt w.heap.size],ER 93 [pt o.heap.size,pt w.heap.size],ER 94 [pt w.heap.size]]) rfl U (by rw[qo];rfl) (fun w5 I=>?_);refine gR ?_;exact⟨W.heap.size,w.heap.size,o.heap.size,rfl,q.Q I.E,I.D,R.E I.E O,Q.heap.size,L,z.E I.E O,mW.E I.E O,S⟩
def Hn(r:Rqm):Bool:=(decide (r.kind=1)||decide (r.kind=2))&&BP r.part&&BP r.name
def V7{k:List Rqm}{i:Nat}{x:Rqm}(h:k[i]?=some x):∃j,nmI k x.name=some j/\j<=i:=by
 unfold nmI;cases hj:k.findIdx? (fun r=>decide (r.name=x.name))with
 |none=>
  rw[NU]at hj;have:=hj x (BA h);simp at this
 |some j=>
  refine⟨j,rfl,?_⟩;obtain⟨z,Z,W⟩:=IX.1 hj;refine Wz fun v=>?_;have:=W i v;obtain⟨F,rfl⟩:=Ah.1 h;simp at this
def kO(w:World)(h E:Nat)(sv:Value)(C:Option Addr)(a:Nat)(k:List Rqm)(i:Nat)(x:Rqm)(V:k[i]?=some x)(c:Blk w h 72 [pt E])(S:Blk w E 25 [sv,.slice C k.length a])(B:SlAt reqR AL w (.slice C k.length a) k)(G:KY w):
  Fn Zp 92 [iV (i:Int),pt h] w fun u w'=>u=iV (if Hn x=true then 0 else 1)/\w'=w:=by
 have z:=(Ah.1 V).1;obtain⟨f,g,d,rfl, -,b,T,K⟩:=B.req V;have e:=T 0 _ rfl;have I:=T 1 _ rfl;have D:=T 2 _ rfl;unfold Hn;refine AM func92 rfl ntmps92 (go ?_);by_cases Z:x.kind=1
 ·refine gC (Jr x.part w G) ?_;rintro _ w⟨rfl,rfl⟩;cases hp1:BP x.part with
  |false=>
   refine gR ?_;exact⟨by simp[Z];rfl,rfl⟩
  |true=>
   refine gC (Jr x.name w G) ?_;rintro _ w⟨rfl,rfl⟩;cases hp2:BP x.name with
   |false=>
    refine gR ?_;exact⟨by simp[Z];rfl,rfl⟩
   |true=>
    refine gR ?_;exact⟨by simp[Z];rfl,rfl⟩
 by_cases W:x.kind=2
 ·refine gC (Jr x.part w G) ?_;rintro _ w⟨rfl,rfl⟩;cases hp1:BP x.part with
  |false=>
   refine gR ?_;exact⟨by simp[W];rfl,rfl⟩
  |true=>
   refine gC (Jr x.name w G) ?_;rintro _ w⟨rfl,rfl⟩;cases hp2:BP x.name with
   |false=>
    refine gR ?_;exact⟨by simp[W];rfl,rfl⟩
   |true=>
    refine gR ?_;exact⟨by simp[W];rfl,rfl⟩
 refine gR ?_;exact⟨by simp[Z,W];rfl,rfl⟩
def kP(w:World)(h E n:Nat)(sv:Value)(g:Option Addr)(a:Nat)(k:List Rqm)(i:Nat)(x:Rqm)(e:k[i]?=some x)(o:Blk w h 72 [pt E])(l:Blk w E 25 [sv,.slice g k.length a])(B:SlAt reqR AL w (.slice g k.length a) k)(m:TA w n k)(H:k.length<=1000):
  Fn Zp 93 [iV (i:Int),pt n,pt h] w fun u w'=>u=iV (if nmI k x.name=some i then 0 else 4)/\Ext w w':=by
 have z:=(Ah.1 e).1;obtain⟨F,G,d,rfl, -,A,T,K⟩:=B.req e;have I:=T 1 _ rfl;obtain⟨r,L,Z,q,S⟩:=m;obtain⟨j,C,D⟩:=V7 e;have t:=S x.name;rw[C]at t;refine AM func93 rfl ntmps93 (go ?_);refine Ab (rd 0 12 .done) AX rD (fun X W y=>⟨Ext X,?_,?_⟩)
 ·exact sY
 have f:=o.E W O;have c:=Z.E W O;have v:=l.E W O;have b:=W.cell I O;have s:=q.E W O;refine go ?_;apply D_R;rfl;rfl
 ·intro V p;refine du rfl rfl (s.E p O) t ?_;exact AB ⟨rfl,rfl,rfl⟩
 rw[C];by_cases z:j<i
 ·refine gR ?_;exact⟨by rw[AG rE];rfl,W⟩
 ·obtain rfl:j=i:=by omega
  refine gR ?_;exact⟨by rw[AJ rfl];rfl,W⟩
def kQ(w:World)(q E:Nat)(H:Option Addr)(G:Nat)(S:List Sgn)(C:Option Addr)(a:Nat)(k:List Rqm)(i:Nat)(x:Rqm)(m:k[i]?=some x)(M:Blk w q 72 [pt E])(D:Blk w E 25 [.slice H S.length G,.slice C k.length a])(A:SlAt sgnR AL w (.slice H S.length G) S)(N:SlAt reqR AL w (.slice C k.length a) k)(z:GF w)(v:KY w)(y:10<=w.heap.size):
  Fn Zp 94 [iV (i:Int),pt q] w fun u w'=>∃e:Int,u=iV e/\Ext w w'/\(e=0↔GD S x.formula=true):=by
 have Z:=(Ah.1 m).1;obtain⟨s,t,d,rfl, -,I,T,K⟩:=N.req m;obtain⟨f,b,g,c,l,rfl⟩:=An I
 have F:Cells w s (t+i*8+3) [f,b,g,c,l]:=fun j u o=>by
  have:=T (3+j) u (by rw[EJ O];simpa using o)
  rwa [<-GH]at this
 refine AM func94 rfl ntmps94 (go ?_);refine Ab (rd 0 12 (.alt 12 (.read 13 .done) .stop)) AX rD (fun X W R=>⟨Ext X,?_,?_⟩)
 ·exact sY
 have Q:=M.E W O;have P:=D.E W O;have r:∀V,Ext X V->Cells V s (t+i*8+3) [f,b,g,c,l]:=fun V e=>(F.E W O).E e O;refine go ?_;apply D_R;rfl;rfl
 ·intro V p;refine Al (L:=[f,b,g,c,l]) rfl rfl (r V p) ?_;exact AB ⟨rfl,rfl,rfl⟩
 refine D_E rfl ?_;refine AD (T0 X H G S _ x.formula (A.ext W) (K.ext W) (z.ext W) (v.E W O) (Az y W.size)) rfl ?_;rintro _ w5⟨e,rfl,n,B⟩;refine wNl n ?_;refine gR ?_;exact⟨e,rfl,W.Q n,B⟩
def Hx(S:List Sgn)(k:List Rqm)(i:Nat):Bool:=match k[i]? with
 |some x=>Hn x&&decide (nmI k x.name=some i)&&GD S x.formula
 |none=>false
def Dx(s:Spc):Bool:=Bo s.sigs&&decide (s.reqs.length<=16)&&(List.range s.reqs.length).all (Hx s.sigs s.reqs)
def FltA(w:World)(B:Nat)(v:Value)(N:Nat)(H:Prop):Prop:=∃n M,w.ownsRow B 78 2 v n M/\n<=N/\M.length=n*2/\(n=0↔H)/\(n≠0->∃e:Int,e≠0/\M[1]?=some (iV e))
def FltA.push{w':World}{B N n:Nat}{b:Value}{xs:LV}{q:Prop}{k:Value}{e:Int}(f:n<=N)(W:xs.length=n*2)(A:n≠0->∃e:Int,e≠0/\xs[1]?=some (iV e))(a:w'.ownsRow B 78 2 b (n+1) (xs++[k,iV e]))(c:e≠0)(V:¬q):FltA w' B b (N+1) q:=by
 refine⟨n+1,_,a,by omega,by simp[W];omega,by simp[V],fun _=>?_⟩;by_cases H:n=0
 ·subst H;have:xs=[]:=Dc U;subst this;exact⟨e,c,rfl⟩
 ·obtain⟨d,Z,p⟩:=A H;exact⟨d,Z,by rw[D4 U];exact p⟩
def JY:(madeCells (Value.agg #[iV 0,iV 0]).cells (1*2)).toList=[iV 0,iV 0]:=by kernel_rfl
def ig(w:World)(sa:Option Addr)(sc:Nat)(C:Option Addr)(Q:Nat)(s:Spc)(hS:SlAt sgnR AL w (.slice sa s.sigs.length sc) s.sigs)(B:SlAt reqR AL w (.slice C s.reqs.length Q) s.reqs)(hG:GF w)(hK:KY w)(hN:10<=w.heap.size):
  Fn Zp 10 [.agg #[.slice sa s.sigs.length sc,.slice C s.reqs.length Q]] w fun u w'=>Ext w w'/\FltA w' w.heap.size u 16 (Dx s=true):=by
 obtain⟨S,c⟩:=s;simp only at hS B;obtain⟨_,_,_,hrl⟩:=B.len;refine AM func10 rfl ntmps10 (go ?_);refine Ac (L:=[.slice sa S.length sc,.slice C c.length Q]) rfl (fun w1 n1=>?_);have z1:=n1.size;have b1:=n1.D;refine gC (Lu w1 _ S (hS.ext n1.E) (hK.E n1.E O)) ?_;rintro _ w3⟨rfl,k3⟩;have z3:=k3.size;have e3:=n1.E.Q k3;have b3:=b1.E k3 O;cases hv:Bo S with
 |false=>
  refine go ?_;have hq:(1:Nat)=0↔Dx ⟨S,c⟩=true:=by simp[Dx,hv]
  refine Ay (out:=[iV (-1),iV 1]) rfl U rp (fun w5 n5=>?_);refine gR ?_;exact⟨e3.Q n5.E,1,_,n5.own (n:=1) (size:=2) rfl rL U,by omega,rfl,hq,fun _=>⟨1,by omega,rfl⟩⟩
 |true=>
 by_cases b2:16<c.length
 ·refine go ?_;have hq:(1:Nat)=0↔Dx ⟨S,c⟩=true:=by simp[Dx,hv];omega
  refine Ay (out:=[iV (-1),iV 2]) rfl U rp (fun w5 n5=>?_);refine gR ?_;exact⟨e3.Q n5.E,1,_,n5.own (n:=1) (size:=2) rfl rL U,by omega,rfl,hq,fun _=>⟨2,by omega,rfl⟩⟩
 refine gC (kR w3 w.heap.size _ C Q c b3 (B.ext e3) U) ?_;rintro _ w4⟨g,m,G,rfl,N,bg,bp,bm⟩;have z4:=N.size;have e4:=e3.Q N;have b4:=b3.E N O;refine go ?_
 refine Aj (α:=Nat×Value) (fun y=>[(1,pt w.heap.size),(3,y.2),(4,.slice (sm g) 3 3),(24,iV (c.length:Int)),(25,iV (y.1:Int))])
  (fun y W=>y.1<=c.length/\Ext w W/\Ext w4 W/\FltA W w4.heap.size y.2 y.1 (∀i<y.1,Hx S c i=true)) (fun y=>c.length-y.1) (0,nS) ag ⟨by simp,e4,Ext.refl _,0,[],⟨rfl,.inl ⟨rfl,rfl⟩⟩,AO _,rfl,by simp,by simp⟩ ?_
 rintro⟨k,v⟩W fr⟨a9,Z,q,X⟩;simp only at a9 Z q X;have bW:=b4.E q O;have a4:=bg.E q O;have a5:=bp.E q O
 have a7:∀V,Ext W V->TA V G c:=fun V b=>by
  obtain⟨r,L,h1,h2,h3⟩:=bm;exact⟨r,L,h1.E (q.Q b) O,h2.E (q.Q b) O,h3⟩
 refine go ?_;by_cases b0:k<c.length
 ·obtain⟨x,hx⟩:=gl b0;have a3:Hx S c k=(Hn x&&decide (nmI c x.name=some k)&&GD S x.formula):=by unfold Hx;rw[hx]
  refine go ?_
  refine Aj (α:=Nat) (fun j=>[(1,pt w.heap.size),(3,v),(4,.slice (sm g) 3 3),(5,iV (k:Int)),(24,iV (c.length:Int)),(25,iV (k:Int)),(28,.slice (sm g) 3 3),(29,iV 3),(30,iV (j:Int))])
   (fun j V=>j<=3/\Ext W V/\(1<=j->Hn x=true)/\(2<=j->nmI c x.name=some k)/\(3<=j->GD S x.formula=true)) (fun j=>3-j) 0 ag ⟨by simp,Ext.refl _,by omega,by omega,by omega⟩ ?_
  rintro j V fr⟨hj,K,h1,h2,h3⟩;refine go ?_;by_cases hj3:j<3
  ·rcases(show j=0\/j=1\/j=2 by omega)with rfl|rfl|rfl
   ·have a1:Cells V g 0 [ER 92 [pt m]]:=fun i u o=>by
     obtain⟨rfl,rfl⟩:i=0/\u=ER 92 [pt m]:=by
      cases i with
      |zero=>exact⟨rfl,by simpa using o.symm⟩
      |succ i=>simp at o
     exact(a4.E K O).cell rfl
    refine go ?_;refine Al (L:=[ER 92 [pt m]]) rfl rfl a1 ?_;refine Ai (L:=[.nilFunc]) (fun V1 d=>?_);refine Aa (cs:=[ER 92 [pt m]]) rfl rfl rfl (Ak rfl) d.D O (fun t p=>?_);have a2:Ext V t:=d.E.E p.E O;have bq:Blk t V.heap.size 83 [ER 92 [pt m]]:=p.D;have b:=K.Q a2;have F:=Z.Q b;have a0:=a5.E b O;have bV:=bW.E b O;refine go ?_;refine Bg (v1:=[]) (v2:=[pt m]) (vs:=[iV (k:Int)]) rfl (kO t m w.heap.size _ C Q c k x hx a0 bV (B.ext F) (hK.E F O)) rfl ?_;rintro _ _⟨rfl,rfl⟩;by_cases A:Hn x=true;rotate_left
    ·rw[AG A];have H:Hx S c k=false:=by rw[a3];simp[A]
     obtain⟨n,M,a,P,p,l,E⟩:=X;refine go ?_;refine Ay (out:=[iV (k:Int),iV 1]) rfl U rp (fun V3 D=>?_);have z:=(q.Q b).Q D.E;have a6:=z.size;refine Bk (ok:=AL) (v:=v) rfl rfl (CD a (Ext.Q b D.E)) (BG (D.own (n:=1) (size:=2) rfl rL (AO _)) fun _ _=>trivial) U rfl rfl (Ak rfl) U U U (fun v8 w8 R=>?_);have T:∀y∈v.ownBlock.toList,w4.heap.size<=y:=fun y I=>(Ao a (Aw.1 I)).1;refine go ?_;refine⟨(k+1,v8),⟨rfl,ag,⟨by simp only;omega,(e4.Q z).E R.E (fun y I=>by have:=T y I;omega),z.E R.E (fun y I=>by have:=T y I;omega),?_⟩⟩,by simp only;omega⟩;refine FltA.push P p E R.own U (fun h=>?_);have:=h k U;rw[H]at this;cases this
    ·rw[AJ A];refine go ?_;exact⟨1,⟨rfl,ag,⟨by omega,b,fun _=>A,by omega,by omega⟩⟩,by omega⟩
   ·have a1:Cells V g 1 [ER 93 [pt G,pt m]]:=fun i u o=>by
     obtain⟨rfl,rfl⟩:i=0/\u=ER 93 [pt G,pt m]:=by
      cases i with
      |zero=>exact⟨rfl,by simpa using o.symm⟩
      |succ i=>simp at o
     exact(a4.E K O).cell rfl
    refine go ?_;refine Al (L:=[ER 93 [pt G,pt m]]) rfl rfl a1 ?_;refine Ai (L:=[.nilFunc]) (fun V1 d=>?_);refine Aa (cs:=[ER 93 [pt G,pt m]]) rfl rfl rfl (Ak rfl) d.D O (fun t p=>?_);have a2:Ext V t:=d.E.E p.E O;have bq:Blk t V.heap.size 83 [ER 93 [pt G,pt m]]:=p.D;have b:=K.Q a2;have F:=Z.Q b;have a0:=a5.E b O;have bV:=bW.E b O;refine go ?_;refine Bg (v1:=[]) (v2:=[pt G,pt m]) (vs:=[iV (k:Int)]) rfl (kP t m w.heap.size G _ C Q c k x hx a0 bV (B.ext F) (a7 t b) U) rfl ?_;rintro _ V4⟨rfl,N⟩;have f:=b.Q N;by_cases A:nmI c x.name=some k
    ·rw[AJ A];refine go ?_;exact⟨2,⟨rfl,ag,⟨by omega,f,fun _=>h1 U,fun _=>A,by omega⟩⟩,by omega⟩
    ·rw[AG A];have H:Hx S c k=false:=by rw[a3];simp[A]
     obtain⟨n,M,a,P,p,l,E⟩:=X;refine go ?_;refine Ay (out:=[iV (k:Int),iV 4]) rfl U rp (fun V3 D=>?_);have z:=(q.Q f).Q D.E;have a6:=z.size;refine Bk (ok:=AL) (v:=v) rfl rfl (CD a (Ext.Q f D.E)) (BG (D.own (n:=1) (size:=2) rfl rL (AO _)) fun _ _=>trivial) U rfl rfl (Ak rfl) U U U (fun v8 w8 R=>?_);have T:∀y∈v.ownBlock.toList,w4.heap.size<=y:=fun y I=>(Ao a (Aw.1 I)).1;refine go ?_;refine⟨(k+1,v8),⟨rfl,ag,⟨by simp only;omega,(e4.Q z).E R.E (fun y I=>by have:=T y I;omega),z.E R.E (fun y I=>by have:=T y I;omega),?_⟩⟩,by simp only;omega⟩;refine FltA.push P p E R.own U (fun h=>?_);have:=h k U;rw[H]at this;cases this
   ·have a1:Cells V g 2 [ER 94 [pt m]]:=fun i u o=>by
     obtain⟨rfl,rfl⟩:i=0/\u=ER 94 [pt m]:=by
      cases i with
      |zero=>exact⟨rfl,by simpa using o.symm⟩
      |succ i=>simp at o
     exact(a4.E K O).cell rfl
    refine go ?_;refine Al (L:=[ER 94 [pt m]]) rfl rfl a1 ?_;refine Ai (L:=[.nilFunc]) (fun V1 d=>?_);refine Aa (cs:=[ER 94 [pt m]]) rfl rfl rfl (Ak rfl) d.D O (fun t p=>?_);have a2:Ext V t:=d.E.E p.E O;have bq:Blk t V.heap.size 83 [ER 94 [pt m]]:=p.D;have b:=K.Q a2;have F:=Z.Q b;have a0:=a5.E b O;have bV:=bW.E b O;refine go ?_;refine Bg (v1:=[]) (v2:=[pt m]) (vs:=[iV (k:Int)]) rfl (kQ t m w.heap.size sa sc S C Q c k x hx a0 bV (hS.ext F) (B.ext F) (hG.ext F) (hK.E F O) (Az hN F.size)) rfl ?_;rintro _ V4⟨e,rfl,N,he⟩;have f:=b.Q N;by_cases h0:e=0
    ·have hx3:=he.1 h0;subst h0;refine go ?_;exact⟨3,⟨rfl,ag,⟨by omega,f,fun _=>h1 U,fun _=>h2 U,fun _=>hx3⟩⟩,by omega⟩
    ·have A:GD S x.formula=false:=by rw[<-EK,<-he];exact h0
     have H:Hx S c k=false:=by rw[a3];simp[A]
     obtain⟨n,M,a,P,p,l,E⟩:=X;refine go ?_;refine Ay (out:=[iV (k:Int),iV e]) rfl U rp (fun V3 D=>?_);have z:=(q.Q f).Q D.E;have a6:=z.size;refine Bk (ok:=AL) (v:=v) rfl rfl (CD a (Ext.Q f D.E)) (BG (D.own (n:=1) (size:=2) rfl rL (AO _)) fun _ _=>trivial) U rfl rfl (Ak rfl) U U U (fun v8 w8 R=>?_);have T:∀y∈v.ownBlock.toList,w4.heap.size<=y:=fun y I=>(Ao a (Aw.1 I)).1;refine go ?_;refine⟨(k+1,v8),⟨rfl,ag,⟨by simp only;omega,(e4.Q z).E R.E (fun y I=>by have:=T y I;omega),z.E R.E (fun y I=>by have:=T y I;omega),?_⟩⟩,by simp only;omega⟩;refine FltA.push P p E R.own U (fun h=>?_);have:=h k U;rw[H]at this;cases this
  ·obtain rfl:j=3:=by omega
   have H:Hx S c k=true:=by rw[a3,h1 U,h3 U,h2 U];simp
   refine go ?_;obtain⟨n,M,a,P,p,l,E⟩:=X;refine⟨(k+1,v),⟨rfl,ag,⟨by simp only;omega,Z.Q K,q.Q K,n,M,CD a K,by simp only;omega,p,?_,E⟩⟩,by simp only;omega⟩;rw[l];refine⟨fun h i hi=>?_,fun h i hi=>h i (by simp only;omega)⟩;simp only at hi;by_cases a8:i=k
   ·rw[a8];exact H
   ·exact h i U
 ·obtain rfl:k=c.length:=by omega
  refine go ?_;obtain⟨n,M,a,P,p,l,E⟩:=X;refine AC rfl ⟨Z,n,M,I9 a e4.size,by omega,p,?_,E⟩;rw[l];simp[Dx,hv];omega
structure Two(B:Nat)(W:World)(v1 v2:Value)(l1 l2:LF):Prop where
 o1:∃L,W.ownsRow B 37 5 v1 l1.length L.flatten/\FsAt (fun b=>B<=b/\v1.ownBlock≠some b/\v2.ownBlock≠some b) W L l1
 o2:∃L,W.ownsRow B 37 5 v2 l2.length L.flatten/\FsAt (fun b=>B<=b/\v1.ownBlock≠some b/\v2.ownBlock≠some b) W L l2
 ne:∀g,v1.ownBlock=some g->v2.ownBlock≠some g
def Two.start(B:Nat)(W:World):Two B W (nS) (nS) [] []:=
 ⟨⟨[],⟨rfl,.inl ⟨rfl,rfl⟩⟩,FsAt.nil _ _⟩,⟨[],⟨rfl,.inl ⟨rfl,rfl⟩⟩,FsAt.nil _ _⟩,fun g h=>by simp[Value.ownBlock]at h⟩
def Two.push{B:Nat}{W Z i:World}{v1 v2 c:Value}{l1 o:LF}{d:List (LV)}{cs:LV}{f:Fml}(h:Two B W v1 v2 l1 o)(n:W.ownsRow B 37 5 v1 l1.length d.flatten)(v:FsAt (fun b=>B<=b/\v1.ownBlock≠some b/\v2.ownBlock≠some b) W d l1)
  (u:Ext W Z)(K:FAt (fun b=>W.heap.size<=b) Z (.agg cs.toArray) f)(w:cs.length=5)(x:B<=W.heap.size)(R:Apd Z i B 37 5 v1 c (l1.length+1) (d.flatten++cs)):Two B i c v2 (l1++[f]) o:=by
 obtain⟨-,⟨t,s,D⟩,p⟩:=h;have z:=u.size;have q:∀g,v1.ownBlock=some g->g<W.heap.size:=fun g a=>(Ao n a).2;have k:∀g,v2.ownBlock=some g->g<W.heap.size:=fun g a=>(Ao s a).2
 have M:∀g,c.ownBlock=some g->v1.ownBlock=some g\/g=Z.heap.size:=fun g a=>by
  rcases R.D with e|e
  ·exact .inl (by rw[<-e];exact a)
  ·rw[e]at a;exact .inr (Ae a).symm
 have T:∀y,y∈v1.ownBlock.toList->v1.ownBlock=some y:=fun y I=>Aw.1 I
 have m:∀{L:List (LV)}{l:LF},FsAt (fun b=>B<=b/\v1.ownBlock≠some b/\v2.ownBlock≠some b) W L l->FsAt (fun b=>B<=b/\c.ownBlock≠some b/\v2.ownBlock≠some b) i L l:=fun K=>by
  refine((K.lt.ext u).E R.E fun b S r=>S.1.2.1 (T b r)).mono fun b S=>⟨S.1.1,fun e=>?_,S.1.2.2⟩;rcases M b e with e|e
  ·exact S.1.2.1 e
  ·have:=S.2;omega
 have A:FAt (fun b=>B<=b/\c.ownBlock≠some b/\v2.ownBlock≠some b) i (.agg cs.toArray) f:=by
  refine(K.lt.E R.E fun b S r=>by have:=q b (T b r);have:=S.1;omega).mono fun b S=>⟨by have:=S.1;omega,fun e=>?_,fun e=>by have:=k b e;have:=S.1;omega⟩;rcases M b e with e|e
  ·have:=q b e;have:=S.1;omega
  ·have:=S.2;omega
 refine⟨⟨d++[cs],?_,(m v).snoc A w⟩,⟨t,Bf (CD s u) R.E fun g a r=>p g (T g r) a,m D⟩,fun g a j=>?_⟩
 ·have:=R.own;simpa using this
 ·rcases M g a with e|e
  ·exact p g e j
  ·have:=k g j;omega
def FAt.op0{ok:Nat->Prop}{w:World}{Q W X T y:Value}{f:Fml}(h:FAt ok w (.agg [Q,W,X,T,y].toArray) f):Q=iV f.op:=by
 obtain⟨R,e,p,i,a,l,t⟩:=h.form;simp only[Kb,QM,I7,KG]at e;exact e.1
def je{f:Fml}(h:DP f=true):f.op≠0:=by
 obtain⟨_,_,R⟩:=H4 h;obtain⟨op,l,v,b,e⟩:=f;obtain⟨Z,_,_,_⟩:=HI R;have a:=Hd Z;simp only[Fml.op];omega
section
attribute [local semireducible] WC AF CO B0 Cx B8 Cc CB
variable {P:Program}{all:Array Oper}{Z:Fr->DS->List PanicEntry->World->Prop}{K:Fr->DS->World->Prop}{rest:List Oper}{f:Fr}{ds:DS}{w:World}{d:Nat}{ty:TypeId}{pos:String}{af:Array Edge}
def XE{T e size i g n c:Nat}{z:Value}{x:Operand}{a:Option Addr}[hT:SlT P T e size i z](V:ev f x=.slice a n c)
  (h:AF P all Z K rest (upd f d (.bool a.isNone)) ds w):AF P all Z K (⟨some d,.binOp .eql T x (.const (nS)) g,ty,pos,af,none⟩::rest) f ds w:=by
 refine At rfl ?_ h;have I:ev f (.const (nS))=nS:=rfl
 have b:∀d:Nat,(Op.equalIn (d+1) T (.slice a n c) (nS)).run P w=.ok a.isNone w:=fun d=>by
  cases a<;>simp[Op.equalIn,BV hT.und]
 have W:(binOp .eql T (.slice a n c) (nS)).run P w=.ok (.bool a.isNone) w:=by
  simp only[binOp];simp[Op.equal,Op.maxDepth,b 9999]
 simp[execOp,V,I,eqGuard,W]
end
def qn:(madeCells (Value.agg #[iV 0,AA [],iV 0,iV 0,nS]).cells (0*5)).toList=[]:=by kernel_rfl
def ii(w:World)(a:Option Addr)(c:Nat)(l:LF)(L:List (LV))(ok:Nat->Prop)(E:Sl ok w (.slice a l.length c) l.length L.flatten)(j:FsAt ok w L l)(N:l.length<=1000000):
  Fn Zp 113 [.slice a l.length c] w fun u w'=>Ext w w'/\w'.ownsRow w.heap.size 37 5 u l.length L.flatten:=by
 have k:=j.oneC;have t:=j.flat;refine AM func113 rfl ntmps113 (go ?_);refine XE rfl ?_;cases a with
 |none=>
  have v:l.length=0:=by
   obtain⟨_,_,e,_,_,_,h⟩:=E;cases e;rcases h with h|⟨b,o,e,_⟩
   ·exact h
   ·cases e
  refine go ?_;have S:L.flatten=[]:=Dc (by rw[t,v]);exact AC rfl ⟨Ext.refl _,by rw[S,v];exact⟨rfl,.inl ⟨rfl,rfl⟩⟩⟩
 |some a=>
  refine go ?_;refine Ay (out:=[]) rfl U (by rw[qn];rfl) (fun Q D=>?_);refine go ?_;have i:=D.own (n:=0) (size:=5) rfl rL (AO _);refine Bk (B:=w.heap.size) (n:=0) rfl rfl i ((E.ext D.E)) U rfl t k U U (by have:=D.size;omega) (fun r W R=>?_);refine go ?_;have g:=R.own;rw[Bs,Ef]at g;exact AC rfl ⟨D.E.E R.E (fun y I=>(Ao i (Aw.1 I)).1),g⟩
structure Rtg(ok:Nat->Prop)(W W':World)(g o:Nat)(v v':Value):Prop where
 sl:∃a n c,v=.slice a n c
 old:W.cell? ⟨g,o,none⟩=some v
 new:W'.cell? ⟨g,o,none⟩=some v'
 oth:∀(b i:Nat)(u:Value),¬(b=g/\i=o)->W.cell? ⟨b,i,none⟩=some u->W'.cell? ⟨b,i,none⟩=some u
 cpy:∀(n:Nat)(L:List (LV)),L.flatten.length=n*5->Sl ok W v n L.flatten->Sl ok W' v' n L.flatten
def pz{L:List (LV)}(Z:∀c∈L,c.length=5){k:Nat}{u:Value}(h:L.flatten[k]?=some u):∃c,L[k/5]?=some c/\c[k%5]?=some u:=by
 have z:=(Ah.1 h).1;rw[EL 5 L Z]at z;have F:k/5<L.length:=(Nat.div_lt_iff_lt_mul U).2 z;refine⟨L[k/5],AU F,?_⟩;have r:L[k/5]∈L:=E9 F;have C:k%5<(L[k/5]).length:=by rw[Z _ r];omega
 have a:=Hc 5 L (k/5) (k%5) _ _ Z (AU F) (AU C);rw[show k/5*5+k%5=k by omega,h]at a;rw[AU C];exact a.symm
def FAt.rtg{ok:Nat->Prop}{W Z:World}{g o:Nat}{v B:Value}(R:Rtg ok W Z g o v B):∀(n:Nat)(u:Value)(f:Fml),dpF f<=n->FAt ok W u f->FAt ok Z u f
 |0,u,f,hn,_=>by rw[Cr]at hn;omega
 |n+1,u,f,hn,h=>by
  rw[Cr]at hn;obtain⟨av,rfl,L,hS,Q,r,hA⟩:=h.form;obtain⟨op,nm,vl,G,e⟩:=f;simp only[Fml.op,Fml.name,Fml.val,Fml.bound,Fml.args]at*
  obtain⟨a,H,rfl,q1,q2,q3,q4⟩:=id hS;rcases q4 with h0|⟨b,X,rfl,hb,A⟩
  ·refine .mk op nm vl G e _ L ⟨a,H,rfl,q1,q2,q3,.inl h0⟩ Q r fun i c x F V=>?_;have:=(Ah.1 V).1;omega
  ·
   have a2:∀(i:Nat),i<L.length->∃m:LV,m.length=5/\(∀(j:Nat)(w:Value),m[j]?=some w->Z.cell? ⟨b,X+i*5+j,none⟩=some w)/\∀x,e[i]?=some x->FAt ok Z (.agg m.toArray) x:=by
    intro i F;have a0:=AU F;have p:e[i]?=some e[i]:=AU U;have hm:=BA p;have b0:=Ds hm;have K:=hA i _ _ a0 p
    have z:∀(j:Nat)(w:Value),L[i][j]?=some w->W.cell? ⟨b,X+i*5+j,none⟩=some w:=fun j w S=>by
     have:=A (i*5+j) w (Hc 5 L i j _ _ r a0 S)
     rwa [<-GH]at this
    by_cases hg:b=g/\X+i*5+4=o
    ·obtain⟨rfl,rfl⟩:=hg;obtain⟨T,q,t,a6,d,P,a5⟩:=K.form;have N:L[i]=[iV (e[i]).op,AA (e[i]).name,iV (e[i]).val,iV (e[i]).bound,T]:=by simpa using q
     have hv:v=T:=by
      have:=z 4 T (by rw[N];rfl);rw[R.old]at this;exact Ae this
     subst hv;refine⟨[iV (e[i]).op,AA (e[i]).name,iV (e[i]).val,iV (e[i]).bound,B],rfl,fun j w S=>?_,fun x V=>?_⟩
     ·match j,S with
      |0,S=>exact R.oth _ _ _ U (z 0 w (by rw[N];exact S))
      |1,S=>exact R.oth _ _ _ U (z 1 w (by rw[N];exact S))
      |2,S=>exact R.oth _ _ _ U (z 2 w (by rw[N];exact S))
      |3,S=>exact R.oth _ _ _ U (z 3 w (by rw[N];exact S))
      |4,S=>rw[<-Ae S];exact R.new
      |j+5,S=>simp at S
     ·rw[p]at V;obtain rfl:=Ae V;have hd2:=Cr e[i];generalize e[i]=x at*
      obtain⟨a8,a7,a9,a4,a3⟩:=x;refine .mk a8 a7 a9 a4 a3 B t (R.cpy _ t (by rw[EL 5 t P,d];rfl) a6) d P fun k c y hk hy=>?_;have:=Ds (BA hy);exact FAt.rtg R n _ y (by simp only[Fml.args]at hd2;omega) (a5 k c y hk hy)
    ·refine⟨L[i],r _ (E9 F),fun j w S=>R.oth _ _ _ (fun C=>?_) (z j w S),fun x V=>?_⟩
     ·
      obtain⟨rfl,C⟩:=C;obtain⟨T,q, -⟩:=K.form;have N:L[i]=[iV (e[i]).op,AA (e[i]).name,iV (e[i]).val,iV (e[i]).bound,T]:=by simpa using q
      have M:=z j w S;rw[C,R.old]at M;obtain⟨a',n',m,rfl⟩:=R.sl;obtain rfl:=Ae M;rw[N]at S
      match j,S,C with
      |0,S,_=>simp at S
      |1,S,_=>simp at S
      |2,S,_=>simp at S
      |3,S,_=>simp at S
      |4,_,C=>exact hg ⟨rfl,C⟩
      |j+5,S,_=>simp at S
     ·rw[p]at V;obtain rfl:=Ae V;exact FAt.rtg R n _ _ U K
   obtain⟨D,s⟩:∃D:Nat->LV,∀i,i<L.length->(D i).length=5/\(∀(j:Nat)(w:Value),(D i)[j]?=some w->Z.cell? ⟨b,X+i*5+j,none⟩=some w)/\∀x,e[i]?=some x->FAt ok Z (.agg (D i).toArray) x:=
    ⟨fun i=>if h:i<L.length then Classical.choose (a2 i h)else[],fun i F=>by simp only[dif_pos F];exact Classical.choose_spec (a2 i F)⟩
   have a1:∀c∈(List.range L.length).map D,c.length=5:=by
    intro c A;obtain⟨i,F,rfl⟩:=By.1 A;exact(s i (HZ.1 F)).1
   refine .mk op nm vl G e _ ((List.range L.length).map D) ⟨some ⟨b,X,none⟩,H,rfl,q1,q2,q3,.inr ⟨b,X,rfl,hb,fun k u E=>?_⟩⟩ (by simpa using Q) a1 fun i c x F V=>?_
   ·obtain⟨c,I,E⟩:=pz a1 E;have l:k/5<L.length:=by have:=(Ah.1 I).1;simpa using this
    rw[Cl,QL l]at I;obtain rfl:=Ae I;have:=(s _ l).2.1 _ u E
    rwa [show X+k/5*5+k%5=X+k by omega]at this
   ·have l:i<L.length:=by have:=(Ah.1 F).1;simpa using this
    rw[Cl,QL l]at F;obtain rfl:=Ae F;exact(s i l).2.2 x V
def nJ{w:World}{B e n:Nat}{a:Option Addr}{cap:Nat}{xs:LV}{u:Value}(h:w.ownsRow B e 1 (.slice a (n+1) cap) (n+1) (xs++[u])):w.ownsRow B e 1 (.slice a n cap) n xs:=by
 obtain⟨N,s⟩:=h;have c:xs.length=n*1:=by simp at N;omega
 rcases s with⟨e,v⟩|⟨g,cap,C,e,S,y,Q,b,o,P⟩
 ·omega
 ·cases e;refine⟨c,.inr ⟨g,cap,C,rfl,S,y,by omega,b,o,?_⟩⟩;have:=congrArg (List.take (n*1)) P;rw[MF,Ga U]at this;rw[this,P0 U,GE (l:=xs) U]
def PF.rtg{ok:Nat->Prop}{W Z:World}{g o:Nat}{v B:Value}(R:Rtg ok W Z g o v B){b i:Nat}{f:Fml}(h:PF ok W b i f):PF ok Z b i f:=by
 obtain⟨s,d,w,T,K⟩:=h
 have n:FAt ok W (.agg #[iV 0,AA [],iV 0,iV 0,.slice (sn b i) 1 1]) ⟨0,[],0,0,[f]⟩:=by
  refine .mk 0 [] 0 0 [f] _ [d] ⟨_,1,rfl,by simp,by omega,(fun e=>by cases e),.inr ⟨b,i,rfl,s,by simpa using T⟩⟩ rfl (fun c r=>by simp at r;rw[r];exact w) fun k c x P V=>?_;cases k with
  |zero=>simp at P V;subst P;subst V;exact K
  |succ k=>simp at P
 obtain⟨y,e,L,l,S,p,t⟩:=(FAt.rtg R _ _ _ (AO _) n).form;simp only[Kb,I7,KG,Array.mk.injEq]at e;have e:=e.2.2.2.2;subst e;simp only[Fml.args]at l S t;obtain⟨a,c,e,_,_,_,V⟩:=l;cases e;obtain⟨q,m,e,u,j⟩:=V.resolve_left O;cases e
 match L,S with
 | [c],_=>
  simp at j;exact⟨u,c,p c O,j,t 0 c f rfl rfl⟩
abbrev Pn:=Nat×Nat×Fml
def NQ(p:Pn):Value:=.pointer (sn p.1 p.2.1)
abbrev cok(ok0:Nat->Prop)(A c2:Nat)(v:Value)(b:Nat):Prop:=(ok0 b\/A<=b)/\b≠c2/\v.ownBlock≠some b
structure Cpy(ok0:Nat->Prop)(A B c2:Nat)(T2:TypeId)(zs:LV)(fx:List (Nat×Value))(roots ps:List Pn)(W:World)(v:Value):Prop where
 own:W.ownsRow B 89 1 v ps.length (ps.map NQ)
 all:∀p,p∈roots\/p∈ps->PF (cok ok0 A c2 v) W p.1 p.2.1 p.2.2
 mine:∀p∈ps,A<=p.1/\∃T L,Blk W p.1 T L
 D:Blk W c2 T2 zs
 ab:A<B
 fix:∀q∈fx,W.cell? ⟨A,q.1,none⟩=some q.2
 nsl:∀q∈fx,∀a n c,q.2≠ .slice a n c
section
variable {ok0:Nat->Prop}{A B c2:Nat}{T2:TypeId}{zs:LV}{fx:List (Nat×Value)}{roots ps:List Pn}{W W':World}{v:Value}
def Cpy.ext(h:Cpy ok0 A B c2 T2 zs fx roots ps W v)(e:Ext W W'):Cpy ok0 A B c2 T2 zs fx roots ps W' v:=
 ⟨CD h.own e,fun p C=>(h.all p C).E e (fun _ _=>by simp),fun p C=>⟨(h.mine p C).1,by obtain⟨T,L,S⟩:=(h.mine p C).2;exact⟨T,L,S.E e O⟩⟩,h.D.E e O,h.ab,fun q V=>e.cell (h.fix q V) O,h.nsl⟩
def Cpy.pop{p:Pn}(h:Cpy ok0 A B c2 T2 zs fx roots (ps++[p]) W v):∃a cap,v=.slice a (ps.length+1) cap/\Cpy ok0 A B c2 T2 zs fx (p::roots) ps W (.slice a ps.length cap)/\A<=p.1/\∃T L,Blk W p.1 T L:=by
 have b:=h.own;rw[A9,FB]at b;obtain⟨a,cap,rfl,_⟩:=BG (ok:=AL) b fun _ _=>trivial;refine⟨a,cap,by simp,⟨nJ (u:=NQ p) (by simpa using b),fun q V=>?_,fun q V=>h.mine q ri,h.D,h.ab,h.fix,h.nsl⟩,h.mine p O⟩
 have E:q∈roots\/q∈ps++[p]:=by
  rcases V with V|V
  ·rcases BI.1 V with rfl|V
   ·exact .inr O
   ·exact .inl V
  ·exact .inr ri
 have e:(Value.slice a (ps.length+1) cap).ownBlock=(Value.slice a ps.length cap).ownBlock:=by cases a<;>rfl
 have:=h.all q E;simp only[C9,FP,Bs]at this;unfold cok at this⊢
 rwa [e]at this
def Cpy.push{p:Pn}{W1 d:World}{c:Value}(h:Cpy ok0 A B c2 T2 zs fx roots ps W v)(e:Ext W W1)(R:Apd W1 d B 89 1 v c (ps.length+1) (ps.map NQ++[NQ p]))(C:PF (cok ok0 A c2 v) W p.1 p.2.1 p.2.2)(r:A<=p.1/\∃T L,Blk W p.1 T L)(s:v.ownBlock≠some c2):Cpy ok0 A B c2 T2 zs fx roots (ps++[p]) d c:=by
 have z:=e.size
 have M:∀g,c.ownBlock=some g->v.ownBlock=some g\/g=W1.heap.size:=fun g f=>by
  rcases R.D with e|e
  ·exact .inl (by rw[<-e];exact f)
  ·rw[e]at f;exact .inr (Ae f).symm
 have a:∀y,y∈v.ownBlock.toList->v.ownBlock=some y:=fun y I=>Aw.1 I
 have i:∀{b o:Nat}{x:Fml},PF (cok ok0 A c2 v) W b o x->PF (cok ok0 A c2 c) d b o x:=fun K=>by
  refine(((K.lt).E e (fun _ _=>by simp)).E R.E fun b S r=>S.1.2.2 (a b r)).mono fun b S=>⟨S.1.1,S.1.2.1,fun e=>?_⟩;rcases M b e with e|e
  ·exact S.1.2.2 e
  ·have:=S.2;omega
 have j:∀{b:Nat},v.ownBlock≠some b->(∃T L,Blk W b T L)->∃T L,Blk d b T L:=fun hne⟨T,L,S⟩=>⟨T,L,(S.E e O).E R.E fun r=>hne (a _ r)⟩;refine⟨by have:=R.own;simpa using this,fun q V=>?_,fun q V=>?_,(h.D.E e O).E R.E fun r=>s (a _ r),h.ab,fun q V=>R.E.cell (e.cell (h.fix q V) O) fun r=>by have:=(Ao h.own (a _ r)).1;have:=h.ab;omega,h.nsl⟩
 ·rcases V with V|V
  ·exact i (h.all q (.inl V))
  ·rcases DM.1 V with V|V
   ·exact i (h.all q (.inr V))
   ·simp at V;rw[V];exact i C
 ·rcases DM.1 V with V|V
  ·exact⟨(h.mine q V).1,j (h.all q (.inr V)).1.2.2 (h.mine q V).2⟩
  ·simp at V;rw[V];exact⟨r.1,j C.1.2.2 r.2⟩
end
def QD:=@List.getElem?_set_ne
def Blk.un{w:World}{b i:Nat}{T:TypeId}{L:LV}{u:Value}(h:Blk w b T L)(o:w.cell? ⟨b,i,none⟩=some u):L[i]?=some u:=by
 unfold Blk at h;simp only[World.cell?,h]at o;simpa using o
def Rtg.of_put{ok:Nat->Prop}{W Z:World}{g o:Nat}{T:TypeId}{L:LV}{v B:Value}(S:Blk W g T L)(s:W.cell? ⟨g,o,none⟩=some v)(E:∃a n c,v=.slice a n c)(p:Put W Z g T (L.set o B))
  (h:∀(n:Nat)(L:List (LV)),L.flatten.length=n*5->Sl ok W v n L.flatten->Sl ok Z B n L.flatten):Rtg ok W Z g o v B:=by
 have z:=(Ah.1 (S.un s)).1;refine⟨E,s,p.D.cell (by simp[z]),fun b i u M f=>?_,h⟩;by_cases d:b=g
 ·subst d;have F:¬i=o:=fun e=>M ⟨rfl,e⟩;exact p.D.cell (by rw[QD U];exact S.un f)
 ·exact p.E.cell f (by simpa using d)
def Cpy.store{d:Nat->Prop}{A B D:Nat}{H T:TypeId}{zs L:LV}{b:List (Nat×Value)}{l k:List Pn}{W Z:World}{v v0 w:Value}{g o:Nat}(h:Cpy d A B D H zs b l k W v)(R:Rtg (cok d A D v) W Z g o v0 w)(p:Put W Z g T L)(t:g≠D)(u:v.ownBlock≠some g):Cpy d A B D H zs b l k Z v:=by
 refine⟨Bf h.own p.E fun y I r=>?_,fun q V=>(h.all q V).rtg R,fun q V=>⟨(h.mine q V).1,?_⟩,h.D.E p.E ?_,h.ab,fun q V=>R.oth _ _ _ (fun i=>?_) (h.fix q V),h.nsl⟩
 ·rw[Bj]at r;rw[r]at I;exact u I
 ·obtain⟨s,m,S⟩:=(h.mine q V).2;by_cases j:q.1=g
  ·rw[j];exact⟨_,_,p.D⟩
  ·exact⟨s,m,S.E p.E (by simpa using j)⟩
 ·rw[Bj];exact fun e=>t e.symm
 ·have f:=h.fix q V;rw[i.1,i.2,R.old]at f;obtain⟨a,n,c,e⟩:=R.sl;exact h.nsl q V a n c (by rw[<-Ae f];exact e)
def pN{ok V:Nat->Prop}{W W1:World}{R u:Value}{l:LF}{L0:List (LV)}(E:Sl ok W R l.length L0.flatten)(v:L0.flatten.length=l.length*5)(o:Sl V W1 u l.length L0.flatten)(n:Nat)(L:List (LV))(S:L.flatten.length=n*5)(h:Sl ok W R n L.flatten):Sl V W1 u n L.flatten:=by
 obtain⟨a,t,rfl,x,y,z,m⟩:=E;obtain⟨p,r,e,A,K,B,s⟩:=h;cases e
 have:L.flatten=L0.flatten:=by
  by_cases H:l.length=0
  ·have f:L.flatten=[]:=Dc (by rw[S,H]);have c:L0.flatten=[]:=Dc (by rw[v,H]);rw[f,c]
  ·obtain⟨b,X,f,_,T⟩:=m.resolve_left H;obtain⟨q,w,c,_,j⟩:=s.resolve_left H;rw[f]at c;cases c;refine List.ext_getElem (by rw[S,v]) fun i Z k=>?_;have d:=T i _ (AU k);have g:=j i _ (AU Z);rw[d]at g;exact(Ae g).symm
 rw[this];exact o
def PF.child{ok:Nat->Prop}{W:World}{g o n V k:Nat}{l:Option Addr}{x y:Fml}(h:PF ok W g o x)(T:W.cell? ⟨g,o+4,none⟩=some (.slice l n V))(P:x.args[k]?=some y):∃X Q,l=some ⟨X,Q,none⟩/\PF ok W X (Q+k*5) y:=by
 obtain⟨S,a,c,L,p,i,j⟩:=h.form;have e:=p 4 _ rfl;rw[T]at e;cases e;have z:=(Ah.1 P).1;have d:L[k]?=some (L[k]'(by rw[j.1];exact z)):=AU _;obtain⟨b,m,f,u,N⟩:=i.fml j.2.1 d z;exact⟨b,m,f,u,_,j.2.1 _ (E9 _),N,j.2.2 k _ y d P⟩
end Go.Proofs.YtjbocjodncbogaaGreatDoor
