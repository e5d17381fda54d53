/- TopTextGoals, part 9 of 16: rules, lemmas, walks. Conditions: none. -/
import Derived.Test.YtjbocjodncbogaaGreatDoorTX8
namespace Go.Proofs.YtjbocjodncbogaaGreatDoor
open Go.RowKit
set_option linter.unusedVariables false
theorem clip_ok(w:World)(a:Option Addr)(n c:Nat)(h:n<=c):Fn Zp 211 [.slice a n c] w fun u w'=>u=.slice a n n/\w'=w:=by
 refine AN Tryz.func211 rfl Tryz.ntmps211 (go ?_);refine W_slice_hm (h:=n) (m:=n) rfl rfl rfl (Nat.le_refl _) h (go ?_);exact AC rfl ⟨rfl,rfl⟩
theorem own_sl{w:World}{B:Nat}{v:Value}{l:LF}{L:List (LV)}{ok:Nat->Prop}(d:w.ownsRow B 37 5 v l.length L.flatten)(s:FsAt ok w L l)(q:∀b,ok b->Unm w b):
  ∃a c,v=.slice a l.length c/\l.length<=c/\SlAt fmlR (Unm w) w (.slice a l.length c) l/\Sl (fun b=>B<=b/\Unm w b) w (.slice a l.length l.length) l.length L.flatten:=by
 have o:=s.mono q;have z:RsAt fmlR (Unm w) w L l:=⟨s.1,fun i c x T V=>⟨s.2.1 c (List.mem_of_getElem? T),o.2.2 i c x T V⟩⟩;rcases d.2 with⟨rfl,t⟩|⟨g,E,G,rfl,n,f,I,m,C,u⟩
 ·obtain rfl:l=[]:=List.eq_nil_of_length_eq_zero t;exact⟨none,0,rfl,Nat.le_refl _,⟨none,0,L,rfl,Aa (ok:=Unm w) d (fun g f=>by cases f),z⟩,⟨none,0,rfl,by simp,by simp,fun _=>rfl,.inl rfl⟩⟩
 ·have W:Unm w g:=Unm.cells f;have p:=Aa (ok:=fun b=>B<=b/\Unm w b) d (fun j h=>by cases h;exact⟨n,W⟩);refine⟨_,_,rfl,I,⟨_,_,L,rfl,Aa (ok:=Unm w) d (fun j h=>by cases h;exact W),z⟩,?_⟩;obtain⟨a,c,e,Z,r,R,k⟩:=p;cases e;exact⟨_,_,rfl,Nat.le_refl _,by unfold maxLen at m;omega,(fun e=>by cases e),k⟩
theorem flat_snoc(op:Int){l:LF}{k:Nat}{x:Fml}(h:l[k]?=some x):(l.take (k+1)).flatMap (Fl op)=(l.take k).flatMap (Fl op)++Fl op x:=by
 rw[List.take_add_one,h];simp
theorem zAny_snoc(op:Int){l:LF}{k:Nat}{x:Fml}(h:l[k]?=some x):zAny op (l.take (k+1))=(zAny op (l.take k)||decide (x.op=C5 op)):=by
 rw[List.take_add_one,h];simp[zAny]
theorem flat_take_le(op:Int)(l:LF)(k:Nat):((l.take k).flatMap (Fl op)).length<=szL l:=
 Nat.le_trans (CE _) (Nat.le_trans (sz_flat op _) (szL_take_le l k))
theorem FsAt.app{ok:Nat->Prop}{w:World}:∀{L M:List (LV)}{l m:LF},FsAt ok w L l->FsAt ok w M m->FsAt ok w (L++M) (l++m)
 | [],_,[],_,_,h=>h
 | [],_,_::_,_,h,_=>by have:=h.1;simp at this
 |_::_,_,[],_,h,_=>by have:=h.1;simp at this
 |c::L,M,x::l,m,h,h'=>FsAt.cons (h.2.2 0 c x rfl rfl) (h.2.1 c O) (FsAt.app ⟨by have:=h.1;simpa using this,fun d C=>h.2.1 d (by simp[C]),fun i d g C a=>h.2.2 (i+1) d g (by simpa using C) Eo⟩ h')
theorem FsAt.oneC{ok:Nat->Prop}{w:World}{L:List (LV)}{l:LF}(h:FsAt ok w L l):oneC L.flatten:=by
 intro u g;obtain⟨c,T,V⟩:=List.mem_flatten.1 g;obtain⟨i,H⟩:=List.getElem?_of_mem T;have a:i<l.length:=by rw[<-h.1];exact(List.getElem?_eq_some_iff.1 H).1
 exact(h.2.2 i c _ H (List.getElem?_eq_getElem a)).one u V
theorem join_ok(w:World)(op:Int)(a4:op=5\/op=6)(a:Option Addr)(cap:Nat)(l:LF)(ok:Nat->Prop)(hl:SlAt fmlR ok w (.slice a l.length cap) l)(hu:∀b,ok b->Unm w b)(hz:szL l<=100000)(b6:∀x∈l,Sh x):
  Fn Zp 154 [iV op,.slice a l.length cap] w fun u w'=>Ext w w'/\FAt (fun b=>ok b\/(w.heap.size<=b/\Unm w' b)) w' u (joinM op l):=by
 have d0:=hl.lt En;have d4:l.length<=100000:=Nat.le_trans (CE l) hz;obtain⟨d6,d7,d8,d9,e0⟩:=uz_ne a4;refine AN Tryz.func154 rfl Tryz.ntmps154 ?_;repeat refine nx rfl ?_
 (refine AJ ?_;refine AY (L:=zero5) (fun w1 n1=>?_))
 repeat refine nx rfl ?_
 have z1:=n1.size;have b4:=n1.D;have k1:=n1.E;refine AJ (AO (AS rfl (AO (AS rfl ?_))));repeat refine nx rfl ?_
 refine AJ (AS rfl ?_);refine W_eqlD rfl rfl ?_;refine AA ?_;refine Q_then ?_;refine CA (α:=Unit) (fun _=>[(0,iV op),(1,.slice a l.length cap),(4,pt w.heap.size),(5,iV (Dw op)),(6,iV (C5 op))]) (fun _ W=>W=w1) ?_ ?_
 ·rcases a4 with rfl|rfl
  ·exact FK
  ·exact FK
 rintro _ W f3 rfl;refine go ?_
 refine Ar (α:=Nat×Value×List (LV)) (fun|(k,v,_)=>[(0,.int .i64 op),(4,pt w.heap.size),(5,.int .i64 (Dw op)),(6,.int .i64 (C5 op)),(7,v),(14,.slice a l.length cap),(15,.int .i64 (l.length:Int)),(16,.int .i64 (k:Int))])
  (fun y V=>y.1<=l.length/\Ext w V/\Blk V w.heap.size 37 zero5/\V.ownsRow W.heap.size 37 5 y.2.1 ((l.take y.1).flatMap (Fl op)).length y.2.2.flatten/\zAny op (l.take y.1)=false/\FsAt (fun b=>ok b/\b<w.heap.size) V y.2.2 ((l.take y.1).flatMap (Fl op))/\W.heap.size<=V.heap.size) (fun y=>l.length-y.1) (0,.slice none 0 0,[]) ag ⟨by simp,k1,b4,⟨rfl,.inl ⟨rfl,rfl⟩⟩,rfl,FsAt.nil _ _,Nat.le_refl _⟩ ?_
 rintro⟨k,v,L⟩V fr⟨hk,kV,bV,Q,a5,fV,zV⟩;simp only at hk bV Q a5 fV;refine go ?_;by_cases b5:k<l.length
 ·refine go ?_;obtain⟨b,o,f,R,j,s,r,rfl,T,t⟩:=(d0.ext kV).c5 b5;have d:l[k]?=some (l.getD k Am):=by rw[List.getD_eq_getElem?_getD,List.getElem?_eq_getElem b5];rfl
  obtain⟨x,d1⟩:∃x,x=l.getD k Am:=⟨_,rfl⟩;rw[<-d1]at d t;have d5:=List.mem_of_getElem? d;have q:=flat_snoc op d;have a6:=zAny_snoc op d;rw[a5,Bool.false_or]at a6;have a9:=flat_take_le op l (k+1);refine go ?_;refine AQ (L:=[f,R,j,s,r]) rfl rfl T ?_;refine AY (L:=zero5) (fun w4 n4=>?_);refine AI (cs:=[f,R,j,s,r]) rfl rfl rfl t.one n4.D EV (fun w5 p5=>go ?_);have A:Ext V w5:=n4.E.E p5.E O;have b1:=t.ext A;obtain⟨av,e,La,hS,c3,hL5,hA⟩:=b1.form;simp only[Value.agg.injEq,List.toArray_eq_iff,List.cons.injEq,and_true]at e;obtain⟨rfl,rfl,rfl,rfl,rfl⟩:=e;have b8:Blk w5 V.heap.size 37 [iV x.op,AL x.name,iV x.val,iV x.bound,r]:=p5.D;have o5:=As Q A;have f5:=fV.ext A;have e5:=kV.trans A;have a1:=bV.E A O;have z5:=A.size;have z:∀g,v.ownBlock=some g->W.heap.size<=g:=fun g hg=>(An Q hg).1;have hvk:∀(b:Nat),ok b/\b<w.heap.size->b∉v.ownBlock.toList:=fun b S d=>by have:=z b (Option.mem_toList.1 d);omega
  refine go ?_;by_cases a7:x.op=op
  ·refine go ?_;have X:Fl op x=x.args:=by unfold Fl;rw[if_pos a7]
   rw[X]at q;have M:zAny op (l.take (k+1))=false:=by rw[a6,decide_eq_false];omega
   have c8:((l.take k).flatMap (Fl op)).length+x.args.length<=100000:=by rw[q,List.length_append]at a9;omega
   have fA:FsAt (fun b=>ok b/\b<w.heap.size) w5 La x.args:=⟨c3,hL5,hA⟩;refine go ?_;refine Ax (v:=v) (sv:=r) rfl rfl o5 hS U rfl fA.flat fA.oneC U U U (fun v7 P p=>?_);have e7:Ext w P:=e5.E p.E (fun y E=>by have:=z y (Option.mem_toList.1 E);omega);have F:=(f5.app fA).E p.E hvk;have b7:=a1.E p.E (fun d=>by have:=z _ (Option.mem_toList.1 d);omega);have o7:P.ownsRow W.heap.size 37 5 v7 ((l.take (k+1)).flatMap (Fl op)).length (L++La).flatten:=by rw[q,List.length_append,List.flatten_append];exact p.own
   rw[<-q]at F;refine go ?_;refine⟨(k+1,v7,L++La),⟨rfl,⟨rfl,rfl,rfl,rfl,rfl,rfl,rfl,?_,trivial⟩,⟨by simp only;omega,e7,b7,o7,M,F,Nat.le_trans (Nat.le_trans zV z5) p.E.size⟩⟩,by simp only;omega⟩;show iV ((k:Int)+1)=_;rw[Int.natCast_add];rfl
  ·by_cases a8:x.op=C5 op
   ·refine go ?_;refine AI (cs:=[iV (C5 op),AL [],iV 0,iV 0,.slice none 0 0]) rfl rfl rfl (AV rfl) a1 EV (fun m i=>go ?_)
    have d2:zAny op l=true:=by
     unfold zAny;exact any_stop d (by rw[decide_eq_true_eq];exact a8)
    rw[joinM_eq a4,d2,if_pos rfl];exact AW rfl rfl rfl i.D.cells ⟨e5.E i.E O,FAt.leaf _ _ (C5 op) [] 0 0⟩
   ·by_cases b3:x.op=Dw op
    ·refine go ?_;have X:Fl op x=[]:=by unfold Fl;rw[if_neg a7,if_pos b3]
     rw[X,List.append_nil]at q;have M:zAny op (l.take (k+1))=false:=by rw[a6,decide_eq_false a8]
     rw[<-q]at f5 o5;refine go ?_;refine⟨(k+1,v,L),⟨rfl,⟨rfl,rfl,rfl,rfl,rfl,rfl,rfl,?_,trivial⟩,⟨by simp only;omega,e5,a1,o5,M,f5,Nat.le_trans zV z5⟩⟩,by simp only;omega⟩;show iV ((k:Int)+1)=_;rw[Int.natCast_add];rfl
    ·refine go ?_;have X:Fl op x=[x]:=by unfold Fl;rw[if_neg a7,if_neg b3]
     rw[X]at q;have M:zAny op (l.take (k+1))=false:=by rw[a6,decide_eq_false a8]
     have c8:((l.take k).flatMap (Fl op)).length+1<=100000:=by rw[q,List.length_append]at a9;simp only[List.length_singleton]at a9;omega
     refine go ?_;refine AP (out:=[iV x.op,AL x.name,iV x.val,iV x.bound,r]) rfl U EZ (fun w6 K=>?_);have o6:=K.own (n:=1) (size:=5) rfl EW (Nat.le_refl _);have z6:=K.size;refine Ax (ok:=Af) (v:=v) (sv:=.slice (sm w5.heap.size) 1 1) rfl rfl (As o5 K.E) (Aa o6 fun _ _=>trivial) U rfl rfl b1.one U U U (fun v7 P p=>?_);have e7:Ext w P:=(e5.trans K.E).E p.E (fun y E=>by have:=z y (Option.mem_toList.1 E);omega);have F:=((f5.snoc b1 rfl).ext K.E).E p.E hvk;have b7:=(a1.E K.E O).E p.E (fun d=>by have:=z _ (Option.mem_toList.1 d);omega)
     have o7:P.ownsRow W.heap.size 37 5 v7 ((l.take (k+1)).flatMap (Fl op)).length (L++[[iV x.op,AL x.name,iV x.val,iV x.bound,r]]).flatten:=by
      rw[q,List.length_append,List.flatten_append];simpa using p.own
     rw[<-q]at F;have z7:W.heap.size<=P.heap.size:=by have:=p.E.size;omega
     refine go ?_;refine⟨(k+1,v7,L++[[iV x.op,AL x.name,iV x.val,iV x.bound,r]]),⟨rfl,⟨rfl,rfl,rfl,rfl,rfl,rfl,rfl,?_,trivial⟩,⟨by simp only;omega,e7,b7,o7,M,F,z7⟩⟩,by simp only;omega⟩;show iV ((k:Int)+1)=_;rw[Int.natCast_add];rfl
 ·refine go ?_;obtain rfl:k=l.length:=by omega
  rw[List.take_of_length_le (Nat.le_refl _)]at Q a5 fV;have z:∀g,v.ownBlock=some g->W.heap.size<=g:=fun g hg=>(An Q hg).1;have hGz:szL (l.flatMap (Fl op))<=100000:=Nat.le_trans (sz_flat op l) hz
  have b0:∀x∈l.flatMap (Fl op),szF x<=1000000/\(x.op=4->0<x.args.length):=fun x d=>by
   refine⟨by have:=Bb d;omega,fun h4=>?_⟩;obtain⟨c,T,G⟩:=List.mem_flatMap.1 d
   have hs:Sh x:=by
    unfold Fl at G
    split at G
    ·exact(sh_eq (b6 c T)).2.2 x G
    ·split at G
     ·cases G
     ·rw[List.mem_singleton.1 G];exact b6 c T
   have:=(sh_eq hs).2.1.2.1;rw[h4]at this;have:x.args.length=1:=by simpa[BX]using this
   omega
  have d3:(l.flatMap (Fl op)).length<=100000:=Nat.le_trans (CE _) hGz;have a3:(dist (l.flatMap (Fl op))).length<=100000:=Nat.le_trans (CE _) (Nat.le_trans (sz_dist _) hGz);refine go ?_;refine AF (distinct_ok V W.heap.size v _ L _ Q fV (fun b S=>⟨(hu b S.1).eq (kV.block b S.2 O),by have:=kV.size;omega,fun e=>by have:=z b e;omega⟩) (fun x d=>(b0 x d).1) U) rfl ?_;rintro u2 B⟨k2,e1,L2,o2,N⟩;have e2:Ext w B:=kV.E k2 (fun y E=>by have:=z y (Option.mem_toList.1 E);omega);have b42:=bV.E k2 (fun d=>by have:=z _ (Option.mem_toList.1 d);omega);obtain⟨a2,c2,rfl,I,C,H⟩:=own_sl o2 N (fun b S=>(hu b S.1).eq (e2.block b S.2 O));have b2:=inc_dist (l.flatMap (Fl op));have hDm:∀x∈dist (l.flatMap (Fl op)),szF x<=1000000/\(x.op=4->0<x.args.length):=fun x d=>b0 x (mem_dist.1 d);rw[joinM_eq a4,a5,if_neg Bool.false_ne_true];clear o2 b0;generalize dist (l.flatMap (Fl op))=D at a3 C H N b2 hDm I⊢;refine go ?_;refine AF (opposed_ok B a2 c2 D (Unm B) C (fun b h=>h) (fun x d=>(hDm x d).1) b2 U fun x d=>(hDm x d).2) rfl ?_;rintro _ w3⟨rfl,k3⟩;have e3:=e2.trans k3;have a0:=b42.E k3 O;have c6:∀m,Keep [w.heap.size] B m->∀b,(W.heap.size<=b/\Unm B b)/\b<B.heap.size->ok b\/(w.heap.size<=b/\Unm m b):=fun m k9 b S=>.inr ⟨by omega,S.1.2.eq (k9.block b S.2 EP)⟩;unfold joinD;cases hob:oppB D with
  |true=>
   rw[if_pos rfl];refine go ?_;refine AI (cs:=[iV (C5 op),AL [],iV 0,iV 0,.slice none 0 0]) rfl rfl rfl (AV rfl) a0 EV (fun m i=>go ?_);exact AW rfl rfl rfl i.D.cells ⟨e3.E i.E O,FAt.leaf _ _ (C5 op) [] 0 0⟩
  |false=>
   rw[if_neg Bool.false_ne_true];refine AO (AE rfl ?_);repeat first|refine nx rfl ?_|refine nf rfl ?_
   match D,a3,C,H,N,b2,hDm,I with
   | [],_,_,_,_,_,_,_=>
    refine AJ (Ay rfl (Bi rfl ?_));refine W_eqlD rfl rfl ?_;refine AO (AE rfl ?_);repeat refine nx rfl ?_
    refine AJ (AS rfl (BO EQ EQ ?_));refine AI (cs:=[iV (Dw op),AL [],iV 0,iV 0,.slice none 0 0]) rfl rfl rfl (AV rfl) a0 EV (fun m i=>?_);repeat refine nx rfl ?_
    exact AW rfl rfl rfl i.D.cells ⟨e3.E i.E O,FAt.leaf _ _ (Dw op) [] 0 0⟩
   | [x],_,C,H,N,_,_,_=>
    obtain⟨f,R,j,s,r,c1,_,t⟩:=N.at (k:=0) O;obtain⟨b,o,rfl,S,T⟩:=Sl.fml H N.2.1 c1 O;have c7:Cells w3 b (o+0*5) [f,R,j,s,r]:=T.E k3 O;refine AJ (Ay rfl (Bi rfl ?_));refine W_eqlD rfl rfl ?_;refine AO (AE rfl ?_);repeat first|refine nx rfl ?_|refine nf rfl ?_
    refine AJ (Ay rfl (Bi rfl ?_));refine W_eqlD rfl rfl ?_;refine AO (AE rfl ?_);repeat refine nx rfl ?_
    refine AJ (Ay rfl ?_);refine CG (k:=0) rfl rfl rfl O ?_;refine AQ (L:=[f,R,j,s,r]) rfl rfl c7 ?_;refine AI (cs:=[f,R,j,s,r]) rfl rfl rfl t.one a0 EV (fun m i=>?_);repeat refine nx rfl ?_
    exact AW rfl rfl rfl i.D.cells ⟨e3.E i.E O,((t.ext k3).E i.E (fun y E Z=>by have:=E.2;simp at Z;omega)).mono fun y E=>.inl E.1⟩
   |x::y::D',a3,C,H,N,_,_,I=>
    have c9:(x::y::D').length=D'.length+2:=rfl;generalize b9:x::y::D'=D2 at a3 C H N I c9⊢;refine go ?_;refine AF (clip_ok w3 a2 D2.length c2 I) rfl ?_;rintro _ _⟨rfl,rfl⟩;refine go ?_;refine AI (cs:=[iV op,AL [],iV 0,iV 0,.slice a2 D2.length D2.length]) rfl rfl rfl (AV rfl) a0 EV (fun m i=>go ?_);have k9:Keep [w.heap.size] B m:=k3.any.trans i.E (fun _ h _=>h)
    have c4:Sl (fun b=>ok b\/(w.heap.size<=b/\Unm m b)) m (.slice a2 D2.length D2.length) D2.length L2.flatten:=by
     have h1:=(H.lt (flatten_ne N.1 N.2.1)).E k9 (fun b S Z=>by simp at Z;omega);exact h1.mono (c6 m k9)
    have c0:FsAt (fun b=>ok b\/(w.heap.size<=b/\Unm m b)) m L2 D2:=(N.E k9 (fun b S Z=>by have:=S.2;simp at Z;omega)).mono fun b S=>.inl S.1;subst b9;exact AW rfl rfl rfl i.D.cells ⟨e3.E i.E O,FAt.node op [] 0 0 c4 c0⟩
section
variable {mk:Prop}[MK mk]
structure Fil(B:Nat)(W:World)(g n:Nat)(l:LF)(L:List (LV))(Z:LV):Prop where
 D:Blk W g 37 (L.flatten++Z)
 zl:Z.length=(n-l.length)*5
 ln:l.length<=n
 fs:FsAt (fun b=>B<=b/\b≠g) W L l
 gB:B<=g
section
variable {B g n:Nat}{W W':World}{l:LF}{L:List (LV)}{Z:LV}
theorem Fil.start{w w':World}{z:Array Value}(h:New w w' 37 (madeCells z (n*5)).toList)(s:B<=w.heap.size):Fil B w' w.heap.size n [] [] (madeCells z (n*5)).toList:=
 ⟨h.D,by simp[madeCells],by simp,FsAt.nil _ _,s⟩
theorem Fil.ext(h:Fil B W g n l L Z)(k:Ext W W'):Fil B W' g n l L Z:=⟨h.D.E k O,h.zl,h.ln,h.fs.ext k,h.gB⟩
theorem Fil.room(h:Fil B W g n l L Z)(I:l.length<n):l.length*5+5<=(L.flatten++Z).length:=by
 rw[List.length_append,h.fs.flat,h.zl];omega
theorem Fil.push{T:TypeId}{cs:LV}{x:Fml}(h:Fil B W g n l L Z)(P:FAt (fun b=>B<=b/\b≠g) W (.agg cs.toArray) x)(C:cs.length=5)(I:l.length<n)(p:Put W W' g T (splice (L.flatten++Z) (l.length*5) cs))(m:T=37):
  Fil B W' g n (l++[x]) (L++[cs]) (Z.drop 5):=by
 subst m;have N:=h.fs.flat
 have e:splice (L.flatten++Z) (l.length*5) cs=(L++[cs]).flatten++Z.drop 5:=by
  unfold splice;rw[<-N,List.take_left,C,List.drop_append];simp
 have S:=p.D;rw[e]at S;refine⟨S,by rw[List.length_drop,h.zl,List.length_append];simp only[List.length_singleton];omega,by rw[List.length_append];simp only[List.length_singleton];omega,?_,h.gB⟩;exact(h.fs.snoc P C).E p.E fun b S V=>by simp at V;exact S.2 V
theorem Fil.fin(h:Fil B W g n l L Z)(I:l.length=n)(f:n<=1000000):SlAt fmlR (fun b=>B<=b) W (.slice (sm g) n n) l/\
  ∀(op:Int)(k:LU)(v b:Int),FAt (fun b=>B<=b) W (.agg #[iV op,AL k,iV v,iV b,.slice (sm g) n n]) ⟨op,k,v,b,l⟩:=by
 subst I;have o:Z=[]:=List.eq_nil_of_length_eq_zero (by rw[h.zl];simp);have S:=h.D;rw[o,List.append_nil]at S;have d:Sl (fun b=>B<=b) W (.slice (sm g) l.length l.length) l.length L.flatten:=⟨_,_,rfl,Nat.le_refl _,by omega,(fun e=>by cases e),.inr ⟨g,0,rfl,h.gB,S.cells⟩⟩;have s:FsAt (fun b=>B<=b) W L l:=h.fs.mono fun b S=>S.1;exact⟨⟨_,_,L,rfl,d,s.1,fun i c a T D=>⟨s.2.1 c (List.mem_of_getElem? T),s.2.2 i c a T D⟩⟩,fun op k v b=>FAt.node op k v b d s⟩
end
end
theorem FAt.unm{ok:Nat->Prop}{X:List Nat}{w w':World}{u:Value}{f:Fml}(h:FAt (fun b=>ok b/\Unm w b) w u f)(k:Keep X w w')(a:∀b,ok b->b∉X):FAt (fun b=>ok b/\Unm w' b) w' u f:=
 (h.lt.E k fun b S=>a b S.1.1).mono fun b S=>⟨S.1.1,S.1.2.eq (k.block b S.2 (a b S.1.1))⟩
theorem FsAt.unm{ok:Nat->Prop}{X:List Nat}{w w':World}{L:List (LV)}{l:LF}(h:FsAt (fun b=>ok b/\Unm w b) w L l)(k:Keep X w w')(a:∀b,ok b->b∉X):FsAt (fun b=>ok b/\Unm w' b) w' L l:=
 (h.lt.E k fun b S=>a b S.1.1).mono fun b S=>⟨S.1.1,S.1.2.eq (k.block b S.2 (a b S.1.1))⟩
theorem SlAt.unm{ok:Nat->Prop}{X:List Nat}{w w':World}{v:Value}{l:LF}(h:SlAt fmlR (fun b=>ok b/\Unm w b) w v l)(k:Keep X w w')(a:∀b,ok b->b∉X):SlAt fmlR (fun b=>ok b/\Unm w' b) w' v l:=
 ((SlAt.lt En h).E k fun b S=>a b S.1.1).mono fun b S=>⟨S.1.1,S.1.2.eq (k.block b S.2 (a b S.1.1))⟩
def ArgC(w:World)(C:Option Addr)(args:LF):Prop:=∀(k:Nat)(a:Fml),args[k]?=some a->∀W,Ext w W->∃v c,C=some ⟨v,c,none⟩/\Fn Zp 114 [.pointer (some ⟨v,c+k*5,none⟩)] W fun u X=>Ext W X/\FAt (fun b=>W.heap.size<=b/\Unm X b) X u (BR a)
theorem canons_ok(w:World)(args:LF)(C:Option Addr)(K:Nat)(a0:args.length<=1000)(p:ArgC w C args):
  Fn Zp 155 [.slice C args.length K] w fun u w'=>Ext w w'/\∃g,u=.slice (sm g) args.length args.length/\SlAt fmlR (fun b=>w.heap.size<=b/\Unm w' b) w' u (args.map BR):=by
 refine AN Tryz.func155 rfl Tryz.ntmps155 (go ?_);refine W_make (n:=args.length) rfl rfl rfl rfl U EW (fun w2 H=>?_);have N:=Fil.start (B:=w.heap.size) H (Nat.le_refl _);refine go ?_
 refine Ar (α:=Nat×List (LV)×LV) (fun y=>[(0,.slice C args.length K),(3,.slice (sm w.heap.size) args.length args.length),(9,iV (args.length:Int)),(10,iV (y.1:Int))])
  (fun y W=>y.1<=args.length/\Ext w W/\Fil w.heap.size W w.heap.size args.length ((args.take y.1).map BR) y.2.1 y.2.2/\FsAt (fun b=>(w.heap.size<=b/\b≠w.heap.size)/\Unm W b) W y.2.1 ((args.take y.1).map BR)/\w.heap.size<W.heap.size) (fun y=>args.length-y.1) (0,[],_) ag ⟨by simp,H.E,by simpa using N,by simpa using FsAt.nil _ _,by have:=H.size;omega⟩ ?_
 rintro⟨k,L,Z⟩W fr⟨P,q,m,z,X⟩;simp only at P q m z X;have h:((args.take k).map BR).length=k:=by simp;omega
 refine go ?_;by_cases G:k<args.length
 ·refine go ?_;obtain⟨x,V⟩:∃x,args[k]?=some x:=⟨_,List.getElem?_eq_getElem G⟩;obtain⟨b',o',rfl,d⟩:=p k x V W q;refine go ?_;refine AF d rfl ?_;rintro u w4⟨f,r⟩;obtain⟨j,rfl,F,Q⟩:=r.cells;refine go ?_;have o:=m.ext f;have v:=o.room (by rw[h];exact G);rw[h]at v;refine AI (cs:=j) rfl rfl F Q o.D U (fun w5 A=>go ?_);have M:=A;rw[show 0+k*5=((args.take k).map BR).length*5 by rw[h];omega]at M;have I:=o.push (r.mono fun y E=>⟨by omega,by omega⟩) F (by rw[h];exact G) M rfl;have u4:=z.unm f (fun _ _=>by simp);have u6:=(u4.snoc (r.mono fun y E=>⟨⟨by omega,by omega⟩,E.2⟩) F).unm A.E (fun y E s=>by rw[List.mem_singleton]at s;exact E.2 s);refine go ?_;refine⟨(k+1,L++[j],Z.drop 5),⟨rfl,⟨rfl,rfl,rfl,?_,trivial⟩,⟨by simp only;omega,(q.trans f).E A.E O,?_,?_,by have:=A.size;have:=f.size;omega⟩⟩,by simp only;omega⟩
  ·show iV ((k:Int)+1)=_;rw[Int.natCast_add];rfl
  ·simp only;rw[List.take_add_one,V,List.map_append];exact I
  ·simp only;rw[List.take_add_one,V,List.map_append];exact u6
 ·refine go ?_;rw[List.take_of_length_le U]at m z;refine go ?_;refine AC rfl ⟨q,w.heap.size,rfl,?_⟩;have l:(args.map BR).length=args.length:=by simp
  have R:Z=[]:=List.eq_nil_of_length_eq_zero (by rw[m.zl,l];simp);have S:=m.D;rw[R,List.append_nil]at S;have t:FsAt (fun b=>w.heap.size<=b/\Unm W b) W L (args.map BR):=z.mono fun b S=>⟨S.1.1,S.2⟩;refine⟨some ⟨w.heap.size,0,none⟩,args.length,L,?_,?_,t.1,fun i c a T D=>⟨t.2.1 c (List.mem_of_getElem? T),t.2.2 i c a T D⟩⟩
  ·rw[l];rfl
  ·rw[l];exact⟨_,_,rfl,Nat.le_refl _,by omega,(fun e=>by cases e),.inr ⟨w.heap.size,0,rfl,⟨Nat.le_refl _,Unm.cells S⟩,S.cells⟩⟩
theorem const_ok(w:World)(S g o n c:Nat)(l:LF)(k:Nat)(x:Fml)(ok:Nat->Prop)(a:Blk w S 35 [.slice (some ⟨g,o,none⟩) n c])(y:PF ok w g (o+k*5) x)(L:k<n):
  Fn Zp 170 [iV (k:Int),pt S] w fun u w'=>u=.bool (DQ x)/\w'=w:=by
 have b:=y.opc;refine AN Tryz.func170 rfl Tryz.ntmps170 (go ?_);by_cases Z:x.op=1
 ·have G:DQ x=true:=by unfold DQ;rw[decide_eq_true Z,Bool.true_or]
  rw[G];exact FW
 ·by_cases W:x.op=2
  ·have G:DQ x=true:=by unfold DQ;rw[decide_eq_true W,Bool.or_true]
   rw[G];exact FW
  ·have G:DQ x=false:=by unfold DQ;rw[decide_eq_false Z,decide_eq_false W];rfl
   rw[G];exact FW
theorem SlAt.el{ok:Nat->Prop}{w:World}{g n c:Nat}{l:LF}{k:Nat}{x:Fml}(h:SlAt fmlR ok w (.slice (sm g) n c) l)(V:l[k]?=some x):PF ok w g (0+k*5) x/\∃f a j s r,Cells w g (0+k*5) [f,a,j,s,r]/\FAt ok w (.agg [f,a,j,s,r].toArray) x:=by
 obtain⟨b,o,e,y⟩:=SlAt.pf h V;cases e;refine⟨y,?_⟩;obtain⟨_,d,C,T,P⟩:=y;obtain⟨f,a,j,s,r,rfl⟩:=Ak C;exact⟨f,a,j,s,r,T,P⟩
theorem canon_ok:∀(n:Nat)(w:World)(b o:Nat)(f:Fml),dpF f<=n->szF f<=1000->PF Af w b o f->Sh f->Fn Zp 114 [.pointer (some ⟨b,o,none⟩)] w fun u w'=>Ext w w'/\FAt (fun b=>w.heap.size<=b/\Unm w' b) w' u (BR f):=by
 intro n
 induction n with
 |zero=>intro w b o f hd;rw[CX]at hd;omega
 |succ n ih=>
 intro w b o f hd hz hf hs;obtain⟨aa,cc,hla,q0,q1,q2,q3,q4,qa⟩:=hf.all;obtain⟨K,H,v,bd,p⟩:=f;obtain⟨_,⟨d6,a7,d8,d9,_⟩,b3⟩:=sh_iff.1 hs;rw[CX]at hd;rw[BL]at hz;simp only[Fml.op,Fml.name,Fml.val,Fml.args]at hd hz hla q0 q1 q2 q4 qa;have d7:=CE p;have c5:=World.block_lt_of_cell? w _ q0;simp only at c5
 have c4:∀V,Ext w V->ArgC V aa p:=fun V eV k a ha W eW=>by
  obtain⟨b',o',e,hp⟩:=qa k a ha;have b0:=List.mem_of_getElem? ha;have h1:=Ce b0;have h2:=Bb b0;exact⟨b',o',e,ih W b' _ a U U (hp.E (eV.trans eW) (fun _ _=>by simp)) (b3 a b0)⟩
 rw[canon_eq];refine AN Tryz.func114 rfl Tryz.ntmps114 (go ?_);refine AY (L:=zero5) (fun w1 n1=>go ?_);have z1:=n1.size;have d3:=n1.E.cell q4 O;refine go ?_;refine AF (canons_ok w1 p aa cc U (c4 w1 n1.E)) rfl ?_;rintro _ w2⟨k2,g,rfl,b9⟩;refine AY (L:=[.slice none 0 0]) (fun w3 n3=>?_);refine AU (v:=.slice (sm g) p.length p.length) rfl rfl rfl n3.D O (fun I p4=>?_);repeat refine nx rfl ?_
 have z:Blk I w2.heap.size 35 [.slice (sm g) p.length p.length]:=p4.D;have a5:Ext w2 I:=n3.E.E p4.E O;have G:Ext w I:=(n1.E.trans k2).trans a5;have T:Blk I w.heap.size 37 zero5:=n1.D.E (k2.trans a5) O;have P:=b9.unm a5 (fun _ _=>by simp);have z2:=k2.size;have e0:=a5.size;have b6:=G.cell q0 O;have d1:=G.cell q1 O;have d2:=G.cell q2 O;have X:(p.map BR).length=p.length:=by simp
 have b4:∀x∈p.map BR,Sh x:=fun x Q=>by
  obtain⟨y,E,rfl⟩:=List.mem_map.1 Q;exact cf_sh (canon_cf (b3 y E))
 have b5:szL (p.map BR)<=1000:=by
  have:=szL_map BR p fun a ha=>canon_sz (b3 a ha);omega
 clear b9 n1 k2 n3 p4 d3;generalize p.map BR=l at P X b4 b5⊢;obtain⟨S,c6⟩:∃S,S=w2.heap.size:=⟨_,rfl⟩;rw[<-c6]at z⊢;have d4:w1.heap.size<=S:=by omega
 (refine AJ (EC rfl rfl (AO ?_))<;>refine M_func rfl ?_)
 repeat refine nx rfl ?_
 (refine AJ (AX rfl (AG rfl (AB rfl ?_)))<;>refine AH rfl ER ?_<;>refine AA ?_)
 refine Q_then ?_;refine CA (α:=Unit) (fun _=>[(0,.pointer (some ⟨b,o,none⟩)),(2,pt w.heap.size),(3,pt S)]) (fun _ W=>W=I/\CU K H v l=⟨K,H,v,0,l⟩) ?_ ?_
 ·have a1:∀k,k<p.length->∃x,l[k]?=some x/\l.getD k Am=x:=fun k hk=>by
   have c1:k<l.length:=by omega
   exact⟨l[k],List.getElem?_eq_getElem c1,by rw[List.getD_eq_getElem?_getD,List.getElem?_eq_getElem c1];rfl⟩
  refine go ?_;by_cases b8:K=5\/K=6
  ·rcases b8 with rfl|rfl
   ·refine go ?_;rw[show CU 5 H v l=joinM 5 l by unfold CU;rw[if_pos U]];refine Ac (rd 0 5 (.alt 5 (.alt 6 .done .stop) .stop)) Ap EO (fun N M ed=>⟨fun V=>Keep [w.heap.size] N V,?_,?_⟩)
    ·exact Ff
    have s1:∀V,Keep [w.heap.size] N V->V.cell? ⟨b,o+0,none⟩=some (iV 5):=fun V e=>e.cell (M.cell b6 O) EP;have s2:∀V,Keep [w.heap.size] N V->V.cell? ⟨S,0,none⟩=some (.slice (sm g) p.length p.length):=fun V e=>e.cell ((z.E M O).cell rfl) EP;((refine D_R rfl rfl (fun W m=>AX rfl dz) ?_)<;>(refine D_R rfl rfl (fun W m=>AG rfl dz) ?_)<;>(refine D_R rfl rfl (fun W m=>AB rfl dz) ?_)<;>(refine D_R rfl rfl (fun W m=>AH rfl (s1 W m) dz) ?_)<;>(refine D_R rfl rfl (fun W m=>AH rfl (s2 W m) dz) ?_))
    refine D_E rfl ?_;have a0:=SlAt.lt En (P.unm M (fun _ _=>by simp));rw[<-X]at a0;have hj:=join_ok N 5 U (sm g) _ l _ a0 (fun b hb=>hb.1.2) (Nat.le_trans b5 U) b4;rw[X]at hj;refine AF hj rfl ?_;rintro u w5⟨A,f5⟩;obtain⟨q,rfl,a8,b1⟩:=f5.cells;obtain⟨B,C,j,s,r,rfl⟩:=Ak a8;refine AA ⟨_,fun _ e=>e,A.any,?_⟩;refine D_E rfl ?_;have zd:=M.size;have z5:=A.size;refine AI (cs:=[B,C,j,s,r]) rfl rfl rfl b1 ((T.E M O).E A O) EV (fun R d=>?_);refine AA ⟨_,fun _ e=>e,A.any.trans d.E (fun _ h _=>h),?_⟩;refine go ?_
    have f6:FAt (fun b=>w1.heap.size<=b/\Unm w5 b) w5 (.agg [B,C,j,s,r].toArray) (joinM 5 l):=f5.mono fun y E=>by
     rcases E with h|h
     ·exact⟨h.1.1,h.1.2.eq (A.block y h.2 O)⟩
     ·exact⟨by omega,h.2⟩
    exact GB
   ·refine go ?_;rw[show CU 6 H v l=joinM 6 l by unfold CU;rw[if_pos U]];refine Ac (rd 0 5 (.alt 5 (.alt 6 .done .stop) .stop)) Ap EO (fun N M ed=>⟨fun V=>Keep [w.heap.size] N V,?_,?_⟩)
    ·exact Ff
    have s1:∀V,Keep [w.heap.size] N V->V.cell? ⟨b,o+0,none⟩=some (iV 6):=fun V e=>e.cell (M.cell b6 O) EP;have s2:∀V,Keep [w.heap.size] N V->V.cell? ⟨S,0,none⟩=some (.slice (sm g) p.length p.length):=fun V e=>e.cell ((z.E M O).cell rfl) EP;((refine D_R rfl rfl (fun W m=>AX rfl dz) ?_)<;>(refine D_R rfl rfl (fun W m=>AG rfl dz) ?_)<;>(refine D_R rfl rfl (fun W m=>AB rfl dz) ?_)<;>(refine D_R rfl rfl (fun W m=>AH rfl (s1 W m) dz) ?_)<;>(refine D_R rfl rfl (fun W m=>AH rfl (s2 W m) dz) ?_))
    refine D_E rfl ?_;have a0:=SlAt.lt En (P.unm M (fun _ _=>by simp));rw[<-X]at a0;have hj:=join_ok N 6 U (sm g) _ l _ a0 (fun b hb=>hb.1.2) (Nat.le_trans b5 U) b4;rw[X]at hj;refine AF hj rfl ?_;rintro u w5⟨A,f5⟩;obtain⟨q,rfl,a8,b1⟩:=f5.cells;obtain⟨B,C,j,s,r,rfl⟩:=Ak a8;refine AA ⟨_,fun _ e=>e,A.any,?_⟩;refine D_E rfl ?_;have zd:=M.size;have z5:=A.size;refine AI (cs:=[B,C,j,s,r]) rfl rfl rfl b1 ((T.E M O).E A O) EV (fun R d=>?_);refine AA ⟨_,fun _ e=>e,A.any.trans d.E (fun _ h _=>h),?_⟩;refine go ?_
    have f6:FAt (fun b=>w1.heap.size<=b/\Unm w5 b) w5 (.agg [B,C,j,s,r].toArray) (joinM 6 l):=f5.mono fun y E=>by
     rcases E with h|h
     ·exact⟨h.1.1,h.1.2.eq (A.block y h.2 O)⟩
     ·exact⟨by omega,h.2⟩
    exact GB
  ·by_cases h8:K=8
   ·subst h8;have d5:p.length=1:=by simpa[BX]using a7
    obtain⟨x,Q,a2⟩:=a1 0 U;obtain⟨hp,B,C,j,s,r,Z,F⟩:=P.el Q;have t:=canonOp_8 H v l;rw[a2]at t;refine go ?_;refine A9 (v1:=[]) (v2:=[pt S]) (vs:=[iV ((0:Nat):Int)]) rfl (const_ok I S g 0 _ _ l 0 x _ z hp U) rfl ?_;rintro _ I⟨rfl,rfl⟩;cases hic:DQ x with
    |true=>
     rw[hic,if_pos rfl]at t;exact E6
    |false=>
     rw[hic,if_neg Bool.false_ne_true]at t;refine go ?_;exact Aj () ag ⟨rfl,t⟩
   ·by_cases h9:K=9
    ·subst h9;have c8:p.length=2:=by simpa[BX]using a7
     obtain⟨y,E,hgy⟩:=a1 0 U;obtain⟨b2,_⟩:=P.el E;obtain⟨x,Q,a2⟩:=a1 1 U;obtain⟨hp,B,C,j,s,r,Z,F⟩:=P.el Q;have t:=canonOp_9 H v l;rw[a2,hgy]at t;have qy:=b2.opc;refine go ?_;refine A9 (v1:=[]) (v2:=[pt S]) (vs:=[iV ((1:Nat):Int)]) rfl (const_ok I S g 0 _ _ l 1 x _ z hp U) rfl ?_;rintro _ I⟨rfl,rfl⟩;cases hic:DQ x with
     |true=>
      rw[if_pos (.inl hic)]at t;exact E6
     |false=>
      by_cases a3:y.op=2
      ·rw[if_pos (.inr a3)]at t;exact E6
      ·exact Gm
    ·by_cases b7:K=10
     ·subst b7;have c8:p.length=2:=by simpa[BX]using a7
      obtain⟨y,E,hgy⟩:=a1 0 U;obtain⟨b2,_⟩:=P.el E;obtain⟨x,Q,a2⟩:=a1 1 U;obtain⟨hp,B,C,j,s,r,Z,F⟩:=P.el Q;have t:=canonOp_10 H v l;rw[a2,hgy]at t;have qy:=b2.opc;refine go ?_;refine A9 (v1:=[]) (v2:=[pt S]) (vs:=[iV ((1:Nat):Int)]) rfl (const_ok I S g 0 _ _ l 1 x _ z hp U) rfl ?_;rintro _ I⟨rfl,rfl⟩;cases hic:DQ x with
      |true=>
       rw[if_pos (.inl hic)]at t;exact E6
      |false=>
       by_cases a3:y.op=1
       ·rw[if_pos (.inr a3)]at t;exact E6
       ·exact Gm
     ·refine go ?_;exact Aj () ag ⟨rfl,canonOp_E b8 h8 h9 b7 H v l⟩
 rintro _ W f5⟨rfl,d0⟩;rw[d0];refine go ?_;refine Ac (rd 0 14 (.alt 14 .done .stop)) Ap EO (fun N M ed=>⟨fun V=>Keep [w.heap.size] N V,?_,?_⟩)
 ·exact Ff
 have s0:∀V,Keep [w.heap.size] N V->V.cell? ⟨b,o+0,none⟩=some (iV K):=fun V e=>e.cell (M.cell b6 O) EP;have s1:∀V,Keep [w.heap.size] N V->V.cell? ⟨b,o+1,none⟩=some (AL H):=fun V e=>e.cell (M.cell d1 O) EP;have s2:∀V,Keep [w.heap.size] N V->V.cell? ⟨b,o+2,none⟩=some (iV v):=fun V e=>e.cell (M.cell d2 O) EP;have s3:∀V,Keep [w.heap.size] N V->V.cell? ⟨S,0,none⟩=some (.slice (sm g) p.length p.length):=fun V e=>e.cell ((z.E M O).cell rfl) EP;((refine D_R rfl rfl (fun W m=>AX rfl dz) ?_)<;>(refine D_R rfl rfl (fun W m=>AG rfl dz) ?_)<;>(refine D_R rfl rfl (fun W m=>AB rfl dz) ?_)<;>(refine D_R rfl rfl (fun W m=>AH rfl (s0 W m) dz) ?_)<;>(refine D_R rfl rfl (fun W m=>AX rfl dz) ?_)<;>(refine D_R rfl rfl (fun W m=>AG rfl dz) ?_)<;>(refine D_R rfl rfl (fun W m=>AB rfl dz) ?_)<;>(refine D_R rfl rfl (fun W m=>AH rfl (s1 W m) dz) ?_)<;>(refine D_R rfl rfl (fun W m=>AX rfl dz) ?_)<;>(refine D_R rfl rfl (fun W m=>AG rfl dz) ?_)<;>(refine D_R rfl rfl (fun W m=>AB rfl dz) ?_)<;>(refine D_R rfl rfl (fun W m=>AH rfl (s2 W m) dz) ?_)<;>(refine D_R rfl rfl (fun W m=>AH rfl (s3 W m) dz) ?_)<;>(apply D_R rfl rfl;(intro W m;refine BO EQ EQ ?_;exact AA ⟨rfl,rfl,rfl⟩)))
 refine D_E rfl ?_;refine AI (cs:=[iV K,AL H,iV v,iV 0,.slice (sm g) p.length p.length]) rfl rfl rfl (AV rfl) (T.E M O) EV (fun R d=>?_);refine AA ⟨_,fun _ e=>e,d.E,?_⟩;refine go ?_;have zd:=M.size;have c3:=(P.unm M (fun _ _=>by simp)).unm d.E (fun y E D=>by rw[List.mem_singleton]at D;omega);obtain⟨a9,c9,L9,e9,a6,a4⟩:=c3;rw[X]at a6 e9
 have c2:FsAt (fun b=>w1.heap.size<=b/\Unm R b) R L9 l:=⟨a4.1,fun c hc=>by
  obtain⟨i,hi⟩:=List.getElem?_of_mem hc;have c7:i<l.length:=by rw[<-a4.1];exact(List.getElem?_eq_some_iff.1 hi).1
  exact(a4.2 i c _ hi (List.getElem?_eq_getElem c7)).1,fun i c x hc Q=>(a4.2 i c x hc Q).2⟩
 rw[<-X]at a6;have c0:=FAt.node K H v 0 a6 c2;rw[X]at c0;refine go ?_;exact AW rfl rfl rfl d.D.cells ⟨(G.trans M).E d.E O,c0.mono fun y E=>⟨by omega,E.2⟩⟩
section
variable {mk:Prop}[MK mk]
theorem past_of_pst{op v b:Int}{k:LU}{args:LF}{i:Bool}(h:Dq i (.mk op k v b args)=true)(y:op=15\/op=16\/op=17):Dc (.mk op k v b args)=true:=by
 obtain⟨_,_,_,B⟩:=DH h;have e:(i||pstB op)=true:=by rcases y with rfl|rfl|rfl<;>cases i<;>rfl
 rw[e]at B;rw[Dc,pastL_of fun a D=>bare_past a (B a D)];rcases y with rfl|rfl|rfl<;>rfl
theorem raged_ok(w0:World)(r:Nat)(S:List Sgn)(x:Int)(hR:Rdr w0 r S x):∀(n:Nat)(w:World)(b o:Nat)(f:Fml)(i:Bool),dpF f<=n->szF f<=1000->Ext w0 w->PF Af w b o f->Dq i f=true->isB (knS S) f=true->
  Fn Zp 298 [pt r,.pointer (some ⟨b,o,none⟩)] w fun u w'=>Ext w w'/\FAt (fun b=>w.heap.size<=b) w' u (aged (vlS S x) f):=by
 have c3:=rnow_ok w0 r S x hR;obtain⟨X,hX⟩:∃X,X=vlS S x:=⟨_,rfl⟩;rw[<-hX]at c3⊢;intro n
 induction n with
 |zero=>intro w b o f i hd;rw[CX]at hd;omega
 |succ n ih=>
 intro w b o f i hd hz e0 hf hb hk;have e3:dpF f<=n+1:=hd;have f0:=@past_of_pst;have f7:=hf;have c7:=hb;have e7:=hk;obtain⟨C,G,H,bd,j⟩:=f;obtain⟨g0,f1,_,b7⟩:=DH hb;have d9:=bare_arity f1;obtain⟨hk3,c2⟩:=is_iff.1 hk;have f9:=CE j;rw[CX]at hd;rw[BL]at hz;simp only[Fml.args]at hd hz;rw[aged_eq];refine AN Tryz.func298 rfl Tryz.ntmps298 (go ?_);refine AY (fun w1 n1=>go ?_);have z1:=n1.size;have d0:=hf.E n1.E (fun _ _=>by simp);obtain⟨aa,cc,_,q0,q1,q2,q3,q4,_⟩:=d0.all;refine Ac (rd 0 13 (.alt 13 (.alt 14 .done .stop) .stop)) Ap EO (fun N M ed=>⟨Ext N,?_,?_⟩)
 ·exact FQ
 have s0:∀V,Ext N V->V.cell? ⟨b,o+0,none⟩=some (iV C):=fun V e=>(M.trans e).cell q0 O;have s1:∀V,Ext N V->V.cell? ⟨b,o+1,none⟩=some (AL G):=fun V e=>(M.trans e).cell q1 O;have s2:∀V,Ext N V->V.cell? ⟨b,o+2,none⟩=some (iV H):=fun V e=>(M.trans e).cell q2 O;((refine D_R rfl rfl (fun W d=>AX rfl dz) ?_)<;>(refine D_R rfl rfl (fun W d=>AG rfl dz) ?_)<;>(refine D_R rfl rfl (fun W d=>AB rfl dz) ?_)<;>(refine D_R rfl rfl (fun W d=>AH rfl (s0 W d) dz) ?_)<;>(refine D_R rfl rfl (fun W d=>AX rfl dz) ?_)<;>(refine D_R rfl rfl (fun W d=>AG rfl dz) ?_)<;>(refine D_R rfl rfl (fun W d=>AB rfl dz) ?_)<;>(refine D_R rfl rfl (fun W d=>AH rfl (s1 W d) dz) ?_)<;>(refine D_R rfl rfl (fun W d=>AX rfl dz) ?_)<;>(refine D_R rfl rfl (fun W d=>AG rfl dz) ?_)<;>(refine D_R rfl rfl (fun W d=>AB rfl dz) ?_)<;>(refine D_R rfl rfl (fun W d=>AH rfl (s2 W d) dz) ?_)<;>(apply D_R rfl rfl;(intro W d;refine BO EQ EQ ?_;exact AA ⟨rfl,rfl,rfl⟩)))
 refine D_E rfl ?_;refine AY (L:=zero5) (fun w2 n2=>?_);refine AA ⟨Ext N,fun _ e=>e,n2.E,?_⟩;refine D_E rfl ?_;refine AI (cs:=[iV C,AL G,iV H,iV 0,.slice none 0 0]) rfl rfl rfl (AV rfl) n2.D EV (fun z p3=>?_);refine AA ⟨Ext N,fun _ e=>e,n2.E.E p3.E O,?_⟩;refine Bc ?_;clear s0 s1 s2 q0 q1 q2 q3 q4;have z2:=n2.size;have z3:=p3.size;have zd:=M.size;have b3:Blk z N.heap.size 37 [iV C,AL G,iV H,iV 0,.slice none 0 0]:=p3.D;have d4:Ext N z:=n2.E.E p3.E O;have c4:Ext w1 z:=M.trans d4;have T:Ext w z:=n1.E.trans c4;have b4:Blk z w.heap.size 37 zero5:=n1.D.E c4 O;have b0:=hf.E T (fun _ _=>by simp);have d1:=hf;have q0:=b0.opc;obtain⟨f2,cc3,_,d5,c0⟩:=b0.arg;simp only[Fml.op,Fml.args]at q0 d5 c0;obtain⟨F,hc5⟩:∃F,F=N.heap.size:=⟨_,rfl⟩;rw[<-hc5]at b3⊢;have f5:w1.heap.size<=F:=by omega
 have e1:F<z.heap.size:=b3.lt;clear d0 n2 p3 d4 c4 n1;obtain⟨P,a8⟩:∃P,P=agedV X C H ((j.map (Ck X)).getD 0 false) (Ck X (.mk C G H bd j)):=⟨_,rfl⟩;rw[<-a8];repeat refine nx rfl ?_
 refine AJ (AO (AE rfl ?_));repeat refine nx rfl ?_
 (refine AJ (AX rfl (AG rfl (AB rfl ?_)))<;>refine AH rfl ER ?_<;>refine AA ?_)
 refine Q_then ?_;refine CA (α:=Bool×Int) (fun y=>[(0,pt r),(1,.pointer (some ⟨b,o,none⟩)),(4,pt w.heap.size),(5,pt F),(6,.bool y.1)]) (fun y W=>Ext w W/\(if y.1 then 1 else y.2)=P/\Blk W F 37 [iV C,AL G,iV y.2,iV 0,.slice none 0 0]/\Blk W w.heap.size 37 zero5) ?_ ?_
 ·by_cases c6:C=15
  ·subst c6;have e8:j.length=1:=by simpa[BX]using d9
   obtain⟨a,ha⟩:=one_arg e8;have b6:a∈j:=by rw[ha];simp
   obtain⟨Q,o',rfl,e6⟩:=c0 0 a (by rw[ha];rfl);have b8:=b7 a b6;simp only[show∀i,(i||pstB 15)=true from fun i=>by cases i<;>rfl]at b8;refine go ?_;refine AF (c3 n z Q _ a true (by have:=Ce b6;omega) (e0.trans T) e6 b8 (bare_past a b8) (c2 a b6)) rfl ?_;rintro _ w4⟨rfl,c⟩;refine go ?_;refine AU (v:=iV 0) rfl rfl rfl (b3.E c O) O (fun w5 A=>go ?_);exact Aj (Ck X a,0) ag ⟨(T.trans c).E A.E EP,by rw[a8,ha];rfl,A.D,(b4.E c O).E A.E EP⟩
  ·by_cases h67:C=16\/C=17
   ·have c8:=c3 (n+1) z b o (.mk C G H bd j) i e3 (e0.trans T) b0 c7 (f0 c7 (.inr h67)) e7;have a9:P=bitI (Ck X (.mk C G H bd j)):=by rw[a8];unfold agedV;rw[if_neg c6,if_pos h67]
    refine go ?_;rcases h67 with rfl|rfl
    ·refine go ?_;refine AF c8 rfl ?_;rintro _ w4⟨rfl,c⟩;refine go ?_;refine AU (v:=iV 0) rfl rfl rfl (b3.E c O) O (fun w5 A=>go ?_);exact Aj (Ck X (.mk 16 G H bd j),0) ag ⟨(T.trans c).E A.E EP,a9.symm,A.D,(b4.E c O).E A.E EP⟩
    ·refine go ?_;refine AF c8 rfl ?_;rintro _ w4⟨rfl,c⟩;refine go ?_;refine AU (v:=iV 0) rfl rfl rfl (b3.E c O) O (fun w5 A=>go ?_);exact Aj (Ck X (.mk 17 G H bd j),0) ag ⟨(T.trans c).E A.E EP,a9.symm,A.D,(b4.E c O).E A.E EP⟩
   ·have a9:P=H:=by rw[a8];exact agedV_keep X _ _ _ U
    refine go ?_;exact Aj (false,H) ag ⟨T,a9.symm,b3,b4⟩
 rintro⟨hh,y⟩W3 f3⟨eW3,b2,a6,c5⟩;simp only at b2 a6;repeat refine nx rfl ?_
 refine AJ (AE rfl (AA ?_));refine Q_then ?_;refine CA (α:=Unit) (fun _=>[(0,pt r),(1,.pointer (some ⟨b,o,none⟩)),(4,pt w.heap.size),(5,pt F)]) (fun _ W=>Ext w W/\Blk W F 37 [iV C,AL G,iV P,iV 0,.slice none 0 0]/\Blk W w.heap.size 37 zero5) ?_ ?_
 ·cases hh with
  |true=>
   refine go ?_;refine AU (v:=iV 1) rfl rfl rfl a6 O (fun w5 A=>go ?_);refine Aj () ag ⟨eW3.E A.E EP,?_,c5.E A.E EP⟩;rw[<-b2];exact A.D
  |false=>
   refine go ?_;refine Aj () ag ⟨eW3,?_,c5⟩;rw[<-b2];exact a6
 rintro _ W4 f4⟨c,b5,d8⟩;clear b3 b4 q0 b0 T e1 eW3 a6 c5 b2 c0 d5;have e4:=d1.E c (fun _ _=>by simp);obtain⟨aa,cc,_,a3,_⟩:=e4.arg;simp only[Fml.args]at a3;refine go ?_
 refine Ar (α:=Nat×Value×List (LV)) (fun x=>[(0,pt r),(1,.pointer (some ⟨b,o,none⟩)),(4,pt w.heap.size),(5,pt F),(48,iV (j.length:Int)),(49,iV (x.1:Int))])
  (fun x W=>x.1<=j.length/\Ext w W/\Bld w1 W F C G P 0 ((j.take x.1).map (aged X)) x.2.1 x.2.2/\Blk W w.heap.size 37 zero5/\F<W.heap.size) (fun x=>j.length-x.1) (0,.slice none 0 0,[]) ag ⟨by simp,c,by simpa using Bld.start b5,d8,b5.lt⟩ ?_
 rintro⟨k,v,L⟩W fr⟨hk,q,I,bz,e2⟩;simp only at hk q I bz e2;refine go ?_;by_cases e9:k<j.length
 ·refine go ?_;obtain⟨x,l⟩:∃x,j[k]?=some x:=⟨_,List.getElem?_eq_getElem e9⟩;have e5:=d1.E q (fun _ _=>by simp);obtain⟨aa,cc,_,a3,c9⟩:=e5.arg;simp only[Fml.args]at a3 c9;obtain⟨Q,o',rfl,d2⟩:=c9 k x l;refine Ac (.read 0 (rd 2 7 (.alt 1 (.alt 9 (.alt 10 (.alt 11 (.read 12 (.alt 13 .done .stop)) .stop) .stop) .stop) (.alt 9 (.alt 1 (.alt 10 (.alt 11 (.read 12 (.alt 13 .done .stop)) .stop) .stop) (.alt 10 (.alt 1 (.alt 11 (.read 12 (.alt 13 .done .stop)) .stop) .stop) .stop)) .stop)))) Ap EO (fun N M ed=>⟨fun V=>V.cell? ⟨b,o+4,none⟩=some (.slice (some ⟨Q,o',none⟩) j.length cc),?_,?_⟩)
  ·exact M.cell a3 O
  have ca:∀V:World,V.cell? ⟨b,o+4,none⟩=some (.slice (some ⟨Q,o',none⟩) j.length cc)->V.cell? ⟨b,o+4,none⟩=some (.slice (some ⟨Q,o',none⟩) j.length cc):=fun V e=>e;((refine D_R rfl rfl (fun W d=>AB rfl dz) ?_)<;>(refine D_R rfl rfl (fun W d=>AX rfl dz) ?_)<;>(refine D_R rfl rfl (fun W d=>AX rfl dz) ?_)<;>(refine D_R rfl rfl (fun W d=>AG rfl dz) ?_)<;>(refine D_R rfl rfl (fun W d=>AB rfl dz) ?_)<;>(refine D_R rfl rfl (fun W d=>AH rfl (ca W d) dz) ?_)<;>(refine D_R rfl rfl (fun W d=>AS rfl dz) ?_)<;>(apply D_R rfl rfl;(intro W d;refine CG rfl rfl rfl U ?_;exact AA ⟨rfl,rfl,rfl⟩)))
  have hSd:N.cell? ⟨b,o+4,none⟩=some (.slice (some ⟨Q,o',none⟩) j.length cc):=M.cell a3 O;have a7:=I.ext M;have hbw:b<w.heap.size:=by have:=hf.lt.1;exact this.2
  have zd:=M.size;have a2:=List.mem_of_getElem? l;have f6:=Ce a2;have g1:=Bb a2;have c1:∀g,v.ownBlock=some g->g<N.heap.size:=fun g hg=>(An a7.own hg).2;refine D_A rfl ?_ ?_
  ·refine AH rfl (a7.D.cell (o:=4) rfl) ?_;refine wNl hSd ?_;refine D_E rfl ?_;refine AF (ih N Q (o'+k*5) x _ U U (e0.trans (q.trans M)) (d2.E M (fun _ _=>by simp)) (b7 x a2) (c2 x a2)) rfl ?_;rintro u8 w8⟨D,f8⟩;obtain⟨cs,rfl,b9,b1⟩:=f8.cells;obtain⟨x0,x1,x2,x3,x4,rfl⟩:=Ak b9;have a1:=D.cell hSd O;have m:=a7.ext D;have z8:=D.size;refine wNl a1 ?_;refine D_E rfl ?_;refine AP (out:=[x0,x1,x2,x3,x4]) rfl U EZ (fun w9 s=>?_);have K:=s.E.cell a1 O;have t:=m.ext s.E;refine wNl K ?_;refine D_E rfl ?_;have o9:=s.own (n:=1) (size:=5) rfl EW (Nat.le_refl _);have z9:=s.size;have d3:((j.take k).map (aged X)).length=k:=by simp;omega
   refine Ax (ok:=Af) (v:=v) (sv:=.slice (sm w8.heap.size) 1 1) rfl rfl t.own (Aa o9 fun _ _=>trivial) U rfl rfl b1 U U U (fun a0 d6 p=>?_);have d7:=p.E.size;have R:=p.E.cell K (fun l=>by have:=An t.own (Option.mem_toList.1 l);omega);refine wNl R ?_;refine go ?_;refine D_E rfl ?_;have a4:F∉v.ownBlock.toList:=fun l=>t.ne _ (Option.mem_toList.1 l) rfl;refine AU (v:=a0) rfl rfl (own_oneC p.own) (t.D.E p.E a4) O (fun a5 Z=>?_);refine wNl (Z.E.cell R EP) ?_;refine go ?_;obtain⟨hB,kB⟩:=m.push (B:=N.heap.size) ⟨by omega,by omega⟩ c1 U U f8 rfl s p Z rfl
   have kD:Ext w a5:=((q.trans M).trans D).E kB (fun y E=>by
    rcases List.mem_cons.1 E with rfl|E
    ·omega
    ·have:=(An m.own (Option.mem_toList.1 E)).1;omega)
   refine go ?_;refine⟨(k+1,a0,L++[[x0,x1,x2,x3,x4]]),⟨rfl,⟨rfl,rfl,rfl,rfl,rfl,?_,trivial⟩,⟨by simp only;omega,kD,?_,(bz.E (M.trans D) O).E kB ?_,by have:=kB.size;omega⟩⟩,by simp only;omega⟩
   ·show iV ((k:Int)+1)=_;rw[Int.natCast_add];rfl
   ·exact Gn
   ·intro E;rcases List.mem_cons.1 E with e|E
    ·omega
    ·have:=(An I.own (Option.mem_toList.1 E)).1;omega
  refine D_E rfl ?_;refine AF (ih N Q (o'+k*5) x _ U U (e0.trans (q.trans M)) (d2.E M (fun _ _=>by simp)) (b7 x a2) (c2 x a2)) rfl ?_;rintro u8 w8⟨D,f8⟩;obtain⟨cs,rfl,b9,b1⟩:=f8.cells;obtain⟨x0,x1,x2,x3,x4,rfl⟩:=Ak b9;have a1:=D.cell hSd O;have m:=a7.ext D;have z8:=D.size;refine wNl a1 ?_;refine D_A rfl ?_ ?_
  ·refine AH rfl (m.D.cell (o:=4) rfl) ?_;refine wNl a1 ?_;refine D_E rfl ?_;refine AP (out:=[x0,x1,x2,x3,x4]) rfl U EZ (fun w9 s=>?_);have K:=s.E.cell a1 O;have t:=m.ext s.E;refine wNl K ?_;refine D_E rfl ?_;have o9:=s.own (n:=1) (size:=5) rfl EW (Nat.le_refl _);have z9:=s.size;have d3:((j.take k).map (aged X)).length=k:=by simp;omega
   refine Ax (ok:=Af) (v:=v) (sv:=.slice (sm w8.heap.size) 1 1) rfl rfl t.own (Aa o9 fun _ _=>trivial) U rfl rfl b1 U U U (fun a0 d6 p=>?_);have d7:=p.E.size;have R:=p.E.cell K (fun l=>by have:=An t.own (Option.mem_toList.1 l);omega);refine wNl R ?_;refine go ?_;refine D_E rfl ?_;have a4:F∉v.ownBlock.toList:=fun l=>t.ne _ (Option.mem_toList.1 l) rfl;refine AU (v:=a0) rfl rfl (own_oneC p.own) (t.D.E p.E a4) O (fun a5 Z=>?_);refine wNl (Z.E.cell R EP) ?_;refine go ?_;obtain⟨hB,kB⟩:=m.push (B:=N.heap.size) ⟨by omega,by omega⟩ c1 U U f8 rfl s p Z rfl
   have kD:Ext w a5:=((q.trans M).trans D).E kB (fun y E=>by
    rcases List.mem_cons.1 E with rfl|E
    ·omega
    ·have:=(An m.own (Option.mem_toList.1 E)).1;omega)
   refine go ?_;refine⟨(k+1,a0,L++[[x0,x1,x2,x3,x4]]),⟨rfl,⟨rfl,rfl,rfl,rfl,rfl,?_,trivial⟩,⟨by simp only;omega,kD,?_,(bz.E (M.trans D) O).E kB ?_,by have:=kB.size;omega⟩⟩,by simp only;omega⟩
   ·show iV ((k:Int)+1)=_;rw[Int.natCast_add];rfl
   ·exact Gn
   ·intro E;rcases List.mem_cons.1 E with e|E
    ·omega
    ·have:=(An I.own (Option.mem_toList.1 E)).1;omega
  refine D_E rfl ?_;refine AP (out:=[x0,x1,x2,x3,x4]) rfl U EZ (fun w9 s=>?_);have K:=s.E.cell a1 O;have t:=m.ext s.E;refine wNl K ?_;refine D_E rfl ?_;refine AH rfl (t.D.cell (o:=4) rfl) ?_;refine wNl K ?_;refine D_E rfl ?_;have o9:=s.own (n:=1) (size:=5) rfl EW (Nat.le_refl _);have z9:=s.size;have d3:((j.take k).map (aged X)).length=k:=by simp;omega
  refine Ax (ok:=Af) (v:=v) (sv:=.slice (sm w8.heap.size) 1 1) rfl rfl t.own (Aa o9 fun _ _=>trivial) U rfl rfl b1 U U U (fun a0 d6 p=>?_);have d7:=p.E.size;have R:=p.E.cell K (fun l=>by have:=An t.own (Option.mem_toList.1 l);omega);refine wNl R ?_;refine go ?_;refine D_E rfl ?_;have a4:F∉v.ownBlock.toList:=fun l=>t.ne _ (Option.mem_toList.1 l) rfl;refine AU (v:=a0) rfl rfl (own_oneC p.own) (t.D.E p.E a4) O (fun a5 Z=>?_);refine wNl (Z.E.cell R EP) ?_;refine go ?_;obtain⟨hB,kB⟩:=m.push (B:=N.heap.size) ⟨by omega,by omega⟩ c1 U U f8 rfl s p Z rfl
  have kD:Ext w a5:=((q.trans M).trans D).E kB (fun y E=>by
   rcases List.mem_cons.1 E with rfl|E
   ·omega
   ·have:=(An m.own (Option.mem_toList.1 E)).1;omega)
  refine go ?_;refine⟨(k+1,a0,L++[[x0,x1,x2,x3,x4]]),⟨rfl,⟨rfl,rfl,rfl,rfl,rfl,?_,trivial⟩,⟨by simp only;omega,kD,?_,(bz.E (M.trans D) O).E kB ?_,by have:=kB.size;omega⟩⟩,by simp only;omega⟩
  ·show iV ((k:Int)+1)=_;rw[Int.natCast_add];rfl
  ·exact Gn
  ·intro E;rcases List.mem_cons.1 E with e|E
   ·omega
   ·have:=(An I.own (Option.mem_toList.1 E)).1;omega
 ·refine go ?_;rw[List.take_of_length_le U]at I;have bf:=I.D;refine go ?_;refine AI (cs:=[iV C,AL G,iV P,iV 0,v]) rfl rfl rfl ?_ bz EV (fun w5 A=>?_)
  ·intro u hu;simp at hu;rcases hu with rfl|rfl|rfl|rfl|rfl<;>first|rfl|exact own_oneC I.own
  refine go ?_;exact AW rfl rfl rfl A.D.cells ⟨q.E A.E O,((I.fin.E A.E (fun x l hm=>by have:=l.1;simp at hm;omega)).mono fun x l=>by have:=l.1;omega)⟩
theorem node_ok(w:World)(op:Int)(a:Option Addr)(n c:Nat):Fn Zp 297 [iV op,.slice a n c] w fun u w'=>u=.agg #[iV op,AL [],iV 0,iV 0,.slice a n c]/\Ext w w':=by
 refine AN Tryz.func297 rfl Tryz.ntmps297 (go ?_);refine AY (L:=zero5) (fun Q A=>go ?_);refine AI (cs:=[iV op,AL [],iV 0,iV 0,.slice a n c]) rfl rfl rfl (AV rfl) A.D EV (fun z b=>go ?_);exact AW rfl rfl rfl b.D.cells ⟨rfl,A.E.E b.E O⟩
def ArgW(w:World)(r:Nat)(X:Vl)(C:Option Addr)(args:LF):Prop:=∀(k:Nat)(a:Fml),args[k]?=some a->∀W,Ext w W->∃v c,C=some ⟨v,c,none⟩/\Fn Zp 229 [pt r,.pointer (some ⟨v,c+k*5,none⟩)] W fun u d=>Ext W d/\FAt (fun b=>W.heap.size<=b) d u (rawF X a)
theorem rconn_ok(w:World)(r b o:Nat)(X:Vl)(op:Int)(args:LF)(C:Option Addr)(M:Nat)(a0:args.length<=1000)(q0:w.cell? ⟨b,o+0,none⟩=some (iV op))(G:w.cell? ⟨b,o+4,none⟩=some (.slice C args.length M))(p:ArgW w r X C args):
  Fn Zp 225 [pt r,.pointer (some ⟨b,o,none⟩)] w fun u w'=>Ext w w'/\FAt (fun b=>w.heap.size<=b) w' u (opF op (args.map (rawF X))):=by
 refine AN Tryz.func225 rfl Tryz.ntmps225 (go ?_);refine AY (L:=zero5) (fun Q A=>go ?_);have a2:=A.E.cell G O;refine go ?_;refine W_make (n:=args.length) rfl rfl rfl rfl U EW (fun N j=>?_);have s:=Fil.start (B:=Q.heap.size) j (Nat.le_refl _);have e:Ext w N:=A.E.trans j.E;have z1:=A.size;have t:Blk N w.heap.size 37 zero5:=A.D.E j.E O;have a3:=e.cell G O;refine go ?_
 refine Ar (α:=Nat×List (LV)×LV) (fun y=>[(0,pt r),(1,.pointer (some ⟨b,o,none⟩)),(4,pt w.heap.size),(5,.slice (sm Q.heap.size) args.length args.length),(17,iV (args.length:Int)),(18,iV (y.1:Int))])
  (fun y W=>y.1<=args.length/\Ext w W/\Blk W w.heap.size 37 zero5/\Fil Q.heap.size W Q.heap.size args.length ((args.take y.1).map (rawF X)) y.2.1 y.2.2/\Q.heap.size<W.heap.size) (fun y=>args.length-y.1) (0,[],_) ag ⟨by simp,e,t,by simpa using s,by have:=j.size;omega⟩ ?_
 rintro⟨k,L,Z⟩W fr⟨R,q,E,m,T⟩;simp only at R q E m T;have a4:=q.cell G O;have h:((args.take k).map (rawF X)).length=k:=by simp;omega
 refine go ?_;by_cases D:k<args.length
 ·refine go ?_;obtain⟨x,V⟩:∃x,args[k]?=some x:=⟨_,List.getElem?_eq_getElem D⟩;obtain⟨b',o',rfl,d⟩:=p k x V W q;refine go ?_;refine AF d rfl ?_;rintro u w4⟨c,a⟩;obtain⟨g,rfl,H,i⟩:=a.cells;refine go ?_;have z:=m.ext c;have v:=z.room (by rw[h];exact D);rw[h]at v;refine AI (cs:=g) rfl rfl H i z.D U (fun w5 l=>go ?_);have f:=l;rw[show 0+k*5=((args.take k).map (rawF X)).length*5 by rw[h];omega]at f;have I:=z.push (a.mono fun y K=>⟨by omega,by omega⟩) H (by rw[h];exact D) f rfl;refine go ?_;refine⟨(k+1,L++[g],Z.drop 5),⟨rfl,⟨rfl,rfl,rfl,rfl,rfl,?_,trivial⟩,⟨by simp only;omega,(q.trans c).E l.E EP,(E.E c O).E l.E EP,?_,by have:=l.size;have:=c.size;omega⟩⟩,by simp only;omega⟩
  ·show iV ((k:Int)+1)=_;rw[Int.natCast_add];rfl
  ·simp only;rw[List.take_add_one,V,List.map_append];exact I
 ·refine go ?_;rw[List.take_of_length_le U]at m;have a1:=q.cell q0 O;obtain⟨_,P⟩:=m.fin O U;refine go ?_;refine AF (node_ok W op _ _ _) rfl ?_;rintro _ w5⟨rfl,F⟩;refine AI (cs:=[iV op,AL [],iV 0,iV 0,.slice (sm Q.heap.size) args.length args.length]) rfl rfl rfl (AV rfl) (E.E F O) EV (fun w6 f=>go ?_);exact AW rfl rfl rfl f.D.cells ⟨(q.trans F).E f.E O,(((P op [] 0 0).ext F).E f.E (fun y K S=>by simp at S;omega)).mono fun y K=>by omega⟩
def FnA(w:World)(r:Nat)(X:Vl)(b o:Nat)(f:Fml):Prop:=Fn Zp 298 [pt r,.pointer (some ⟨b,o,none⟩)] w fun u a=>Ext w a/\FAt (fun b=>w.heap.size<=b) a u (aged X f)
theorem rdnext_ok(w:World)(r b o:Nat)(X:Vl)(args:LF)(a:Fml)(C:Option Addr)(h:Nat)(G:w.cell? ⟨b,o+4,none⟩=some (.slice C args.length h))(D:args=[a])
  (p:∀W,Ext w W->∃v k,C=some ⟨v,k,none⟩/\FnA W r X v (k+0*5) a):Fn Zp 226 [pt r,.pointer (some ⟨b,o,none⟩)] w fun u w'=>Ext w w'/\FAt (fun b=>w.heap.size<=b) w' u (aged X a):=by
 subst D;obtain⟨v,k,rfl,_⟩:=p w (Ext.refl _);simp only[List.length_singleton]at G;refine AN Tryz.func226 rfl Tryz.ntmps226 (go ?_);refine AY (L:=zero5) (fun Q A=>go ?_);have R:=A.E.cell G O;have m:=A.size;obtain⟨_,_,l,d⟩:=p Q A.E;cases l;refine go ?_;refine AF d rfl ?_;rintro u B⟨c,g⟩;obtain⟨q,rfl,n,i⟩:=g.cells;obtain⟨f,t,j,x,z,rfl⟩:=Ak n;refine AI (cs:=[f,t,j,x,z]) rfl rfl rfl i (A.D.E c O) EV (fun F e=>go ?_);exact AW rfl rfl rfl e.D.cells ⟨(A.E.trans c).E e.E O,(g.E e.E (fun y E s=>by simp at s;omega)).mono fun y E=>by omega⟩
theorem two_new{w w':World}{ok:Nat->Prop}{a c j s r m p x z b:Value}{f g:Fml}(n:New w w' 37 [a,c,j,s,r,m,p,x,z,b])(P:FAt ok w (.agg #[a,c,j,s,r]) f)(d:FAt ok w (.agg #[m,p,x,z,b]) g)(S:ok w.heap.size)(op:Int):
  FAt ok w' (.agg #[iV op,AL [],iV 0,iV 0,.slice (sm w.heap.size) 2 2]) (opF op [f,g]):=by
 have K:FsAt ok w [[a,c,j,s,r],[m,p,x,z,b]] [f,g]:=FsAt.two P rfl d rfl;obtain⟨Z,W⟩:=FsAt.fresh (L:=[[a,c,j,s,r],[m,p,x,z,b]]) n K S O;exact FAt.node op [] 0 0 Z W
theorem runtil_ok(w:World)(r b o:Nat)(X:Vl)(f:Fml)(a c:Fml)(B:Option Addr)(D:Nat)(z:w.cell? ⟨b,o+4,none⟩=some (.slice B [a,c].length D))(p:ArgW w r X B [a,c])(a0:∀W,Ext w W->FnA W r X b o f):
  Fn Zp 227 [pt r,.pointer (some ⟨b,o,none⟩)] w fun u w'=>Ext w w'/\FAt (fun b=>w.heap.size<=b) w' u (opF 6 [rawF X c,opF 5 [rawF X a,aged X f]]):=by
 obtain⟨v,o',rfl,_⟩:=p 0 a rfl w (Ext.refl _);simp only[List.length_cons,List.length_nil]at z;refine AN Tryz.func227 rfl Tryz.ntmps227 (go ?_);refine AY (L:=zero5) (fun P A=>go ?_);have z1:=A.size;refine Ac (rd 0 6 (rd 7 6 (.read 14 (.read 15 (.alt 6 (.alt 13 (.alt 16 (.alt 17 (.alt 18 (.alt 19 (.alt 20 (.alt 21 .done .stop) .stop) .stop) .stop) .stop) .stop) .stop) .stop))))) Ap EO (fun N M ed=>⟨fun V=>Keep [w.heap.size] N V,?_,?_⟩)
 ·exact Ff
 have s:=A.E.trans M;have zd:=M.size;have Z:=World.block_lt_of_cell? w _ z;simp only at Z;have K:∀V,Keep [w.heap.size] N V->V.cell? ⟨b,o+4,none⟩=some (.slice (some ⟨v,o',none⟩) (0+1+1) D):=fun V e=>e.cell (s.cell z O) EP;((refine D_R rfl rfl (fun W j=>AX rfl dz) ?_)<;>(refine D_R rfl rfl (fun W j=>AX rfl dz) ?_)<;>(refine D_R rfl rfl (fun W j=>AG rfl dz) ?_)<;>(refine D_R rfl rfl (fun W j=>AB rfl dz) ?_)<;>(refine D_R rfl rfl (fun W j=>AH rfl (K W j) dz) ?_)<;>(apply D_R rfl rfl;(intro W j;refine Bt rfl rfl U U ?_;exact AA ⟨rfl,rfl,rfl⟩))<;>(refine D_R rfl rfl (fun W j=>AX rfl dz) ?_)<;>(refine D_R rfl rfl (fun W j=>AX rfl dz) ?_)<;>(refine D_R rfl rfl (fun W j=>AG rfl dz) ?_)<;>(refine D_R rfl rfl (fun W j=>AB rfl dz) ?_)<;>(refine D_R rfl rfl (fun W j=>AH rfl (K W j) dz) ?_)<;>(apply D_R rfl rfl;(intro W j;refine Bt rfl rfl U U ?_;exact AA ⟨rfl,rfl,rfl⟩))<;>(refine D_R rfl rfl (fun W j=>AX rfl dz) ?_)<;>(refine D_R rfl rfl (fun W j=>AX rfl dz) ?_))
 refine D_E rfl ?_;obtain⟨_,_,x,d⟩:=p 1 c rfl N s;cases x;refine AF d rfl ?_;rintro u2 w2⟨k,F⟩;obtain⟨q,rfl,C,a1⟩:=F.cells;obtain⟨x0,x1,x2,x3,x4,rfl⟩:=Ak C;have z2:=k.size;refine AA ⟨_,fun _ e=>e,(k).any,?_⟩;refine D_E rfl ?_;obtain⟨_,_,x,d⟩:=p 0 a rfl w2 (s.trans k);cases x;refine AF d rfl ?_;rintro u3 w3⟨i,H⟩;obtain⟨q,rfl,C,a2⟩:=H.cells;obtain⟨y0,y1,y2,y3,y4,rfl⟩:=Ak C;have z3:=i.size;refine AA ⟨_,fun _ e=>e,(k.trans i).any,?_⟩;refine D_E rfl ?_;refine AF (a0 w3 ((s.trans k).trans i)) rfl ?_;rintro u4 w4⟨l,I⟩;obtain⟨q,rfl,C,a3⟩:=I.cells;obtain⟨v0,v1,v2,v3,v4,rfl⟩:=Ak C;have z4:=l.size;refine AA ⟨_,fun _ e=>e,((k.trans i).trans l).any,?_⟩;refine D_E rfl ?_;refine AP (out:=[y0,y1,y2,y3,y4,v0,v1,v2,v3,v4]) rfl U Ei (fun w5 G=>?_);have z5:=G.size;refine AA ⟨_,fun _ e=>e,(((k.trans i).trans l).trans G.E).any,?_⟩;have R:=two_new (ok:=fun b=>P.heap.size<=b) G ((H.ext l).mono fun y E=>by omega) (I.mono fun y E=>by omega) U 5;refine D_E rfl ?_;refine AF (node_ok w5 5 _ _ _) rfl ?_;rintro _ w6⟨rfl,m⟩;have z6:=m.size;have S:=R.ext m;refine AA ⟨_,fun _ e=>e,((((k.trans i).trans l).trans G.E).trans m).any,?_⟩;refine D_E rfl ?_;refine AP (out:=[x0,x1,x2,x3,x4,iV 5,AL [],iV 0,iV 0,.slice (sm w4.heap.size) 2 2]) rfl U Ei (fun w7 n=>?_);have z7:=n.size;refine AA ⟨_,fun _ e=>e,(((((k.trans i).trans l).trans G.E).trans m).trans n.E).any,?_⟩;have T:=two_new (ok:=fun b=>P.heap.size<=b) n (((((F.ext i).ext l).ext G.E).ext m).mono fun y E=>by omega) S U 6;refine D_E rfl ?_;refine AF (node_ok w7 6 _ _ _) rfl ?_;rintro _ w8⟨rfl,g⟩;have Q:=(((((k.trans i).trans l).trans G.E).trans m).trans n.E).trans g;refine AA ⟨_,fun _ e=>e,(Q).any,?_⟩;refine D_E rfl ?_;refine AI (cs:=[iV 6,AL [],iV 0,iV 0,.slice (sm w6.heap.size) 2 2]) rfl rfl rfl (AV rfl) (A.D.E (M.trans Q) O) EV (fun w9 t=>?_);exact Fp
theorem rrel_ok(w:World)(r b o:Nat)(X:Vl)(f:Fml)(a c:Fml)(B:Option Addr)(D:Nat)(z:w.cell? ⟨b,o+4,none⟩=some (.slice B [a,c].length D))(p:ArgW w r X B [a,c])(a0:∀W,Ext w W->FnA W r X b o f):
  Fn Zp 228 [pt r,.pointer (some ⟨b,o,none⟩)] w fun u w'=>Ext w w'/\FAt (fun b=>w.heap.size<=b) w' u (opF 5 [rawF X c,opF 6 [rawF X a,aged X f]]):=by
 obtain⟨v,o',rfl,_⟩:=p 0 a rfl w (Ext.refl _);simp only[List.length_cons,List.length_nil]at z;refine AN Tryz.func228 rfl Tryz.ntmps228 (go ?_);refine AY (L:=zero5) (fun P A=>go ?_);have z1:=A.size;refine Ac (rd 0 6 (rd 7 6 (.read 14 (.read 15 (.alt 6 (.alt 13 (.alt 16 (.alt 17 (.alt 18 (.alt 19 (.alt 20 (.alt 21 .done .stop) .stop) .stop) .stop) .stop) .stop) .stop) .stop))))) Ap EO (fun N M ed=>⟨fun V=>Keep [w.heap.size] N V,?_,?_⟩)
 ·exact Ff
 have s:=A.E.trans M;have zd:=M.size;have Z:=World.block_lt_of_cell? w _ z;simp only at Z;have K:∀V,Keep [w.heap.size] N V->V.cell? ⟨b,o+4,none⟩=some (.slice (some ⟨v,o',none⟩) (0+1+1) D):=fun V e=>e.cell (s.cell z O) EP;((refine D_R rfl rfl (fun W j=>AX rfl dz) ?_)<;>(refine D_R rfl rfl (fun W j=>AX rfl dz) ?_)<;>(refine D_R rfl rfl (fun W j=>AG rfl dz) ?_)<;>(refine D_R rfl rfl (fun W j=>AB rfl dz) ?_)<;>(refine D_R rfl rfl (fun W j=>AH rfl (K W j) dz) ?_)<;>(apply D_R rfl rfl;(intro W j;refine Bt rfl rfl U U ?_;exact AA ⟨rfl,rfl,rfl⟩))<;>(refine D_R rfl rfl (fun W j=>AX rfl dz) ?_)<;>(refine D_R rfl rfl (fun W j=>AX rfl dz) ?_)<;>(refine D_R rfl rfl (fun W j=>AG rfl dz) ?_)<;>(refine D_R rfl rfl (fun W j=>AB rfl dz) ?_)<;>(refine D_R rfl rfl (fun W j=>AH rfl (K W j) dz) ?_)<;>(apply D_R rfl rfl;(intro W j;refine Bt rfl rfl U U ?_;exact AA ⟨rfl,rfl,rfl⟩))<;>(refine D_R rfl rfl (fun W j=>AX rfl dz) ?_)<;>(refine D_R rfl rfl (fun W j=>AX rfl dz) ?_))
 refine D_E rfl ?_;obtain⟨_,_,x,d⟩:=p 1 c rfl N s;cases x;refine AF d rfl ?_;rintro u2 w2⟨k,F⟩;obtain⟨q,rfl,C,a1⟩:=F.cells;obtain⟨x0,x1,x2,x3,x4,rfl⟩:=Ak C;have z2:=k.size;refine AA ⟨_,fun _ e=>e,(k).any,?_⟩;refine D_E rfl ?_;obtain⟨_,_,x,d⟩:=p 0 a rfl w2 (s.trans k);cases x;refine AF d rfl ?_;rintro u3 w3⟨i,H⟩;obtain⟨q,rfl,C,a2⟩:=H.cells;obtain⟨y0,y1,y2,y3,y4,rfl⟩:=Ak C;have z3:=i.size;refine AA ⟨_,fun _ e=>e,(k.trans i).any,?_⟩;refine D_E rfl ?_;refine AF (a0 w3 ((s.trans k).trans i)) rfl ?_;rintro u4 w4⟨l,I⟩;obtain⟨q,rfl,C,a3⟩:=I.cells;obtain⟨v0,v1,v2,v3,v4,rfl⟩:=Ak C;have z4:=l.size;refine AA ⟨_,fun _ e=>e,((k.trans i).trans l).any,?_⟩;refine D_E rfl ?_;refine AP (out:=[y0,y1,y2,y3,y4,v0,v1,v2,v3,v4]) rfl U Ei (fun w5 G=>?_);have z5:=G.size;refine AA ⟨_,fun _ e=>e,(((k.trans i).trans l).trans G.E).any,?_⟩;have R:=two_new (ok:=fun b=>P.heap.size<=b) G ((H.ext l).mono fun y E=>by omega) (I.mono fun y E=>by omega) U 6;refine D_E rfl ?_;refine AF (node_ok w5 6 _ _ _) rfl ?_;rintro _ w6⟨rfl,m⟩;have z6:=m.size;have S:=R.ext m;refine AA ⟨_,fun _ e=>e,((((k.trans i).trans l).trans G.E).trans m).any,?_⟩;refine D_E rfl ?_;refine AP (out:=[x0,x1,x2,x3,x4,iV 6,AL [],iV 0,iV 0,.slice (sm w4.heap.size) 2 2]) rfl U Ei (fun w7 n=>?_);have z7:=n.size;refine AA ⟨_,fun _ e=>e,(((((k.trans i).trans l).trans G.E).trans m).trans n.E).any,?_⟩;have T:=two_new (ok:=fun b=>P.heap.size<=b) n (((((F.ext i).ext l).ext G.E).ext m).mono fun y E=>by omega) S U 5;refine D_E rfl ?_;refine AF (node_ok w7 5 _ _ _) rfl ?_;rintro _ w8⟨rfl,g⟩;have Q:=(((((k.trans i).trans l).trans G.E).trans m).trans n.E).trans g;refine AA ⟨_,fun _ e=>e,(Q).any,?_⟩;refine D_E rfl ?_;refine AI (cs:=[iV 5,AL [],iV 0,iV 0,.slice (sm w6.heap.size) 2 2]) rfl rfl rfl (AV rfl) (A.D.E (M.trans Q) O) EV (fun w9 t=>?_);exact Fp
theorem rraw_of(w:World)(r:Nat)(S:List Sgn)(x:Int)(F:FuncId)[hF:AM Zp F](b o:Nat)(f g:Fml)(z:Rdr w r S x)(P:PF Af w b o f)(G:Dc f=false)(K:(rawT r).lookup f.op=some (mvR F r))
  (D:∀W,Ext w W->Fn Zp F [pt r,.pointer (some ⟨b,o,none⟩)] W fun u Z=>Ext W Z/\FAt (fun b=>W.heap.size<=b) Z u g):Fn Zp 229 [pt r,.pointer (some ⟨b,o,none⟩)] w fun u w'=>Ext w w'/\FAt (fun b=>w.heap.size<=b) w' u g:=by
 obtain⟨sa,sc,ra,rc,mt,H,l,hS,hv,a0,s⟩:=z;have m:=P.opc;have a2:=l.lt;have a1:=s.lt;have v:=World.block_lt_of_cell? w _ m;simp only at v;refine AN Tryz.func229 rfl Tryz.ntmps229 (go ?_);refine AY (L:=zero5) (fun Q A=>go ?_);refine AF (rpast_ok (dpF f) Q b o f (Nat.le_refl _) (P.E A.E (fun _ _=>by simp))) rfl ?_;rintro _ T⟨rfl,k⟩;have n:=A.E.trans k;have t:Blk T w.heap.size 37 zero5:=A.D.E k O;rw[G];refine go ?_;refine Ac (rd 0 10 (.alt 10 (.alt 11 .done .stop) .stop)) Ap EO (fun N M ed=>⟨fun V=>Keep [w.heap.size] N V,?_,?_⟩)
 ·exact Ff
 have R:=n.trans M;have d:∀V,Keep [w.heap.size] N V->V.cell? ⟨r,0+3,none⟩=some (.map (some H)):=fun V e=>e.cell ((l.E R O).cell rfl) EP;have I:∀V,Keep [w.heap.size] N V->V.cell? ⟨b,o+0,none⟩=some (iV f.op):=fun V e=>e.cell (R.cell m O) EP;((refine D_R rfl rfl (fun W j=>AX rfl dz) ?_)<;>(refine D_R rfl rfl (fun W j=>AG rfl dz) ?_)<;>(refine D_R rfl rfl (fun W j=>AB rfl dz) ?_)<;>(refine D_R rfl rfl (fun W j=>AH rfl (d W j) dz) ?_)<;>(refine D_R rfl rfl (fun W j=>AX rfl dz) ?_)<;>(refine D_R rfl rfl (fun W j=>AG rfl dz) ?_)<;>(refine D_R rfl rfl (fun W j=>AB rfl dz) ?_)<;>(refine D_R rfl rfl (fun W j=>AH rfl (I W j) dz) ?_))
 refine D_R rfl rfl (fun V p=>by refine W_lookupV rfl rfl ((s.E R O).E p EP) K ?_;exact AA ⟨rfl,rfl,rfl⟩) ?_;refine go ?_;refine D_E rfl ?_;refine A9 (v1:=[pt r]) (v2:=[]) (vs:=[.pointer (some ⟨b,o,none⟩)]) rfl (D N R) rfl ?_;rintro u w4⟨c,a⟩;obtain⟨q,rfl,C,B⟩:=a.cells;obtain⟨X,x1,x2,x3,x4,rfl⟩:=Ak C;refine AA ⟨_,fun _ e=>e,c.any,?_⟩;refine D_E rfl ?_;have zd:=R.size;have z1:=A.size;have zk:=k.size;have a3:=M.size;refine AI (cs:=[X,x1,x2,x3,x4]) rfl rfl rfl B ((t.E M O).E c O) EV (fun w9 i=>?_);refine AA ⟨_,fun _ e=>e,c.any.trans i.E (fun _ h _=>h),?_⟩;refine go ?_;exact AW rfl rfl rfl i.D.cells ⟨(R.trans c).E i.E O,(a.E i.E (fun y E s=>by simp at s;omega)).mono fun y E=>by omega⟩
theorem past_3{a:Fml}{i:Bool}(h:Dq i a=true)(R:a.op=3):Dc a=true:=by
 obtain⟨op,k,v,b,c⟩:=a;obtain⟨_,W,_,_⟩:=DH h;obtain rfl:op=3:=R;have M:=bare_arity W;have:c=[]:=List.eq_nil_of_length_eq_zero (by simpa[BX]using M);subst this;rfl
theorem bare_future{op v b:Int}{k:LU}{args:LF}{i:Bool}(h:Dq i (.mk op k v b args)=true)(y:Dc (.mk op k v b args)=false):op=5\/op=6\/op=8\/op=9\/op=10:=by
 obtain⟨Z,W,R,B⟩:=DH h;have M:=bare_arity W
 have t:op=1\/op=2\/op=3->False:=fun c=>by
  have:args=[]:=List.eq_nil_of_length_eq_zero (by rcases c with rfl|rfl|rfl<;>simpa[BX]using M);subst this;rcases c with rfl|rfl|rfl<;>simp[Dc,pastL]at y
 have K:op=15\/op=16\/op=17->False:=fun c=>by rw[past_of_pst h c]at y;cases y
 have H:op=4->False:=fun c=>by
  have F:=(sh_iff.1 (sh_bare h)).2.1.2.2.2.2 c;rw[Dc,pastL_of fun a D=>past_3 (B a D) (F a D)]at y;subst c;simp at y
 rcases loose_cases Z with h|h|h|h|h|h|h|h|h|h|h|h<;>first|exact(t U).elim|exact(K U).elim|exact(H h).elim|omega
theorem rraw_ok(y:World)(r:Nat)(S:List Sgn)(x:Int)(z:Rdr y r S x):∀(n:Nat)(w:World)(b o:Nat)(f:Fml),dpF f<=n->szF f<=1000->Ext y w->PF Af w b o f->Dq false f=true->isB (knS S) f=true->
  Fn Zp 229 [pt r,.pointer (some ⟨b,o,none⟩)] w fun u w'=>Ext w w'/\FAt (fun b=>w.heap.size<=b) w' u (rawF (vlS S x) f):=by
 have a3:=rnow_ok y r S x z;have Q:=raged_ok y r S x z;obtain⟨X,hX⟩:∃X,X=vlS S x:=⟨_,rfl⟩;rw[<-hX]at a3 Q⊢;intro n
 induction n with
 |zero=>intro w b o f s;rw[CX]at s;omega
 |succ n ih=>
 intro w b o f s T H P F R;have a6:=s;have a9:=T;have q:=z.ext H;obtain⟨C,p,a7,q0,q1,q2,q3,G,qa⟩:=P.all;have m:=P;cases hp:Dc f with
 |false=>
  obtain⟨op,Z,vl,N,h⟩:=f;obtain⟨b1,a8,_,a0⟩:=DH F;have M:=bare_arity a8;obtain⟨b0,a2⟩:=is_iff.1 R;have b2:=CE h;rw[CX]at s;rw[BL]at T;simp only[Fml.op,Fml.args]at s T a7 q0 G qa;have a1:=bare_future F hp;rw[raw_eq,if_neg (by rw[hp];exact Bool.false_ne_true)]
  have a5:ArgW w r X C h:=fun k a D W eW=>by
   obtain⟨v,o',e,d⟩:=qa k a D;have g:=List.mem_of_getElem? D;have h1:=Ce g;have h2:=Bb g;have h3:=a0 a g;rw[show(false||pstB op)=false by rcases a1 with rfl|rfl|rfl|rfl|rfl<;>rfl]at h3;exact⟨v,o',e,ih W v _ a U U (H.trans eW) (d.E eW (fun _ _=>by simp)) h3 (a2 a g)⟩
  have K:∀W,Ext w W->ArgW W r X C h:=fun W e k a D V j=>a5 k a D V (e.trans j);have a4:∀W,Ext w W->FnA W r X b o (.mk op Z vl N h):=fun W e=>Q (n+1) W b o _ false a6 a9 (H.trans e) (m.E e (fun _ _=>by simp)) F R;rcases a1 with rfl|rfl|rfl|rfl|rfl
  ·exact rraw_of w r S x 225 b o _ _ q m hp rfl fun W e=>rconn_ok W r b o X 5 h C p U (e.cell q0 O) (e.cell G O) (K W e)
  ·exact rraw_of w r S x 225 b o _ _ q m hp rfl fun W e=>rconn_ok W r b o X 6 h C p U (e.cell q0 O) (e.cell G O) (K W e)
  ·obtain⟨a,D⟩:=one_arg (l:=h) (by simpa[BX]using M);have g:a∈h:=by rw[D];simp
   have h1:=Ce g;have h2:=Bb g;obtain⟨v,o',e',d⟩:=qa 0 a (by rw[D];rfl);have E:rawOp 8 (aged X (.mk 8 Z vl N h)) (h.map (rawF X)) (h.map (aged X))=aged X a:=by rw[D];rfl
   rw[E];exact rraw_of w r S x 226 b o _ _ q m hp rfl fun W e=>rdnext_ok W r b o X h a C p (e.cell G O) D fun V j=>⟨v,o',e',Q n V v _ a _ U U (H.trans (e.trans j)) (d.E (e.trans j) (fun _ _=>by simp)) (a0 a g) (a2 a g)⟩
  ·obtain⟨a,c,D⟩:=two_args (l:=h) (by simpa[BX]using M);subst D;exact rraw_of w r S x 227 b o _ _ q m hp rfl fun W e=>runtil_ok W r b o X _ a c C p (e.cell G O) (K W e) fun V j=>a4 V (e.trans j)
  ·obtain⟨a,c,D⟩:=two_args (l:=h) (by simpa[BX]using M);subst D;exact rraw_of w r S x 228 b o _ _ q m hp rfl fun W e=>rrel_ok W r b o X _ a c C p (e.cell G O) (K W e) fun V j=>a4 V (e.trans j)
 |true=>
  have E:rawF X f=constF (Ck X f):=by
   obtain⟨op,Z,vl,N,h⟩:=f;rw[raw_eq,if_pos hp]
  rw[E];refine AN Tryz.func229 rfl Tryz.ntmps229 (go ?_);refine AY (L:=zero5) (fun w1 A=>go ?_);refine AF (rpast_ok (dpF f) w1 b o f (Nat.le_refl _) (P.E A.E (fun _ _=>by simp))) rfl ?_;rintro _ w2⟨rfl,k2⟩;have B:=A.E.trans k2;have b4:Blk w2 w.heap.size 37 zero5:=A.D.E k2 O;rw[hp];refine go ?_;refine AF (a3 (dpF f) w2 b o f false (Nat.le_refl _) (H.trans B) (P.E B (fun _ _=>by simp)) F hp R) rfl ?_;rintro _ w3⟨rfl,I⟩;cases Ck X f with
  |true=>
   refine go ?_;refine AF (node_ok w3 1 none 0 0) rfl ?_;rintro _ w4⟨rfl,t⟩;refine AI (cs:=[iV 1,AL [],iV 0,iV 0,.slice none 0 0]) rfl rfl rfl (AV rfl) ((b4.E I O).E t O) EV (fun w9 i=>go ?_);exact AW rfl rfl rfl i.D.cells ⟨((B.trans I).trans t).E i.E O,FAt.leaf _ _ 1 [] 0 0⟩
  |false=>
   refine go ?_;refine AF (node_ok w3 2 none 0 0) rfl ?_;rintro _ w4⟨rfl,t⟩;refine AI (cs:=[iV 2,AL [],iV 0,iV 0,.slice none 0 0]) rfl rfl rfl (AV rfl) ((b4.E I O).E t O) EV (fun w9 i=>go ?_);exact AW rfl rfl rfl i.D.cells ⟨((B.trans I).trans t).E i.E O,FAt.leaf _ _ 2 [] 0 0⟩
end
def canG(f:Fml):Fml:=if CB f=true then BR f else Am
theorem Dh{f:Fml}(h:CB f=true):szF f<=400/\dpF f<=60/\Dq false f=true:=by
 simp only[CB,Bool.and_eq_true,decide_eq_true_eq]at h;obtain⟨⟨Z,W⟩,R⟩:=h;rw[bareG_eq U]at R;exact⟨Z,W,R⟩
theorem Canon_ok(w:World)(v:Value)(f:Fml)(P:FAt Af w v f)(X:GF w)(H:KY w)(S:10<=w.heap.size):Fn Zp 53 [v] w fun u w'=>Ext w w'/\FAt (fun b=>w.heap.size<=b/\Unm w' b) w' u (canG f):=by
 obtain⟨c,rfl,D,e⟩:=P.cells;obtain⟨l,t,j,s,r,rfl⟩:=Ak D;refine AN Tryz.func53 rfl Tryz.ntmps53 (go ?_);refine A3 (L:=[l,t,j,s,r]) rfl (fun T A=>?_);refine AY (L:=zero5) (fun N W=>go ?_);have Z:=A.size;have Q:=A.E.trans W.E;have n:Blk N w.heap.size 37 [l,t,j,s,r]:=A.D.E W.E O;have B:=W.D;have h:PF Af N w.heap.size 0 f:=⟨trivial,_,rfl,n.cells,P.ext Q⟩;refine go ?_;refine AF (loose_ok N w.heap.size 0 f h (X.ext Q) (H.E Q O) (Nat.le_trans S Q.size)) rfl ?_;rintro _ z⟨rfl,d⟩;have R:=B.E d O;unfold canG;cases hl:CB f with
 |false=>
  rw[if_neg Bool.false_ne_true];refine go ?_;refine AI (cs:=zero5) rfl rfl rfl (AV rfl) R EV (fun G i=>go ?_);exact AW rfl rfl rfl i.D.cells ⟨(Q.trans d).E i.E EP,FAt.leaf _ _ 0 [] 0 0⟩
 |true=>
  rw[if_pos rfl];obtain⟨M,K,o⟩:=Dh hl;refine go ?_;refine AF (canon_ok 60 z w.heap.size 0 f K U (h.E d (fun _ _=>by simp)) (sh_bare o)) rfl ?_;rintro u V⟨k,a⟩;obtain⟨q,rfl,C,e⟩:=a.cells;obtain⟨m,p,x,I,g,rfl⟩:=Ak C;have z3:=Q.size;have a0:=d.size;have z2:=W.size;refine AI (cs:=[m,p,x,I,g]) rfl rfl rfl e (R.E k O) EV (fun G i=>go ?_);exact AW rfl rfl rfl i.D.cells ⟨((Q.trans d).trans k).E i.E EP,(a.unm i.E (fun y E F=>by rw[List.mem_singleton]at F;omega)).mono fun y E=>⟨by omega,E.2⟩⟩
def resG(x:Vl)(f:Fml):Fml:=canG (rawF x f)
theorem resid_ok(w:World)(r:Nat)(S:List Sgn)(x:Int)(z:Rdr w r S x)(b o:Nat)(f:Fml)(K:CB f=true)(F:isB (knS S) f=true)(P:PF Af w b o f)(X:GF w)(H:KY w)(D:10<=w.heap.size):
  Fn Zp 173 [pt r,.pointer (some ⟨b,o,none⟩)] w fun u w'=>Ext w w'/\FAt (fun b=>w.heap.size<=b/\Unm w' b) w' u (resG (vlS S x) f):=by
 obtain⟨l1,I,M⟩:=Dh K;refine AN Tryz.func173 rfl Tryz.ntmps173 (go ?_);refine AY (L:=zero5) (fun Q A=>go ?_);have z1:=A.size;refine go ?_;refine AF (rraw_ok w r S x z 60 Q b o f I U A.E (P.E A.E (fun _ _=>by simp)) M F) rfl ?_;rintro u l⟨e,N⟩;obtain⟨q,rfl,C,i⟩:=N.cells;obtain⟨n,c,j,s,B,rfl⟩:=Ak C;refine AY (L:=zero5) (fun w3 k=>?_);refine AI (cs:=[n,c,j,s,B]) rfl rfl rfl i k.D EV (fun v p=>go ?_);have b5:Blk v l.heap.size 37 [n,c,j,s,B]:=p.D;have W:Ext l v:=k.E.E p.E O;have g:=(A.E.trans e).trans W;have t:Blk v w.heap.size 37 zero5:=A.D.E (e.trans W) O;refine go ?_;refine AF (Canon_ok v _ _ ((N.ext W).mono fun _ _=>trivial) (X.ext g) (H.E g O) (Nat.le_trans D g.size)) rfl ?_;rintro u w5⟨h,d⟩;obtain⟨q,rfl,C,i⟩:=d.cells;obtain⟨m,R,T,V,Z,rfl⟩:=Ak C;have z4:=g.size;have z2:=e.size;have a0:=W.size;refine AI (cs:=[m,R,T,V,Z]) rfl rfl rfl i (t.E h O) EV (fun w9 a=>go ?_);exact AW rfl rfl rfl a.D.cells ⟨(g.trans h).E a.E O,(d.unm a.E (fun y E G=>by rw[List.mem_singleton]at G;omega)).mono fun y E=>⟨by omega,E.2⟩⟩
def looseP(f:Fml):Bool:=kernG f||decide ((canG f).op≠0)
theorem rloose_ok(w:World)(b o:Nat)(f:Fml)(P:PF Af w b o f)(X:GF w)(H:KY w)(S:10<=w.heap.size):Fn Zp 214 [.pointer (some ⟨b,o,none⟩)] w fun u w'=>u=.bool (looseP f)/\Ext w w':=by
 have h:=P;obtain⟨_,d,g,C,K⟩:=P;obtain⟨a,c,j,s,r,rfl⟩:=Ak g;refine AN Tryz.func214 rfl Tryz.ntmps214 (go ?_);refine AQ (L:=[a,c,j,s,r]) rfl rfl C ?_;refine AF (iskernel_ok w _ f K X H S) rfl ?_;rintro _ Q⟨rfl,Z⟩;unfold looseP;cases hkf:kernG f with
 |true=>
  exact Fh
 |false=>
  refine go ?_;refine AQ (L:=[a,c,j,s,r]) rfl rfl (C.E Z O) (go ?_);refine AF (Canon_ok Q _ f (K.ext Z) (X.ext Z) (H.E Z O) (Nat.le_trans S Z.size)) rfl ?_;rintro u i⟨e,N⟩;obtain⟨W,rfl,_⟩:=N.form;refine go ?_;refine W_field (L:=[iV (canG f).op,AL (canG f).name,iV (canG f).val,iV (canG f).bound,W]) rfl rfl ?_;by_cases t:(canG f).op=0
  ·rw[decide_eq_false U];exact F9
  ·rw[decide_eq_true t];exact F9
def conF(op:Int)(l:LF):Fml:=if l.all CB=true then(if CB (joinM op (l.map BR))=true then joinM op (l.map BR)else Am)else Am
theorem sz_cons:∀{l:LF},(∀x∈l,CB x=true)->szL (l.map BR)<=400*l.length
 | [],_=>by simp[szL]
 |a::l,h=>by
  obtain⟨Z,_,R⟩:=Dh (h a O);have B:=canon_sz (sh_bare R);have d:=sz_cons fun x V=>h x (List.mem_cons_of_mem _ V);simp only[List.map_cons,szL,List.length_cons];omega
theorem connect_ok(w:World)(op:Int)(a8:op=5\/op=6)(a:Option Addr)(cap:Nat)(l:LF)(hl:SlAt fmlR Af w (.slice a l.length cap) l)(hn:l.length<=200\/szL l<=1000)(X:GF w)(hK:KY w)(hN:10<=w.heap.size):
  Fn Zp 100 [iV op,.slice a l.length cap] w fun u w'=>Ext w w'/\FAt (fun b=>w.heap.size<=b/\Unm w' b) w' u (conF op l):=by
 have hln:=CE l;refine AN Tryz.func100 rfl Tryz.ntmps100 (go ?_);refine AY (L:=zero5) (fun w1 K=>?_);have z1:=K.size;have b1:=K.D;refine go ?_
 refine Ar (α:=Nat) (fun k=>[(0,iV op),(1,.slice a l.length cap),(4,pt w.heap.size),(8,iV (l.length:Int)),(9,iV (k:Int))])
  (fun k W=>k<=l.length/\Ext w W/\Blk W w.heap.size 37 zero5/\(∀x∈l.take k,CB x=true)/\w.heap.size<W.heap.size) (fun k=>l.length-k) 0 ag ⟨by omega,K.E,b1,by simp,by omega⟩ ?_
 rintro k W fr⟨hk,q,F,j,b2⟩;refine go ?_;by_cases D:k<l.length
 ·obtain⟨b,o,x0,x1,x2,x3,x4,rfl,T,t⟩:=hl.c5 D;obtain⟨x,d⟩:=gl D;rw[List.getD_eq_getElem?_getD,d]at t;have a7:=List.mem_of_getElem? d;refine go ?_;refine AF (loose_ok W b (o+k*5) x ⟨trivial,_,rfl,T.E q O,t.ext q⟩ (X.ext q) (hK.E q O) (Nat.le_trans hN q.size)) rfl ?_;rintro _ z⟨rfl,i⟩;have I:=q.trans i;have z3:=i.size;cases hx3:CB x with
  |false=>
   have s:conF op l=Am:=by
    unfold conF;rw[if_neg];intro h;rw[List.all_eq_true.1 h x a7]at hx3;cases hx3
   rw[s];refine go ?_;refine AI (cs:=zero5) rfl rfl rfl (AV rfl) (F.E i O) EV (fun w9 C=>go ?_);exact AW rfl rfl rfl C.D.cells ⟨(I).E C.E mSx,(FAt.leaf _ _ 0 [] 0 0).mono fun _ h=>h⟩
  |true=>
   refine go ?_;refine⟨k+1,⟨rfl,ag,⟨by omega,I,F.E i O,?_,by omega⟩⟩,by omega⟩;intro y E;rw[List.take_add_one,d]at E;rcases List.mem_append.1 E with E|E
   ·exact j y E
   ·simp at E;rw[E];exact hx3
 ·obtain rfl:k=l.length:=by omega
  rw[List.take_length]at j
  have a6:ArgC W a l:=fun k x d V kV=>by
   have D:=(List.getElem?_eq_some_iff.1 d).1;obtain⟨b,o,x0,x1,x2,x3,x4,rfl,T,t⟩:=hl.c5 D;rw[List.getD_eq_getElem?_getD,d]at t;obtain⟨l1,l2,l3⟩:=Dh (j x (List.mem_of_getElem? d));exact⟨b,o,rfl,canon_ok 60 V b (o+k*5) x l2 U ⟨trivial,_,rfl,T.E (q.trans kV) O,t.ext (q.trans kV)⟩ (sh_bare l3)⟩
  refine go ?_;refine AF (canons_ok W l a cap U a6) rfl ?_;rintro _ N⟨e,g,rfl,a5⟩;have z2:=e.size
  have b3:szL (l.map BR)<=80000:=by
   have h1:=sz_cons j;have h2:=szL_map BR l fun x d=>canon_sz (sh_bare (Dh (j x d)).2.2);omega
  have a3:(l.map BR).length=l.length:=by simp
  have a9:∀x∈l.map BR,Sh x:=fun x d=>by
   obtain⟨y,E,rfl⟩:=List.mem_map.1 d;exact cf_sh (canon_cf (sh_bare (Dh (j y E)).2.2))
  have hj:=join_ok N op a8 (sm g) l.length (l.map BR) (fun b=>(W.heap.size<=b/\Unm N b)/\b<N.heap.size) (by rw[a3];exact SlAt.lt En a5) (fun b S=>S.1.2) U a9;rw[a3]at hj;refine go ?_;refine AF hj rfl ?_;rintro u z⟨i,n⟩;have z3:=i.size
  have n:FAt (fun b=>W.heap.size<=b/\Unm z b) z u (joinM op (l.map BR)):=by
   obtain⟨v,rfl,a2,H⟩:=n.cells;exact n.mono fun b S=>S.elim (fun h=>⟨h.1.1,h.1.2.eq (i.block b h.2 O)⟩) fun h=>⟨by omega,h.2⟩
  obtain⟨v,rfl,a2,H⟩:=n.cells;obtain⟨P,p,Q,R,Z,rfl⟩:=Ak a2;obtain⟨G,f⟩:∃G,G=joinM op (l.map BR):=⟨_,rfl⟩;rw[<-f]at n
  have s:conF op l=if CB G=true then G else Am:=by
   unfold conF;rw[if_pos (List.all_eq_true.2 j),f]
  rw[s];refine AY (L:=zero5) (fun w7 n7=>?_);refine AI (cs:=[P,p,Q,R,Z]) rfl rfl rfl H n7.D EV (fun m p8=>?_);have A:Ext z m:=n7.E.E p8.E O;have z8:=A.size;have a1:Blk m z.heap.size 37 [P,p,Q,R,Z]:=p8.D;have B:Ext w m:=((q.trans e).trans i).trans A;have a4:=F.E ((e.trans i).trans A) O;have c:=n.unm A (fun _ _=>by simp);refine go ?_;refine AF (loose_ok m z.heap.size 0 G ⟨trivial,_,rfl,a1.cells,c.mono fun _ _=>trivial⟩ (X.ext B) (hK.E B O) (Nat.le_trans hN B.size)) rfl ?_;rintro _ w9⟨rfl,r⟩;have z9:=r.size;have a0:=a4.E r O;have b0:=a1.E r O;cases hGl:CB G with
  |false=>
   rw[if_neg Bool.false_ne_true];refine go ?_;refine AI (cs:=zero5) rfl rfl rfl (AV rfl) (a0) EV (fun w9 C=>go ?_);exact AW rfl rfl rfl C.D.cells ⟨(B.trans r).E C.E mSx,(FAt.leaf _ _ 0 [] 0 0).mono fun _ h=>h⟩
  |true=>
   rw[if_pos rfl];refine go ?_;refine AI (cs:=[P,p,Q,R,Z]) rfl rfl rfl H a0 EV (fun b4 M=>go ?_);exact AW rfl rfl rfl M.D.cells ⟨(B.trans r).E M.E mSx,((c.unm r (fun _ _=>by simp)).unm M.E (fun y E s=>by rw[List.mem_singleton]at s;omega)).mono fun y E=>⟨by omega,E.2⟩⟩
theorem andor_ok(w:World)(op:Int)(a:Option Addr)(cap:Nat)(l:LF)(K:SlAt fmlR Af w (.slice a l.length cap) l)(I:l.length<=200\/szL l<=1000)(X:GF w)(H:KY w)(S:10<=w.heap.size):
  Fn Zp 39 [.slice a l.length cap] w (fun u w'=>Ext w w'/\FAt (fun b=>w.heap.size<=b/\Unm w' b) w' u (conF 5 l))/\Fn Zp 40 [.slice a l.length cap] w fun u w'=>Ext w w'/\FAt (fun b=>w.heap.size<=b/\Unm w' b) w' u (conF 6 l):=by
 constructor
 ·refine AN Tryz.func39 rfl Tryz.ntmps39 (go ?_);refine AY (L:=zero5) (fun Q A=>go ?_);refine AF (connect_ok Q 5 (.inl rfl) a cap l (K.ext A.E) I (X.ext A.E) (H.E A.E O) (Nat.le_trans S A.E.size)) rfl ?_;exact FY
 ·refine AN Tryz.func40 rfl Tryz.ntmps40 (go ?_);refine AY (L:=zero5) (fun Q A=>go ?_);refine AF (connect_ok Q 6 (.inr rfl) a cap l (K.ext A.E) I (X.ext A.E) (H.E A.E O) (Nat.le_trans S A.E.size)) rfl ?_;exact FY
mutual
def allNd(p:Fml->Bool):Fml->Bool
 | .mk op nm v b args=>p (.mk op nm v b args)&&allNdL p args
def allNdL(p:Fml->Bool):LF->Bool
 | []=>true
 |a::l=>allNd p a&&allNdL p l
end
theorem allNdL_iff(p:Fml->Bool):∀{l:LF},allNdL p l=true↔∀a∈l,allNd p a=true
 | []=>by simp[allNdL]
 |a::l=>by rw[allNdL,Bool.and_eq_true,allNdL_iff p];simp
theorem allNd_eq(p:Fml->Bool)(f:Fml):allNd p f=(p f&&allNdL p f.args):=by cases f;rfl
structure TnG(yv:Value)(X:List Nat)(B N:Nat)(p:Fml->Bool)(J D:World->Prop):Prop where
 fn:∃y,yv=.func (.yield y) #[] #[]
 ext:∀{W W':World},J W->Ext W W'->J W'
 step:∀{W:World}{b o:Nat}{f:Fml},J W->PF (fun b=>b∉X/\b<B) W b o f->szF f<=N->YldP Zp yv [.pointer (some ⟨b,o,none⟩)] W (fun v W'=>v=.bool (p f)/\Keep X W W'/\if p f=true then J W' else D W') fun _ _=>False
abbrev tvV(B Q:Nat):Value:=.func (.func 201) #[] #[pt B,pt Q]
theorem gvisit_ok{T:Value}{X:List Nat}{B N:Nat}{p:Fml->Bool}{i D:World->Prop}(H:TnG T X B N p i D)(d Q:Nat)(E:d∉X)(t:Q∉X):∀(n:Nat)(w:World)(b o:Nat)(f:Fml),dpF f<=n->szF f<=N->PF (fun b=>b∉X/\b<B) w b o f->
  Blk w d 154 [T]->Blk w Q 154 [tvV d Q]->i w->
  Fn Zp 201 [.pointer (some ⟨b,o,none⟩),pt d,pt Q] w fun v w'=>v=.bool (allNd p f)/\Keep X w w'/\if allNd p f=true then i w' else D w':=by
 intro n
 induction n with
 |zero=>intro w b o f I;rw[CX]at I;omega
 |succ n ih=>
 intro w b o f I hz G b1 b2 hJ;rw[CX]at I;have hzz:=BL f;obtain⟨y,rfl⟩:=H.fn;rw[allNd_eq];refine AN Tryz.func201 rfl Tryz.ntmps201 (go ?_);refine W_yield rfl rfl (H.step hJ G hz) ?_;rintro _ w1⟨rfl,Z,j⟩;have R:=G.E Z (fun _ h=>h.1);have b11:=b1.E Z E;have a1:=b2.E Z t;obtain⟨a0,a6,a7,a8,_⟩:=R.arg;cases hp:p f with
 |false=>
  rw[hp,if_neg Bool.false_ne_true]at j;rw[Bool.false_and];refine go ?_;exact AC rfl ⟨rfl,Z,by rw[if_neg Bool.false_ne_true];exact j⟩
 |true=>
 rw[hp,if_pos rfl]at j;rw[Bool.true_and];refine go ?_;refine Ar (α:=Nat) (fun k=>[(0,.pointer (some ⟨b,o,none⟩)),(1,pt d),(2,pt Q),(14,iV (f.args.length:Int)),(15,iV (k:Int))]) (fun k W=>k<=f.args.length/\Keep X w W/\i W/\PF (fun b=>b∉X/\b<B) W b o f/\Blk W d 154 [.func (.yield y) #[] #[]]/\Blk W Q 154 [tvV d Q]/\∀a∈f.args.take k,allNd p a=true) (fun k=>f.args.length-k) 0 ag ⟨by omega,Z,j,R,b11,a1,by simp⟩ ?_;rintro k W fr⟨b0,q,F,P,u,s,z⟩;refine go ?_;by_cases a5:k<f.args.length
 ·obtain⟨x,A⟩:=gl a5;obtain⟨aa,cc,_,a2,a3⟩:=P.arg;obtain⟨r,C,rfl,a4⟩:=a3 k x A;have L:=List.mem_of_getElem? A;have a9:=Ce L;have hzx:=Bb L;refine go ?_;refine Ac (rd 0 7 (.alt 7 (.read 8 .done) .stop)) Ap EO (fun m M ed=>⟨Keep X m,?_,?_⟩)
  ·exact Ff
  have ca:∀V,Keep X m V->V.cell? ⟨Q,0,none⟩=some (tvV d Q):=fun V e=>((s.E M O).E e t).cell rfl;have cb:∀V,Keep X m V->V.cell? ⟨b,o+4,none⟩=some (.slice (some ⟨r,C,none⟩) f.args.length cc):=fun V e=>e.cell (M.cell a2 O) P.1.1;refine go ?_;refine D_E rfl ?_;refine A9 (v1:=[]) (v2:=[pt d,pt Q]) (vs:=[.pointer (some ⟨r,C+k*5,none⟩)]) rfl (ih m r (C+k*5) x U U (a4.E M (fun _ _=>by simp)) (u.E M O) (s.E M O) (H.ext F M)) rfl ?_;rintro _ w4⟨rfl,c,l⟩;refine wNl c ?_;have S:=(q.trans M (fun x h=>by cases h)).trans c (fun x h _=>h);refine go ?_;cases hpx:allNd p x with
  |false=>
   rw[hpx,if_neg Bool.false_ne_true]at l
   have K:allNdL p f.args=false:=by
    rw[<-Bool.not_eq_true,allNdL_iff];intro h;rw[h x L]at hpx;cases hpx
   rw[K];refine go ?_;exact AC rfl ⟨rfl,S,by rw[if_neg Bool.false_ne_true];exact l⟩
  |true=>
   rw[hpx,if_pos rfl]at l;refine go ?_;refine⟨k+1,⟨rfl,ag,⟨by omega,S,l,(P.E M (fun _ _=>by simp)).E c (fun _ h=>h.1),(u.E M O).E c E,(s.E M O).E c t,fun a g=>?_⟩⟩,by omega⟩;rw[List.take_add_one,A]at g;rcases List.mem_append.1 g with g|g
   ·exact z a g
   ·simp at g;rw[g];exact hpx
 ·obtain rfl:k=f.args.length:=by omega
  rw[List.take_length]at z;have K:=(allNdL_iff p).2 z;rw[K];refine go ?_;exact AC rfl ⟨rfl,q,by rw[if_pos rfl];exact F⟩
theorem gnodesIt_ok{K:Value}{X:List Nat}{N:Nat}{p:Fml->Bool}{a D:World->Prop}(w:World)(k b o:Nat)(f:Fml)(H:TnG K X w.heap.size N p a D)(d:Blk w k 89 [.pointer (some ⟨b,o,none⟩)])(P:PF (fun b=>b∉X/\b<w.heap.size) w b o f)(r:szF f<=N)(R:a w)(q:∀x∈X,x<w.heap.size):
  Fn Zp 200 [K,pt k] w fun _ w'=>Keep X w w'/\if allNd p f=true then a w' else D w':=by
 have e:∀{c:Nat},w.heap.size<=c->c∉X:=fun h V=>by have:=q _ V;omega
 obtain⟨y,rfl⟩:=H.fn;refine AN Tryz.func200 rfl Tryz.ntmps200 (go ?_);refine A3 (L:=[.func (.yield y) #[] #[]]) rfl (fun Q A=>go ?_);refine AY (fun u W=>go ?_);refine AU (v:=tvV w.heap.size Q.heap.size) rfl rfl rfl W.D O (fun z g=>?_);have m:=A.size;have C:=W.size;have F:=g.size;have S:Ext Q z:=W.E.E g.E O;have i:Ext w z:=A.E.trans S;have j:Blk z w.heap.size 154 [.func (.yield y) #[] #[]]:=A.D.E S O;have n:Blk z Q.heap.size 154 [tvV w.heap.size Q.heap.size]:=g.D;have t:=(d.E i O).cell (o:=0) rfl;refine go ?_;refine A9 (v1:=[]) (v2:=[pt w.heap.size,pt Q.heap.size]) (vs:=[.pointer (some ⟨b,o,none⟩)]) rfl (gvisit_ok H w.heap.size Q.heap.size (e (Nat.le_refl _)) (e U) (dpF f) z b o f (Nat.le_refl _) r (P.E i (fun _ _=>by simp)) j n (H.ext R i)) rfl ?_;rintro _ B⟨rfl,s,l⟩;refine go ?_;exact A1 rfl ⟨(i.any:Keep X w z).trans s (fun y E _=>E),l⟩
theorem gnodes_ok(w:World)(b o:Nat):Fn Zp 142 [.pointer (some ⟨b,o,none⟩)] w fun v w'=>v=.func (.func 200) #[] #[pt w.heap.size]/\New w w' 89 [.pointer (some ⟨b,o,none⟩)]:=by
 refine AN Tryz.func142 rfl Tryz.ntmps142 (go ?_);refine A3 (L:=[.pointer (some ⟨b,o,none⟩)]) rfl (fun Q A=>go ?_);exact AC rfl ⟨rfl,A⟩
def isPstE(op:Int):Bool:=decide (op=15)||decide (op=16)||decide (op=17)||decide (op=18)||decide (op=19)
def ndOk(S:List Sgn)(f:Fml):Bool:=if f.op=3 then knS S f.name f.val else if isPstE f.op=true then f.args.all pastG else true
theorem find_cases(S:List Sgn)(k:LU):(findM S k= -1/\∀v,knS S k v=false)\/∃(i:Nat)(s:Sgn),findM S k=(i:Int)/\S[i]?=some s/\∀v,knS S k v=decide (v<s.size):=by
 unfold findM knS;cases hi:S.findIdx? (fun y=>decide (y.name=k))with
 |none=>exact .inl ⟨rfl,fun _=>rfl⟩
 |some i=>
  obtain⟨x, -⟩:=List.findIdx?_eq_some_iff_getElem.1 hi;refine .inr ⟨i,S[i],rfl,List.getElem?_eq_getElem x,fun v=>?_⟩;simp[List.getElem?_eq_getElem x]
theorem gnodeErr_ok(w:World)(X:Option Addr)(n:Nat)(S:List Sgn)(b o:Nat)(f:Fml)(l:SlAt sgnR Af w (.slice X S.length n) S)(P:PF Af w b o f)(G:GF w)(H:10<=w.heap.size)(C:dpF f<=5000):Fn Zp 143 [.slice X S.length n,.pointer (some ⟨b,o,none⟩)] w fun u w'=>∃e:Int,u=iV e/\Ext w w'/\(e=0↔ndOk S f=true):=by
 obtain⟨aa,cc,a5,q0,q1,q2,q3,q4,qa⟩:=P.all;unfold ndOk;refine AN Tryz.func143 rfl Tryz.ntmps143 (go ?_);by_cases R:f.op=3
 ·rw[if_pos R];refine go ?_;refine AF (sigFind_ok w _ S f.name l) rfl ?_;rintro _ w5⟨rfl,rfl⟩;rcases find_cases S f.name with⟨t,L⟩|⟨i,s,t,F,L⟩
  ·rw[t,L];refine go ?_;exact AC rfl ⟨70,rfl,Ext.refl _,by simp⟩
  ·rw[t,L];have a3:=(List.getElem?_eq_some_iff.1 F).1;obtain⟨_,sb,so,rfl,_,j⟩:=l.sig F;have Q:=j 2 _ rfl;refine go ?_;refine Ac (rd 0 10 .done) Ap EO (fun N M ed=>⟨Ext N,?_,?_⟩)
   ·exact FQ
   have s1:N.cell? ⟨b,o+2,none⟩=some (iV f.val):=M.cell q2 O;have s2:N.cell? ⟨sb,so+i*3+2,none⟩=some (iV s.size):=M.cell Q O;by_cases p:f.val<s.size
   ·refine go ?_;exact AC rfl ⟨0,rfl,M,by simp[p]⟩
   ·refine go ?_;exact AC rfl ⟨71,rfl,M,by simp[p]⟩
 rw[if_neg R];cases y:isPstE f.op with
 |false=>
  rw[if_neg Bool.false_ne_true];have y:=y;simp only[isPstE,Bool.or_eq_false_iff,decide_eq_false_iff_not]at y;obtain⟨⟨⟨⟨z,A⟩,B⟩,E⟩,a1⟩:=y;refine go ?_;exact AC rfl ⟨0,rfl,Ext.refl _,by simp⟩
 |true=>
  rw[if_pos rfl];refine mO1 ?_;refine mO1 ?_;refine mO1 ?_;iterate 4 (first|refine nx rfl ?_|refine nf rfl ?_)
  refine CA (α:=Unit) (fun _=>[(0,.slice X S.length n),(1,.pointer (some ⟨b,o,none⟩)),(31,.bool true)]) (fun _ W=>W=w) ?_ ?_
  ·have y:=y;simp only[isPstE,Bool.or_eq_true,decide_eq_true_eq]at y;by_cases z:f.op=15
   ·exact FK
   by_cases A:f.op=16
   ·exact FK
   by_cases B:f.op=17
   ·exact FK
   by_cases E:f.op=18
   ·exact FK
   exact FK
  rintro _ _ f3 I;rw[I];clear I;refine go ?_;refine Ar (α:=Nat) (fun k=>[(0,.slice X S.length n),(1,.pointer (some ⟨b,o,none⟩)),(41,iV (f.args.length:Int)),(42,iV (k:Int))]) (fun k W=>k<=f.args.length/\Ext w W/\∀a∈f.args.take k,pastG a=true) (fun k=>f.args.length-k) 0 ag ⟨by omega,Ext.refl _,by simp⟩ ?_;rintro k W fr⟨a4,q,r⟩;have a6:=q.cell q4 O;refine go ?_;by_cases a0:k<f.args.length
  ·obtain⟨x,V⟩:=gl a0;obtain⟨b',o',rfl,m⟩:=qa k x V;have v:=List.mem_of_getElem? V;have a2:=Ce v;rw[CX]at C;obtain⟨_,x5,d,T,g⟩:=m;obtain⟨x0,x1,x2,x3,x4,rfl⟩:=Ak d;have Z:=T.E q O;refine go ?_;refine AQ rfl EQ Z ?_;refine AF (fpast_ok W _ x (g.ext q) (G.ext q) (Nat.le_trans H q.size) U) rfl ?_;rintro _ w4⟨rfl,c⟩;cases m:pastG x with
   |false=>
    have K:f.args.all pastG=false:=by
     rw[<-Bool.not_eq_true,List.all_eq_true];intro h;rw[h x v]at m;cases m
    rw[K];refine go ?_;exact AC rfl ⟨72,rfl,q.trans c,by simp⟩
   |true=>
    refine go ?_;refine⟨k+1,⟨rfl,ag,⟨by omega,q.trans c,fun a D=>?_⟩⟩,by omega⟩;rw[List.take_add_one,V]at D;rcases List.mem_append.1 D with D|D
    ·exact r a D
    ·simp at D;rw[D];exact m
  ·obtain rfl:k=f.args.length:=by omega
   rw[List.take_length]at r;refine go ?_;exact AC rfl ⟨0,rfl,q,by simpa using r⟩
def fmOk(S:List Sgn)(f:Fml):Bool:=Bk S&&validG f&&allNd (ndOk S) f&&decide ((kernR f).2=0)
theorem gtyping_ok(w:World)(sa:Option Addr)(sc:Nat)(S:List Sgn)(v:Value)(f:Fml)(hS:SlAt sgnR Af w (.slice sa S.length sc) S)(hf:FAt Af w v f)(hG:GF w)(hK:KY w)(hN:10<=w.heap.size):
  Fn Zp 95 [.slice sa S.length sc,v] w fun u w'=>∃e:Int,u=iV e/\Ext w w'/\(e=0↔fmOk S f=true):=by
 have b2:=hf.lt;obtain⟨c,rfl,b0,c3⟩:=hf.cells;obtain⟨x0,x1,x2,x3,x4,rfl⟩:=Ak b0;unfold fmOk;refine DC Tryz.func95 rfl Tryz.ntmps95 nlr EO (go ?_);refine A3 (L:=[.slice sa S.length sc]) rfl (fun w1 n1=>?_);refine A3 (L:=[x0,x1,x2,x3,x4]) rfl (fun B n2=>?_);refine AY (fun w3 n3=>?_);have z1:=n1.size;have z2:=n2.size;have z3:=n3.size;have a4:=n2.E.trans n3.E;have k3:Ext w w3:=n1.E.trans a4;have bs:=n1.D.E a4 O;have bf:=n2.D.E n3.E O;have be:Blk w3 B.heap.size 28 [iV 0]:=n3.D;refine go ?_;refine AF (sigValid_ok w3 _ S (hS.ext k3) (hK.E k3 O)) rfl ?_;rintro _ w4⟨rfl,K⟩;have z4:=K.size;have g:=k3.trans K;have c0:=bf.E K O;have a9:=be.E K O;cases hv:Bk S with
 |false=>
  refine go ?_;refine AU (v:=iV 1) rfl rfl rfl (a9) O (fun F i=>go ?_);exact BF (A7 rfl (i.D.cell (o:=0) rfl) ⟨1,rfl,g.E i.E EP,by simp⟩)
 |true=>
 refine go ?_;refine AF (fvalid_ok w4 _ f (hf.ext g) (hG.ext g) (hK.E g O) (Nat.le_trans hN g.size)) rfl ?_;rintro _ w5⟨rfl,k5⟩;have z5:=k5.size;have e5:=g.trans k5;have a2:=K.trans k5;have y:=bs.E a2 O;have n:=bf.E a2 O;have m:=be.E a2 O;cases hvf:validG f with
 |false=>
  refine go ?_;refine AU (v:=iV 30) rfl rfl rfl (m) O (fun F i=>go ?_);exact BF (A7 rfl (i.D.cell (o:=0) rfl) ⟨30,rfl,e5.E i.E EP,by simp⟩)
 |true=>
 obtain⟨hz60,c1,_⟩:=valid_okN hvf;simp only[Bool.true_and];refine go ?_;refine AF (gnodes_ok w5 w1.heap.size 0) rfl ?_;rintro _ C⟨rfl,N⟩;refine go ?_;have z6:=N.size;have b6:=N.D;have e6:=e5.trans N.E;replace y:=y.E N.E O;replace n:=n.E N.E O;replace m:=m.E N.E O;refine C_range [] [pt w5.heap.size] rfl EO fun a8 b9 a7 E P M s7 m7 r7=>?_;replace b6:=b6.E M O;replace y:=y.E M O;replace n:=n.E M O;replace m:=m.E M O;have e7:=e6.trans M;have b5:PF (fun b=>b∉[B.heap.size,C.heap.size+1]/\b<E.heap.size) E w1.heap.size 0 f:=⟨by simp;omega,_,rfl,n.cells,(b2.ext e7).mono fun b hb=>by have:=hb.2;simp;omega⟩;obtain⟨a1,d⟩:∃a1:World->Prop,∀W,a1 W↔(Ext w W/\Blk W w.heap.size 22 [.slice sa S.length sc]/\Blk W w1.heap.size 37 [x0,x1,x2,x3,x4]/\Blk W B.heap.size 28 [iV 0]/\a8 W/\W.heap[C.heap.size]?=some (.deferred (some []))/\E.heap.size<=W.heap.size):=⟨_,fun _=>Iff.rfl⟩;obtain⟨D,hD⟩:∃D:World->Prop,∀W,D W↔(Ext w W/\(∃e:Int,e≠0/\Blk W B.heap.size 28 [iV e])/\a7 .ret W/\W.heap[C.heap.size]?=some (.deferred (some []))/\E.heap.size<=W.heap.size):=⟨_,fun _=>Iff.rfl⟩
 have H:TnG (.func (.yield (C.heap.size+1)) #[] #[]) [B.heap.size,C.heap.size+1] E.heap.size 60 (ndOk S) a1 D:=by
  refine⟨⟨_,rfl⟩,fun T k=>?_,fun{W b o x}T hp hz=>?_⟩
  ·obtain⟨a,Z,X,Q,p,q,j7⟩:=(d _).1 T;exact(d _).2 ⟨a.trans k,Z.E k O,X.E k O,Q.E k O,P.rdy p k O,(k.block _ U O).trans q,Nat.le_trans j7 k.size⟩
  ·obtain⟨a,Z,X,Q,p,q,j7⟩:=(d _).1 T;refine YldP.mono (R:=fun v W'=>v=.bool (ndOk S x)/\Keep [B.heap.size,C.heap.size+1] W W'/\if ndOk S x=true then a1 W' else D W') (Y:=fun _ _=>False) (P.round p rfl ?_) (fun v W' h=>h) (fun _ _ h=>h);refine go ?_;refine⟨p,fun W2 s c6 y2=>?_⟩;have r:=a.E s EP;replace Z:=Z.E s EP;replace X:=X.E s EP;replace Q:=Q.E s EP;replace q:=(s.block _ U O).trans q;have hp2:=(hp.E s (fun b h=>by have:=h.1;simp at this⊢;omega)).mono (ok':=Af) (fun _ _=>trivial);have c2:=dp_sz x;refine go ?_;refine AF (gnodeErr_ok W2 sa sc S b o x (hS.ext r) hp2 (hG.ext r) (Nat.le_trans hN r.size) U) rfl ?_;rintro _ W3⟨e,rfl,I,he⟩;have q3:=s.trans I (fun x h=>by cases h);have zq:=q3.size;by_cases t:e=0
   ·have V:=he.1 t;subst t;refine go ?_;refine Q_rnd (P.bsy y2 I O) fun W4 G s4 y4=>⟨by rw[V],(q3.trans G (fun x h _=>h)).mono (fun x V=>by simp at V;simp[V]),(if_pos V).mpr<|(d _).2 ⟨(r.trans I).E G EP,(Z.E I O).E G EP,(X.E I O).E G EP,(Q.E I O).E G EP,y4,(G.block _ U O).trans ((I.block _ U O).trans q),by omega⟩⟩
   ·have V:ndOk S x=false:=by rw[<-Bool.not_eq_true,<-he];exact t
    refine go ?_;refine AU (v:=iV e) rfl rfl rfl (Q.E I O) O (fun W5 A=>go ?_);have zp:=A.E.size;refine Q_rnd_ret (P.bsy (P.bsy y2 I O) A.E EP) fun W4 G s4 y4=>⟨by rw[V],((q3.mono (fun x V=>by simp at V;simp[V])).trans A.E (fun x V _=>by simp at V;simp[V])).trans G (fun x V _=>by simp at V;simp[V]),(if_neg (by rw[V];simp)).mpr<|(hD _).2 ⟨((r.trans I).E A.E EP).E G EP,⟨e,t,A.D.E G EP⟩,y4,(G.block _ U O).trans ((A.E.block _ U EP).trans ((I.block _ U O).trans q)),by omega⟩⟩
 refine Fn.mono (gnodesIt_ok E w5.heap.size w1.heap.size 0 f H b6 b5 hz60 ((d _).2 ⟨e7,y,n,m,r7,m7,Nat.le_refl _⟩) (fun x V=>by simp at V;omega)) ?_;rintro v w8⟨_,T⟩;clear b6 y n m;cases ha:allNd (ndOk S) f with
 |false=>
  rw[ha,if_neg Bool.false_ne_true]at T;obtain⟨a,⟨e,t,Z⟩,X,Q,p⟩:=(hD _).1 T;refine .inr ⟨.ret,X,fun F l s9=>?_⟩;clear d hD H T P;dsimp only[behind];refine go ?_;refine Cm ((l.block _ U O).trans Q) fun a6 j a5=>?_;exact BF (A7 rfl (((Z.E l EP).E j EP).cell (o:=0) rfl) ⟨e,rfl,(a.E l EP).E j EP,by simp[t]⟩)
 |true=>
 rw[ha,if_pos rfl]at T;obtain⟨a,Z,X,Q,p,q,j7⟩:=(d _).1 T;refine .inl ⟨p,fun F l s9=>?_⟩;clear d hD H T P;replace X:=X.E l EP;replace Q:=Q.E l EP;replace q:=(l.block _ U O).trans q;have z:=a.E l EP;refine go ?_;refine AF (gkernel_ok F _ f (hf.ext z) (hG.ext z) (hK.E z O) (Nat.le_trans hN z.size)) rfl ?_;rintro u c4⟨cu,rfl,b7,fu⟩;obtain⟨cs,rfl,b1,b3⟩:=fu.cells;obtain⟨y0,y1,y2,y3,y4,rfl⟩:=Ak b1;refine go ?_;refine A2 (cs:=[y0,y1,y2,y3,y4]) rfl rfl EQ b3 (fun c5 b8=>?_);have a0:=b7.trans b8.E;have zz:=a0.size;have b4:=Q.E a0 O;have a3:=(a0.block _ U O).trans q;refine go ?_;by_cases t:(kernR f).2=0
 ·refine go ?_;refine AU (v:=iV 0) rfl rfl rfl (b4) O (fun F i=>go ?_);refine Cm ((i.E.block _ U EP).trans a3) fun a6 j a5=>?_;exact BF (A7 rfl ((i.D.E j EP).cell (o:=0) rfl) ⟨0,rfl,((z.trans a0).E i.E EP).E j EP,by simp[t]⟩)
 ·refine go ?_;refine AU (v:=iV 2) rfl rfl rfl (b4) O (fun F i=>go ?_);refine Cm ((i.E.block _ U EP).trans a3) fun a6 j a5=>?_;exact BF (A7 rfl ((i.D.E j EP).cell (o:=0) rfl) ⟨2,rfl,((z.trans a0).E i.E EP).E j EP,by simp[t]⟩)
section
attribute [local semireducible] WC AT B6 BK Bz Cx DZ By
variable {P:Program}{all:Array Oper}{Z:Fr->DS->List PanicEntry->World->Prop}{K:Fr->DS->World->Prop}{rest:List Oper}{f:Fr}{ds:DS}{w:World}{d:Nat}{ty:TypeId}{pos:String}{af:Array Edge}
theorem W_lookupS{T:TypeId}{m k:Operand}{r:Nat}{x:LU}{y z:Value}{L:List (LU×Value)}[hT:SMapT P T z](s:ev f m=.map (some r))(o:ev f k=AL x)(c:SMap w r L)(V:L.lookup x=some y)
  (h:AT P all Z K rest (upd f d y) ds w):AT P all Z K (⟨some d,.lookup T m k false,ty,pos,af,none⟩::rest) f ds w:=by
 obtain⟨t,e,i,l,W,R,B⟩:=hT.out;have I:=nodup_str c;obtain⟨q,p,S,F,g⟩:=c;refine A0 rfl ?_ h;have n:=MapKept.run_checkKey (P:=P) (w:=w) (k:=AL x) W trivial q.isEmpty 9999;rcases find_str W g I x w with⟨b,a,_⟩|⟨j,v,b,a⟩
 ·rw[b]at V;cases V
 ·rw[b]at V;cases V;simp[execOp,s,o,Instr.lookup,run_underlying l,MapKept.run_getObj_map S,n,a]
theorem W_putS{T:TypeId}{m k v:Operand}{r:Nat}{x:LU}{y z:Value}{L:List (LU×Value)}[hT:SMapT P T z](s:ev f m=.map (some r))(t:ev f k=AL x)(p:ev f v=y)(l:SMap w r L)(V:L.lookup x=none)
  (h:∀w',Keep [r] w w'->w'.heap.size=w.heap.size->SMap w' r (L++[(x,y)])->AT P all Z K rest f ds w'):AT P all Z K (⟨none,.mapUpdate T m k v,ty,pos,af,none⟩::rest) f ds w:=by
 obtain⟨A,e,i,n,W,R,B⟩:=hT.out;have u:=nodup_str l;obtain⟨q,a,S,F,g⟩:=l;have o:=MapKept.run_checkKey (P:=P) (w:=w) (k:=AL x) W trivial false 9999;rcases find_str W g u x w with⟨b,c,I⟩|⟨j,C,b,c⟩
 ·refine W_skp (w':={w with heap:=w.heap.setIfInBounds r (.map (q.push {key:=AL x,val:=y,born:=a}) (a+1))}) rfl ?_ (h _ (setBlkS_keep fun _ _ _ h=>by cases h) O ⟨_,_,(MapKept.heap_set S).1,MapKept.stamped_push F I,?_⟩)
  ·simp[execOp,s,t,p,Instr.mapUpdate,run_underlying n,MapKept.run_getObj_map S,o,c,MapKept.run_setObj_map _ S]
  ·rw[Array.toList_push,List.map_append,g];simp[rdS,encS]
 ·rw[b]at V;cases V
end
instance :SMapT Zp 146 (iV 0):=smapT_of Tryz.underlying146 Tryz.underlying9 EO
theorem SlAt.req{ok:Nat->Prop}{w:World}{a:Option Addr}{n c:Nat}{l:List Rqm}{k:Nat}{x:Rqm}(h:SlAt reqR ok w (.slice a n c) l)(V:l[k]?=some x):∃b o d,a=some ⟨b,o,none⟩/\ok b/\d.length=5/\Cells w b (o+k*8) ([AL x.part,AL x.name,iV x.kind]++d)/\FAt ok w (.agg d.toArray) x.formula:=by
 obtain⟨q,I,L,e,j,s⟩:=h;cases e;have T:=(List.getElem?_eq_some_iff.1 V).1;obtain⟨g,i⟩:∃g,L[k]?=some g:=⟨_,List.getElem?_eq_getElem (by rw[s.1];exact T)⟩;obtain⟨d,rfl,C,p⟩:=s.2 k g x i V;obtain⟨b,o,e,S,m⟩:=j.recs s (sz:=8) rfl i T;exact⟨b,o,d,e,S,C,m,p⟩
def nmI(o:List Rqm)(k:LU):Option Nat:=o.findIdx? fun r=>decide (r.name=k)
def fstM(w:World)(x:Nat)(l:List Rqm):Prop:=∃r L,Blk w x 146 [.map (some r)]/\SMap w r L/\∀k,L.lookup k=(nmI l k).map fun i=>iV (i:Int)
theorem nmI_snoc(l:List Rqm)(x:Rqm)(k:LU):nmI (l++[x]) k=match nmI l k with|some i=>some i|none=>if x.name=k then some l.length else none:=by
 unfold nmI;rw[List.findIdx?_append];cases h:l.findIdx? (fun r=>decide (r.name=k))with
 |some i=>simp
 |none=>
  simp only[Option.none_or,List.findIdx?_cons,List.findIdx?_nil];by_cases V:x.name=k<;>simp[V]
abbrev rulV(k:Nat)(L:LV):Value:=.func (.func k) #[] L.toArray
theorem made1:(madeCells (Value.agg #[.nilFunc]).cells (3*1)).toList=[.nilFunc,.nilFunc,.nilFunc]:=by kernel_rfl
theorem rules_ok(w:World)(j:Nat)(sv:Value)(ra:Option Addr)(B:Nat)(o:List Rqm)(S:Blk w j 25 [sv,.slice ra o.length B])(hr:SlAt reqR Af w (.slice ra o.length B) o)(I:o.length<=1000):
  Fn Zp 36 [pt j] w fun u w'=>∃g b mb,u=.slice (sm g) 3 3/\Ext w w'/\Blk w' g 83 [rulV 92 [pt b],rulV 93 [pt mb,pt b],rulV 94 [pt b]]/\Blk w' b 72 [pt j]/\fstM w' mb o:=by
 refine AN Tryz.func36 rfl Tryz.ntmps36 (go ?_);refine A3 (L:=[pt j]) rfl (fun Q A=>go ?_);refine W_makeMapS (fun N k2 z2 t=>?_);refine AY (fun w3 r=>?_);refine AU (v:=.map (some Q.heap.size)) rfl rfl rfl r.D O (fun s p=>?_);have z1:=A.size;have z3:=r.size;have z4:=p.size;have y:Ext N s:=r.E.E p.E O;have a2:Blk s w.heap.size 72 [pt j]:=A.D.E (k2.trans y) O;have a1:Blk s N.heap.size 146 [.map (some Q.heap.size)]:=p.D;have m4:=t.E y O;have X:Ext w s:=(A.E.trans k2).trans y;have b4:=S.E X O;have a9:=S.lt;refine go ?_;refine Ar (α:=Nat) (fun k=>[(1,pt w.heap.size),(2,.slice none 0 0),(3,pt N.heap.size),(15,iV (o.length:Int)),(16,iV (k:Int))]) (fun k W=>k<=o.length/\Ext w W/\Blk W w.heap.size 72 [pt j]/\Blk W N.heap.size 146 [.map (some Q.heap.size)]/\s.heap.size<=W.heap.size/\∃L,SMap W Q.heap.size L/\∀c,L.lookup c=(nmI (o.take k) c).map fun i=>iV (i:Int)) (fun k=>o.length-k) 0 ag ⟨by omega,X,a2,a1,Nat.le_refl _,[],m4,fun c=>rfl⟩ ?_;rintro k W fr⟨a8,q,H,a,zW,L,mW,m⟩;have bW:=S.E q O;refine go ?_;by_cases a5:k<o.length
 ·obtain⟨x,hx⟩:=gl a5;obtain⟨rb,ro,d,rfl, -,hd,hc, -⟩:=hr.req hx;have R:=hc 1 _ rfl;have a7:=World.block_lt_of_cell? w _ R;simp only at a7;have c1:=q.cell R O;refine go ?_;refine Ac (rd 0 15 .done) Ap EO (fun l M ed=>⟨Ext l,?_,?_⟩)
  ·exact FQ
  have zd:=M.size;have F:=H.E M O;have E:=a.E M O;have bd:=bW.E M O;have a3:=M.cell c1 O;have z:=mW.E M O;refine go ?_;apply D_R;rfl;rfl
  ·intro V hV;refine W_lookup2S rfl rfl (z.E hV O) ?_;exact AA ⟨rfl,rfl,rfl⟩
  refine go ?_;have C:L.lookup x.name=_:=m x.name
  have a0:∀c,nmI (o.take (k+1)) c=match nmI (o.take k) c with|some i=>some i|none=>if x.name=c then some k else none:=by
   intro c;rw[List.take_add_one,hx];have:=nmI_snoc (o.take k) x c
   rwa [List.length_take,Nat.min_eq_left U]at this
  cases hi:nmI (o.take k) x.name with
  |some i=>
   rw[hi]at C;rw[C];refine go ?_;refine⟨k+1,⟨rfl,ag,⟨by omega,q.trans M,F,E,by omega,L,z,fun c=>?_⟩⟩,by omega⟩;rw[m,a0];by_cases I:x.name=c
   ·subst I;simp[hi]
   ·cases nmI (o.take k) c<;>simp[I]
  |none=>
   rw[hi]at C;rw[C];refine go ?_;have a4:=q.trans M;refine Ac (rd 0 10 (.alt 10 .done .stop)) Ap EO (fun l M ed=>⟨Keep [Q.heap.size] l,?_,?_⟩)
   ·exact Ff
   have b0:=M.size;have T:=F.E M O;have D:=E.E M O;have t:=z.E M O;have s1:∀V,Keep [Q.heap.size] l V->V.cell? ⟨w.heap.size,0,none⟩=some (pt j):=fun V e=>(T.E e EP).cell rfl;have s2:∀V,Keep [Q.heap.size] l V->V.cell? ⟨N.heap.size,0,none⟩=some (.map (some Q.heap.size)):=fun V e=>(D.E e EP).cell rfl;have s3:∀V,Keep [Q.heap.size] l V->V.cell? ⟨j,0+1,none⟩=some (.slice (some ⟨rb,ro,none⟩) o.length B):=fun V e=>((bd.E M O).E e EP).cell rfl;have s4:∀V,Keep [Q.heap.size] l V->V.cell? ⟨rb,ro+k*8+1,none⟩=some (AL x.name):=fun V e=>e.cell (M.cell a3 O) EP;refine go ?_;refine D_E rfl ?_;refine W_putS rfl rfl rfl t C (fun w9 n z9 m9=>?_);refine wNl n ?_;refine go ?_;refine⟨k+1,⟨rfl,ag,⟨by omega,(a4.trans M).E n EP,T.E n EP,D.E n EP,by have:=n.size;omega,_,m9,fun c=>?_⟩⟩,by omega⟩;rw[a0,List.lookup_append,m];by_cases I:x.name=c
   ·subst I;rw[hi];simp;rfl
   ·have a6:(c==x.name)=false:=by simpa using fun h=>I h.symm
    cases nmI (o.take k) c with
    |some i=>simp
    |none=>simp[List.lookup_cons,I,a6]
 ·obtain rfl:k=o.length:=by omega
  rw[List.take_length]at m;refine go ?_;refine AP (out:=[rulV 92 [pt w.heap.size],rulV 93 [pt N.heap.size,pt w.heap.size],rulV 94 [pt w.heap.size]]) rfl U (by rw[made1];rfl) (fun w5 G=>?_);refine go ?_;exact AC rfl ⟨W.heap.size,w.heap.size,N.heap.size,rfl,q.trans G.E,G.D,H.E G.E O,Q.heap.size,L,a.E G.E O,mW.E G.E O,m⟩
end Go.Proofs.YtjbocjodncbogaaGreatDoor
