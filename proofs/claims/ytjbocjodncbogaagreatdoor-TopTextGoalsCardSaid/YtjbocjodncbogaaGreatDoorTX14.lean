/- TopTextGoals, part 14 of 16: rules, lemmas, walks. Conditions: none. -/
import Derived.Test.YtjbocjodncbogaaGreatDoorTX13
namespace Go.Proofs.YtjbocjodncbogaaGreatDoor
open Go.RowKit
set_option linter.unusedVariables false
def wtP(l:List Pn):Nat:=(l.map fun p=>szF p.2.2).sum
theorem wtP_app(l qs:List Pn):wtP (l++qs)=wtP l+wtP qs:=by simp[wtP]
theorem wtP_len:∀l:List Pn,l.length<=wtP l
 | []=>Nat.le_refl _
 |p::l=>by
  have Z:=wtP_len l;have W:=BL p.2.2;simp only[wtP,List.map_cons,List.sum_cons,List.length_cons]at Z⊢;omega
theorem last_of{α:Type}{l:List α}(h:l≠[]):∃m a,l=m++[a]:=⟨l.dropLast,l.getLast h,(List.dropLast_concat_getLast h).symm⟩
def chP(b o:Nat):Nat->LF->List Pn
 |_,[]=>[]
 |i,x::l=>(b,o+i*5,x)::chP b o (i+1) l
theorem chP_snoc(b o:Nat)(x:Fml):∀(l:LF)(i:Nat),chP b o i (l++[x])=chP b o i l++[(b,o+(i+l.length)*5,x)]
 | [],i=>by simp[chP]
 |y::l,i=>by
  have:=chP_snoc b o x l (i+1);simp only[List.cons_append,chP,this,List.length_cons];rw[show i+1+l.length=i+(l.length+1) by omega]
theorem chP_wt(b o:Nat):∀(l:LF)(i:Nat),wtP (chP b o i l)=szL l
 | [],i=>by simp[chP,wtP,szL]
 |y::l,i=>by
  have:=chP_wt b o l (i+1);simp only[chP,wtP,List.map_cons,List.sum_cons,szL]at this⊢;rw[this]
theorem chP_len(b o:Nat):∀(l:LF)(i:Nat),(chP b o i l).length=l.length
 | [],i=>rfl
 |y::l,i=>by simp[chP,chP_len b o l (i+1)]
theorem mcopied_ok(w:World)(v:Value)(f:Fml)(G:Nat->Prop)(hf:FAt G w v f)(hz:szF f<=1000000):
  Fn Zp 52 [v] w fun u w'=>Ext w w'/\FAt (fun b=>G b\/w.heap.size<=b) w' u f:=by
 obtain⟨c,rfl,c5,b3⟩:=hf.cells;obtain⟨x0,x1,x2,x3,x4,rfl⟩:=Ak c5;have c9:=hf.lt;refine AN Tryz.func52 rfl Tryz.ntmps52 (go ?_);refine A3 (L:=[x0,x1,x2,x3,x4]) rfl (fun Q n1=>?_);refine AY (L:=zero5) (fun N X=>?_);have z1:=n1.size;have z2:=X.size;have kk:=n1.E.trans X.E;have b1:Blk N w.heap.size 37 [x0,x1,x2,x3,x4]:=n1.D.E X.E O;refine go ?_;refine D6 (out:=[pt w.heap.size]) rfl U rfl rfl (fun w3 r=>?_);have z3:=r.size;have k3:=kk.trans r.E
 have j:Cpy G w.heap.size N.heap.size Q.heap.size 37 zero5 [] [(w.heap.size,0,f)] [(w.heap.size,0,f)] w3 (.slice (sm N.heap.size) 1 1):=by
  have hp:PF (cok G w.heap.size Q.heap.size (Value.slice (sm N.heap.size) 1 1)) w3 w.heap.size 0 f:=⟨⟨.inr (Nat.le_refl _),by omega,by simp[Value.ownBlock];omega⟩,_,rfl,(b1.E r.E O).cells,(c9.ext k3).mono fun b a=>⟨.inl a.1,by have:=a.2;omega,by have:=a.2;simp[Value.ownBlock];omega⟩⟩;refine⟨r.own (n:=1) (size:=1) rfl EW (Nat.le_refl _),fun p B=>?_,fun p B=>?_,X.D.E r.E O,by omega,by simp,by simp⟩
  ·rcases B with B|B<;>(simp at B;rw[B];exact hp)
  ·simp at B;rw[B];exact⟨Nat.le_refl _,_,_,b1.E r.E O⟩
 refine go ?_
 refine Ar (α:=List Pn×List Pn×Value) (fun y=>[(1,pt w.heap.size),(2,pt Q.heap.size),(3,y.2.2)])
  (fun y W=>Ext w W/\(∀p∈[(w.heap.size,0,f)],p∈y.2.1)/\wtP y.1<=1000000/\Cpy G w.heap.size N.heap.size Q.heap.size 37 zero5 [] y.2.1 y.1 W y.2.2) (fun y=>wtP y.1) ([(w.heap.size,0,f)],[(w.heap.size,0,f)],.slice (sm N.heap.size) 1 1) ag ⟨k3,fun p h=>h,by simpa[wtP]using hz,j⟩ ?_
 rintro⟨ps,rs,v⟩W fr⟨kW,hr,hw,j⟩;simp only at hr hw j;have ho:=j.own;obtain⟨va,D,rfl,e6,e7,e8,d7⟩:=Aa (ok:=Af) ho fun _ _=>trivial;refine go ?_;by_cases P:ps≠[]
 ·obtain⟨S,p,rfl⟩:=last_of P;have hl:(S++[p]).length=S.length+1:=by simp
  obtain⟨a2,e1,H,R,hA,T,L,a⟩:=j.pop;rw[hl]at H;cases H;obtain⟨m,l,rfl, -,d8⟩:=d7.resolve_left U;have e4:W.cell? ⟨m,l+S.length,none⟩=some (ptrV p):=d8 _ _ O;have hj:(((S++[p]).length:Nat):Int)-1=(S.length:Int):=by omega
  obtain⟨g,o,x⟩:=p;have a5:=R.all (g,o,x) (.inl O);simp only at a5 hA a;obtain⟨hok,d,C,c6,hfx⟩:=id a5;obtain⟨d9,H,M,a0,a4,a3,b6⟩:=hfx.form;obtain⟨d0,d1,d2,d3,d4,rfl⟩:=Ak C;simp only[Value.agg.injEq,List.toArray_eq_iff,List.cons.injEq,and_true]at H;obtain⟨rfl,rfl,rfl,rfl,rfl⟩:=H;obtain⟨aa,cc,rfl,r1,r2,r3,r4⟩:=id a0;have a6:W.cell? ⟨g,o+4,none⟩=some (.slice aa x.args.length cc):=c6 4 _ rfl;have b8:FsAt (cok G w.heap.size Q.heap.size (Value.slice (some ⟨m,l,none⟩) S.length D)) W M x.args:=⟨a4,a3,b6⟩;have f2:wtP S+szF x=wtP (S++[(g,o,x)]):=by rw[wtP_app];simp[wtP]
  have f4:=BL x;have f5:=CE x.args;have hql:=wtP_len S;refine go ?_;have ht:((((S++[(g,o,x)]).length:Nat):Int)-1).toNat=S.length:=by omega
  rw[ht];refine AF (clone_ok W aa cc x.args M _ a0 b8 U) rfl ?_;rintro u w4⟨I,o4⟩;have hu:Sl (fun b=>W.heap.size<=b) w4 u x.args.length M.flatten:=Aa o4 fun b a=>(An o4 a).1;obtain⟨K,Z,rfl,u1,u2,u3,u4⟩:=id hu;have c1:=R.ext I;have a7:=a.E I O;have e9:(Value.slice (some ⟨m,l,none⟩) S.length D).ownBlock≠some Q.heap.size:=fun e=>by have:=(An R.own e).1;omega
  have e2:=a.lt;have zW:=kW.size;have f0:Q.heap.size<W.heap.size:=j.D.lt;have b9:=a.un a6;have c0:=(List.getElem?_eq_some_iff.1 b9).1;refine go ?_;refine AU (v:=.slice K x.args.length Z) rfl rfl rfl a7 c0 (fun w5 A=>?_)
  have c8:∀(n:Nat)(L:List (LV)),L.flatten.length=n*5->Sl (cok G w.heap.size Q.heap.size (Value.slice (some ⟨m,l,none⟩) S.length D)) w4 (.slice aa x.args.length cc) n L.flatten->Sl (cok G w.heap.size Q.heap.size (Value.slice (some ⟨m,l,none⟩) S.length D)) w5 (.slice K x.args.length Z) n L.flatten:=fun n L hL h=>by
   refine cpy_of (a0.ext I) (by rw[Bw 5 M a3,a4]) ?_ n L hL h;exact(hu.E A.E (fun b a s=>by rw[List.mem_singleton]at s;omega)).mono fun b a=>⟨.inr U,by omega,fun e=>by have:=(An R.own e).2;omega⟩
  have hR:=Rtg.of_put a7 (I.cell a6 O) ⟨_,_,_,rfl⟩ A c8;have c2:=c1.store hR A hok.2.1 hok.2.2;have c7:w5.cell? ⟨g,o+4,none⟩=some (.slice K x.args.length Z):=hR.new;have e5:Ext w w5:=(kW.trans I).E A.E EP
  obtain⟨i,t,b4⟩:∃i t,0<x.args.length->K=some ⟨i,t,none⟩/\w.heap.size<=i/\∃T L,Blk w5 i T L:=by
   by_cases f3:x.args.length=0
   ·exact⟨0,0,fun h=>by omega⟩
   ·rcases o4.2 with⟨_,h⟩|⟨g',e0,b5,e,h1,h2, -⟩
    ·omega
    ·cases e;have hne:g'≠g:=fun e=>by omega
     have c4:Blk w4 g' 37 b5.toList:=by simpa[Blk]using h2
     exact⟨g',0,fun _=>⟨rfl,by omega,_,_,c4.E A.E (by simpa using hne)⟩⟩
  refine go ?_
  refine Ar (α:=Nat×Value) (fun y=>[(1,pt w.heap.size),(2,pt Q.heap.size),(3,y.2),(4,.pointer (some ⟨g,o,none⟩)),(33,iV (x.args.length:Int)),(34,iV (y.1:Int))])
   (fun y V=>y.1<=x.args.length/\Ext w V/\V.cell? ⟨g,o+4,none⟩=some (.slice K x.args.length Z)/\(0<x.args.length->∃T L,Blk V i T L)/\Cpy G w.heap.size N.heap.size Q.heap.size 37 zero5 [] ((g,o,x)::rs) (S++chP i t 0 (x.args.take y.1)) V y.2) (fun y=>x.args.length-y.1) (0,.slice (some ⟨m,l,none⟩) S.length D) ag ⟨by simp,e5,c7,fun h=>(b4 h).2.2,by simpa[chP]using c2⟩ ?_
  rintro⟨k,v⟩V fr⟨hk,kV,a1,a9,z⟩;simp only at hk a1 z;refine go ?_;by_cases hlt:k<x.args.length
  ·obtain⟨y,E⟩:=gl hlt;obtain⟨rfl,d5, -⟩:=b4 U;have b2:=z.all (g,o,x) (.inl O);obtain⟨f6,f7,e,b0⟩:=b2.child a1 E;cases e;have hgo:=b2.1.2.2;have d6:=b0.1.2.2;refine go ?_;refine D6 (out:=[.pointer (some ⟨i,t+k*5,none⟩)]) rfl U rfl rfl (fun w6 F=>?_);have e3:(S++chP i t 0 (x.args.take k)).length=S.length+k:=by rw[List.length_append,chP_len,List.length_take];omega
   have hX:∀y,y∈v.ownBlock.toList->v.ownBlock=some y:=fun y E=>Option.mem_toList.1 E;have z6:=F.size;have zV:N.heap.size<=V.heap.size:=by have:=z.D.lt;omega
   refine Ax (v:=v) rfl rfl (As z.own F.E) (Aa (ok:=Af) (F.own (n:=1) (size:=1) rfl EW (Nat.le_refl _)) fun _ _=>trivial) U rfl rfl (AV rfl) U U U (fun v8 w8 q=>?_);have b7:=z.push (p:=(i,t+k*5,y)) F.E q b0 ⟨d5,a9 U⟩ fun e=>by have:=(An z.own e).1;omega
   have c3:∀y∈v.ownBlock.toList,w.heap.size<=y:=fun y E=>by have:=(An z.own (hX y E)).1;have:=j.ab;omega
   refine go ?_;refine⟨(k+1,v8),⟨rfl,ag,⟨by simp only;omega,(kV.trans F.E).E q.E c3,q.E.cell (F.E.cell a1 O) (fun s=>hgo (hX _ s)),fun h=>?_,?_⟩⟩,by simp only;omega⟩
   ·obtain⟨T,L,a⟩:=a9 h;exact⟨T,L,(a.E F.E O).E q.E fun s=>d6 (hX _ s)⟩
   ·simp only;have htk:x.args.take (k+1)=x.args.take k++[y]:=by rw[List.take_add_one,E];rfl
    rw[htk,chP_snoc,List.length_take,Nat.min_eq_left hk,Nat.zero_add,<-List.append_assoc];exact b7
  ·obtain rfl:k=x.args.length:=by omega
   rw[List.take_length]at z;refine go ?_;have f1:wtP (S++chP i t 0 x.args)=wtP S+szL x.args:=by rw[wtP_app,chP_wt]
   exact⟨(S++chP i t 0 x.args,(g,o,x)::rs,v),⟨rfl,ag,⟨kV,fun p hp=>List.mem_cons_of_mem _ (hr p hp),by simp only;omega,z⟩⟩,by simp only;omega⟩
 ·have P:ps=[]:=Classical.not_not.1 P;subst P;have hl:([]:List Pn).length=0:=rfl;refine go ?_;obtain⟨⟨hok, -, -⟩,d,C,hc,hff⟩:=j.all (w.heap.size,0,f) (.inl (hr _ O));obtain⟨d',e,_,b3⟩:=hff.cells;obtain rfl:d=d':=by simpa using e
  refine AQ (L:=d) rfl C hc ?_;refine AI (cs:=d) rfl rfl C b3 j.D EV (fun w9 p9=>?_);have a8:=p9.D;rw[BY zero5 d (by rw[C];rfl)]at a8;refine go ?_;exact AW rfl rfl C a8.cells ⟨kW.E p9.E EP,(hff.E p9.E (fun b a s=>by rw[List.mem_singleton]at s;exact a.2.1 s)).mono fun b a=>a.1⟩
theorem mapStart_ok(w:World)(a:Option Addr)(c:Nat)(l:List (Rqm))(F:FuncId)[hF:AM Zp F](v1 v2:LV)(g:Rqm->Dty)(K:SlAt reqR Af w (.slice a l.length c) l)(hn:l.length<=1000)
  (P:∀(W:World)(d:LV)(x:Rqm),x∈l->Ext w W->(reqR).fits (fun b=>b<w.heap.size) W d x->Fn Zp F (v1++[.agg d.toArray]++v2) W fun u Z=>∃e:LV,u=.agg e.toArray/\Ext W Z/\(dtyR).fits (fun b=>b<w.heap.size\/W.heap.size<=b) Z e (g x)):
  Fn Zp 50 [.slice a l.length c,.func (.func F) v1.toArray v2.toArray] w fun u w'=>Ext w w'/\SlAt dtyR Af w' u (l.map g):=by
 have M:=(K.lt (show 0<(reqR).size by decide)).mono (ok':=fun b=>b<w.heap.size) fun b S=>S.2;have a2:(dtyR).size=19:=rfl;refine AN Tryz.func50 rfl Tryz.ntmps50 (go ?_);refine W_make0S (n:=l.length) (made_len _ _) rfl rfl rfl rfl U U (fun w1 A z1 o1=>go ?_);refine Ar (α:=Nat×Value) (fun y=>[(1,.func (.func F) v1.toArray v2.toArray),(5,y.2),(11,.slice a l.length c),(12,iV (l.length:Int)),(13,iV (y.1:Int))]) (fun y W=>y.1<=l.length/\Ext w W/\w.heap.size<W.heap.size/\Acc Af dtyR 59 19 w.heap.size W y.2 ((l.take y.1).map g)) (fun y=>l.length-y.1) (0,.slice (sm w.heap.size) 0 l.length) ag ⟨by omega,A,by omega,⟨[],o1,RsAt.nil⟩⟩ ?_;rintro⟨k,v⟩W fr⟨I,q,zW,Q⟩;simp only at I q Q;refine go ?_;by_cases R:k<l.length
 ·obtain⟨x,V⟩:=gl R;obtain⟨b,o,d,rfl,S,C,t⟩:=M.at (sz:=8) rfl V;have T:=C.E q O;have D:=(reqR).E t q (fun _ _=>by simp);have X:d.length=8:=(reqR).len t;have B:=(reqR).one t;refine go ?_;refine AQ (L:=d) rfl X T ?_;refine A2 (cs:=d) rfl X rfl B (fun w2 f=>?_);have j:=f.D;refine go ?_;refine A8 rfl j X ?_;have z2:=f.size;refine A9 (v1:=v1) (v2:=v2) (vs:=[.agg d.toArray]) rfl (P w2 d x (List.mem_of_getElem? V) (q.trans f.E) ((reqR).E D f.E (fun _ _=>by simp))) rfl ?_;rintro u w3⟨e,rfl,i,r⟩;exact E7
 ·exact Fz
theorem mapWatch_ok(w:World)(a:Option Addr)(c:Nat)(l:List (Dty))(F:FuncId)[hF:AM Zp F](v1 v2:LV)(g:Dty->Dty×Fml)(K:SlAt dtyR Af w (.slice a l.length c) l)(hn:l.length<=1000)
  (P:∀(W:World)(d:LV)(x:Dty),x∈l->Ext w W->(dtyR).fits (fun b=>b<w.heap.size) W d x->Fn Zp F (v1++[.agg d.toArray]++v2) W fun u Z=>∃e:LV,u=.agg e.toArray/\Ext W Z/\(wchR).fits (fun b=>b<w.heap.size\/W.heap.size<=b) Z e (g x)):
  Fn Zp 54 [.slice a l.length c,.func (.func F) v1.toArray v2.toArray] w fun u w'=>Ext w w'/\SlAt wchR Af w' u (l.map g):=by
 have M:=(K.lt (show 0<(dtyR).size by decide)).mono (ok':=fun b=>b<w.heap.size) fun b S=>S.2;have a2:(wchR).size=24:=rfl;refine AN Tryz.func54 rfl Tryz.ntmps54 (go ?_);refine W_make0S (n:=l.length) (made_len _ _) rfl rfl rfl rfl U U (fun w1 A z1 o1=>go ?_);refine Ar (α:=Nat×Value) (fun y=>[(1,.func (.func F) v1.toArray v2.toArray),(5,y.2),(11,.slice a l.length c),(12,iV (l.length:Int)),(13,iV (y.1:Int))]) (fun y W=>y.1<=l.length/\Ext w W/\w.heap.size<W.heap.size/\Acc Af wchR 101 24 w.heap.size W y.2 ((l.take y.1).map g)) (fun y=>l.length-y.1) (0,.slice (sm w.heap.size) 0 l.length) ag ⟨by omega,A,by omega,⟨[],o1,RsAt.nil⟩⟩ ?_;rintro⟨k,v⟩W fr⟨I,q,zW,Q⟩;simp only at I q Q;refine go ?_;by_cases R:k<l.length
 ·obtain⟨x,V⟩:=gl R;obtain⟨b,o,d,rfl,S,C,t⟩:=M.at (sz:=19) rfl V;have T:=C.E q O;have D:=(dtyR).E t q (fun _ _=>by simp);have X:d.length=19:=(dtyR).len t;have B:=(dtyR).one t;refine go ?_;refine AQ (L:=d) rfl X T ?_;refine A2 (cs:=d) rfl X rfl B (fun w2 f=>?_);have j:=f.D;refine go ?_;refine A8 rfl j X ?_;have z2:=f.size;refine A9 (v1:=v1) (v2:=v2) (vs:=[.agg d.toArray]) rfl (P w2 d x (List.mem_of_getElem? V) (q.trans f.E) ((dtyR).E D f.E (fun _ _=>by simp))) rfl ?_;rintro u w3⟨e,rfl,i,r⟩;have N:e.length=24:=(wchR).len r;refine AP (out:=e) rfl U (fill_one E2 N) (fun w4 m=>?_);obtain⟨L,oA,h⟩:=Q.ex;have H:=(f.E.trans i).trans m.E;have z3:=H.size;have z4:=m.size;have z5:=i.size;have a1:((l.take k).map g).length=k:=by rw[List.length_map,List.length_take];omega
  have G:∀b,v.ownBlock=some b->w.heap.size<=b/\b<W.heap.size:=fun b S=>An oA S;refine Ax (ok:=Af) (v:=v) rfl rfl (As oA H) (Aa (m.own (n:=1) (size:=24) U EW (Nat.le_refl _)) fun _ _=>trivial) U EQ U ((wchR).one r) U U U (fun v8 w8 p=>?_);have z:∀y∈v.ownBlock.toList,w.heap.size<=y:=fun y E=>(An oA (Option.mem_toList.1 E)).1;have s:=Acc.push oA h H ((wchR).E ((wchR).mono r (ok':=fun b=>Af b/\v.ownBlock≠some b) fun b S=>⟨trivial,fun e=>by have:=G b e;omega⟩) m.E (fun _ _=>by simp)) p;refine go ?_;have z8:=p.E.size;refine⟨(k+1,v8),⟨rfl,ag,⟨by simp only;omega,(q.trans H).E p.E z,by omega,?_⟩⟩,by simp only;omega⟩;simp only;have a0:l.take (k+1)=l.take k++[x]:=by rw[List.take_add_one,V];rfl
  rw[a0,List.map_append];exact s
 ·exact Fz
theorem mapNext_ok(w:World)(a:Option Addr)(c:Nat)(l:List (Dty×Fml))(F:FuncId)[hF:AM Zp F](v1 v2:LV)(g:Dty×Fml->Dty)(K:SlAt wchR Af w (.slice a l.length c) l)(hn:l.length<=1000)
  (P:∀(W:World)(d:LV)(x:Dty×Fml),x∈l->Ext w W->(wchR).fits (fun b=>b<w.heap.size) W d x->Fn Zp F (v1++[.agg d.toArray]++v2) W fun u Z=>∃e:LV,u=.agg e.toArray/\Ext W Z/\(dtyR).fits (fun b=>b<w.heap.size\/W.heap.size<=b) Z e (g x)):
  Fn Zp 59 [.slice a l.length c,.func (.func F) v1.toArray v2.toArray] w fun u w'=>Ext w w'/\SlAt dtyR Af w' u (l.map g):=by
 have M:=(K.lt (show 0<(wchR).size by decide)).mono (ok':=fun b=>b<w.heap.size) fun b S=>S.2;have a2:(dtyR).size=19:=rfl;refine AN Tryz.func59 rfl Tryz.ntmps59 (go ?_);refine W_make0S (n:=l.length) (made_len _ _) rfl rfl rfl rfl U U (fun w1 A z1 o1=>go ?_);refine Ar (α:=Nat×Value) (fun y=>[(1,.func (.func F) v1.toArray v2.toArray),(5,y.2),(11,.slice a l.length c),(12,iV (l.length:Int)),(13,iV (y.1:Int))]) (fun y W=>y.1<=l.length/\Ext w W/\w.heap.size<W.heap.size/\Acc Af dtyR 59 19 w.heap.size W y.2 ((l.take y.1).map g)) (fun y=>l.length-y.1) (0,.slice (sm w.heap.size) 0 l.length) ag ⟨by omega,A,by omega,⟨[],o1,RsAt.nil⟩⟩ ?_;rintro⟨k,v⟩W fr⟨I,q,zW,Q⟩;simp only at I q Q;refine go ?_;by_cases R:k<l.length
 ·obtain⟨x,V⟩:=gl R;obtain⟨b,o,d,rfl,S,C,t⟩:=M.at (sz:=24) rfl V;have T:=C.E q O;have D:=(wchR).E t q (fun _ _=>by simp);have X:d.length=24:=(wchR).len t;have B:=(wchR).one t;refine go ?_;refine AQ (L:=d) rfl X T ?_;refine A2 (cs:=d) rfl X rfl B (fun w2 f=>?_);have j:=f.D;refine go ?_;refine A8 rfl j X ?_;have z2:=f.size;refine A9 (v1:=v1) (v2:=v2) (vs:=[.agg d.toArray]) rfl (P w2 d x (List.mem_of_getElem? V) (q.trans f.E) ((wchR).E D f.E (fun _ _=>by simp))) rfl ?_;rintro u w3⟨e,rfl,i,r⟩;exact E7
 ·exact Fz
theorem dty19{ok:Nat->Prop}{w:World}{c:LV}{x:Dty}(h:dtyR.fits ok w c x):∃f d L V G r B R P n C e j z t,c=[AL x.req.part,AL x.req.name,iV x.req.kind,f,d,L,V,G,iV x.since,r,B,R,P,n,C,e,j,z,t]/\FAt ok w (.agg [f,d,L,V,G].toArray) x.req.formula/\FAt ok w (.agg [r,B,R,P,n].toArray) x.first/\FAt ok w (.agg [C,e,j,z,t].toArray) x.now:=by
 obtain⟨q,a,b,rfl,K,D,S,Z,W,g⟩:=dty_cells h;obtain⟨f,d,L,V,G,rfl⟩:=Ak K;obtain⟨r,B,R,P,n,rfl⟩:=Ak D;obtain⟨C,e,j,z,t,rfl⟩:=Ak S;exact⟨f,d,L,V,G,r,B,R,P,n,C,e,j,z,t,rfl,Z,W,g⟩
theorem dty_of{ok:Nat->Prop}{w:World}{p n:LU}{k t:Int}{f a b:Fml}{c d L V G r B R P e C g j z h:Value}(Z:FAt ok w (.agg [c,d,L,V,G].toArray) f)(W:FAt ok w (.agg [r,B,R,P,e].toArray) a)(i:FAt ok w (.agg [C,g,j,z,h].toArray) b):
  dtyR.fits ok w [AL p,AL n,iV k,c,d,L,V,G,iV t,r,B,R,P,e,C,g,j,z,h] ⟨⟨p,n,k,f⟩,t,a,b⟩:=
 ⟨[AL p,AL n,iV k,c,d,L,V,G],[r,B,R,P,e],[C,g,j,z,h],rfl,⟨[c,d,L,V,G],rfl,rfl,Z⟩,⟨rfl,W⟩,⟨rfl,i⟩⟩
theorem wch_of{ok:Nat->Prop}{w:World}{p n:LU}{k t:Int}{f a b g:Fml}{o d L V G r h R P i C l j z m c B Q S e:Value}(Z:FAt ok w (.agg [o,d,L,V,G].toArray) f)(W:FAt ok w (.agg [r,h,R,P,i].toArray) a)(q:FAt ok w (.agg [C,l,j,z,m].toArray) b)(s:FAt ok w (.agg [c,B,Q,S,e].toArray) g):
  wchR.fits ok w [AL p,AL n,iV k,o,d,L,V,G,iV t,r,h,R,P,i,C,l,j,z,m,c,B,Q,S,e] (⟨⟨p,n,k,f⟩,t,a,b⟩,g):=
 ⟨_,[c,B,Q,S,e],rfl,dty_of Z W q,⟨rfl,s⟩⟩
theorem wch24{ok:Nat->Prop}{w:World}{c:LV}{x:Dty×Fml}(h:wchR.fits ok w c x):∃k d L V G r B R P n C e j z t f g Q S i,c=[AL x.1.req.part,AL x.1.req.name,iV x.1.req.kind,k,d,L,V,G,iV x.1.since,r,B,R,P,n,C,e,j,z,t,f,g,Q,S,i]/\FAt ok w (.agg [k,d,L,V,G].toArray) x.1.req.formula/\FAt ok w (.agg [r,B,R,P,n].toArray) x.1.first/\FAt ok w (.agg [C,e,j,z,t].toArray) x.1.now/\FAt ok w (.agg [f,g,Q,S,i].toArray) x.2:=by
 obtain⟨a,b,rfl,Z,⟨o,W⟩⟩:=h;obtain⟨k,d,L,V,G,r,B,R,P,n,C,e,j,z,t,rfl,l,m,A⟩:=dty19 Z;obtain⟨f,g,Q,S,i,rfl⟩:=Ak o;exact⟨k,d,L,V,G,r,B,R,P,n,C,e,j,z,t,f,g,Q,S,i,rfl,l,m,A,W⟩
theorem watch_ok(w:World)(sa:Option Addr)(sc:Nat)(S:List Sgn)(d:LV)(y:Dty)(x:Int)(b3:Nat->Prop)(hS:SlAt sgnR Af w (.slice sa S.length sc) S)(hd:dtyR.fits b3 w d y)(c9:szF y.req.formula<=1000000)(d0:szF y.first<=1000000)(hG:GF w)(hK:KY w)(hN:10<=w.heap.size):
  Fn Zp 56 [.slice sa S.length sc,.agg d.toArray,iV x] w fun u w'=>∃e:LV,u=.agg e.toArray/\Ext w w'/\wchR.fits (fun b=>b3 b\/w.heap.size<=b) w' e (y,stepG S y.now x):=by
 have hone:=dtyR.one hd;have hd:=dtyR.lt hd;obtain⟨I,K,T,Z,q4,r,B,R,E,F,C,f,j,z,m,rfl,f1,f2,f3⟩:=dty19 hd;refine AN Tryz.func56 rfl Tryz.ntmps56 (go ?_);refine A3 (L:=[AL y.req.part,AL y.req.name,iV y.req.kind,I,K,T,Z,q4,iV y.since,r,B,R,E,F,C,f,j,z,m]) rfl (fun w1 n1=>?_);refine AY (fun w2 W=>?_);have z1:=n1.size;have z2:=W.size;have e2:Ext w w2:=n1.E.trans W.E;have B1:=n1.D.E W.E O;have B2:=W.D;refine go ?_;refine Ac (rd 0 5 (.alt 5 (.read 6 (.alt 7 (.alt 8 .done .stop) .stop)) (.alt 7 (.alt 5 (.read 6 (.alt 8 .done .stop)) .stop) .stop))) Ap EO (fun N kd H=>⟨Ext N,?_,?_⟩)
 ·exact FQ
 have a0:=B1.E kd O;have d2:=B2.E kd O;have c3:Cells N w.heap.size (0+14) [C,f,j,z,m]:=a0.cells.part 14 5;have H:=e2.trans kd;obtain⟨Q,a3⟩:∃Q:LV,Blk w2 w1.heap.size 101 Q/\Q.length=24:=⟨_,B2,rfl⟩;have b1:=a3.1.E kd O;obtain⟨A,hA⟩:∃A:LV,A=[AL y.req.part,AL y.req.name,iV y.req.kind,I,K,T,Z,q4,iV y.since,r,B,R,E,F,C,f,j,z,m]:=⟨_,rfl⟩;refine go ?_;refine D_R (v:=.agg [C,f,j,z,m].toArray) rfl rfl (fun V hV=>by refine AQ (L:=[C,f,j,z,m]) rfl rfl (c3.E hV O) ?_;exact AA ⟨rfl,rfl,rfl⟩) ?_;refine go ?_;have a6:=hG.ext H;have a7:=hK.E H O;have a8:=Nat.le_trans hN H.size;have a9:=hS.ext H;have a4:FAt Af N (.agg [C,f,j,z,m].toArray) y.now:=(f3.ext H).mono fun _ _=>trivial
 refine D_leaf (α:=Nat×Value×Value×Value×Value×Value) (.alt 8 .done .stop) (fun u=>[(4,pt w.heap.size),(6,pt w1.heap.size),(7,pt u.1),(14,.agg [AL y.req.part,AL y.req.name,iV y.req.kind,I,K,T,Z,q4,iV y.since,r,B,R,E,F,C,f,j,z,m,u.2.1,u.2.2.1,u.2.2.2.1,u.2.2.2.2.1,u.2.2.2.2.2].toArray)])
  (fun u V=>Ext N V/\N.heap.size<=u.1/\(∃Q,Blk V u.1 101 Q/\Q.length=24)/\FAt (fun b=>N.heap.size<=b/\b≠u.1) V (.agg [u.2.1,u.2.2.1,u.2.2.2.1,u.2.2.2.2.1,u.2.2.2.2.2].toArray) (stepG S y.now x)) ?_ (fun b2=>?_)
 ·rintro⟨c7,X,o,M,G,D⟩f' V⟨P,h7,⟨z7,B7,b0⟩,fs⟩;simp only at h7 B7 fs;have c8:oneC [X,o,M,G,D]:=fmlR.one (c:=[X,o,M,G,D]) ⟨rfl,fs⟩;have c6:oneC [AL y.req.part,AL y.req.name,iV y.req.kind,I,K,T,Z,q4,iV y.since,r,B,R,E,F,C,f,j,z,m,X,o,M,G,D]:=oneC_app (l:=[AL y.req.part,AL y.req.name,iV y.req.kind,I,K,T,Z,q4,iV y.since,r,B,R,E,F,C,f,j,z,m]) hone c8;refine D_E rfl ?_;refine AI (cs:=[AL y.req.part,AL y.req.name,iV y.req.kind,I,K,T,Z,q4,iV y.since,r,B,R,E,F,C,f,j,z,m,X,o,M,G,D]) rfl rfl rfl c6 B7 (by simp[b0]) (fun W4 p4=>?_);have g4:=p4.D;rw[BY z7 _ (by rw[b0];rfl)]at g4;have zd:=kd.size;have g:Ext N W4:=P.E p4.E EP;have b5:=H.trans g;have z4:=g.size;have b8:=fs.E p4.E (fun b a s=>by rw[List.mem_singleton]at s;exact a.2 s);have h1:=(a0.E g O);have cq:Cells W4 w.heap.size (0+0+3) [I,K,T,Z,q4]:=h1.cells.part 3 5;have d7:=b1.E g O;refine wNl g ?_;refine go ?_;refine AQ (L:=[I,K,T,Z,q4]) rfl rfl cq ?_;refine AF (mcopied_ok W4 _ y.req.formula _ (f1.ext b5) c9) rfl ?_;rintro u5 W5⟨k5,r5⟩;obtain⟨d5,rfl,c1,ho5⟩:=r5.cells;obtain⟨u0,u1,u2,u3,u4,rfl⟩:=Ak c1;have g5:=g4.E k5 O;refine go ?_;refine AI (cs:=[u0,u1,u2,u3,u4]) rfl rfl rfl ho5 g5 O (fun W6 p6=>?_);have g6:Blk W6 c7 101 [AL y.req.part,AL y.req.name,iV y.req.kind,u0,u1,u2,u3,u4,iV y.since,r,B,R,E,F,C,f,j,z,m,X,o,M,G,D]:=p6.D;have b4:=k5.any.trans p6.E (fun x h _=>h);have e6:Ext N W6:=(g.trans k5).E p6.E EP;have b6:=H.trans e6;have d4:c7<W4.heap.size:=g4.lt;have r6:=r5.E p6.E (fun b a s=>by rw[List.mem_singleton]at s;simp only at s;rcases a with a|a<;>omega);have d8:=b4.size;have c0:=a0.E e6 O;have ca:Cells W6 w.heap.size (0+9) [r,B,R,E,F]:=c0.cells.part 9 5;have b9:=(b8.ext k5).E p6.E (fun b a s=>by rw[List.mem_singleton]at s;exact a.2 s);refine go ?_;refine AQ (L:=[r,B,R,E,F]) rfl rfl ca ?_;refine AF (mcopied_ok W6 _ y.first _ (f2.ext b6) d0) rfl ?_;rintro u7 W7⟨k7,r7⟩;obtain⟨d6,rfl,c2,c4⟩:=r7.cells;obtain⟨v0,v1,v2,v3,v4,rfl⟩:=Ak c2;have g7:=g6.E k7 O;refine go ?_;refine AI (cs:=[v0,v1,v2,v3,v4]) rfl rfl rfl c4 g7 O (fun W8 p8=>?_);have g8:Blk W8 c7 101 [AL y.req.part,AL y.req.name,iV y.req.kind,u0,u1,u2,u3,u4,iV y.since,v0,v1,v2,v3,v4,C,f,j,z,m,X,o,M,G,D]:=p8.D;have e8:Ext N W8:=(e6.trans k7).E p8.E EP;have a1:=H.trans e8;have d1:=b1.E e8 O;refine go ?_;have r8:=(r6.ext k7).E p8.E (fun b a s=>by rw[List.mem_singleton]at s;simp only at s;rcases a with a|a<;>omega);have r9:=r7.E p8.E (fun b a s=>by rw[List.mem_singleton]at s;simp only at s;rcases a with a|a<;>omega);have a5:=(b9.ext k7).E p8.E (fun b a s=>by rw[List.mem_singleton]at s;exact a.2 s);have c5:oneC [AL y.req.part,AL y.req.name,iV y.req.kind,u0,u1,u2,u3,u4,iV y.since,v0,v1,v2,v3,v4,C,f,j,z,m,X,o,M,G,D]:=wchR.one (wch_of (p:=y.req.part) (n:=y.req.name) (k:=y.req.kind) (t:=y.since) (r8.mono fun _ _=>trivial) (r9.mono fun _ _=>trivial) ((f3.ext a1).mono (ok':=Af) fun _ _=>trivial) (a5.mono fun _ _=>trivial));refine AI (cs:=[AL y.req.part,AL y.req.name,iV y.req.kind,u0,u1,u2,u3,u4,iV y.since,v0,v1,v2,v3,v4,C,f,j,z,m,X,o,M,G,D]) rfl rfl rfl c5 d1 (by simp[a3.2]) (fun W9 i=>?_);have g9:=i.D;rw[BY Q _ (by rw[a3.2];rfl)]at g9;have b7:Ext w W9:=a1.E i.E EP;have d3:w1.heap.size<w2.heap.size:=by omega
  refine go ?_;refine AW rfl rfl rfl g9.cells ⟨_,rfl,b7,?_⟩;refine wch_of ((r8.E i.E ?_).mono ?_) ((r9.E i.E ?_).mono ?_) (((f3.ext a1).E i.E ?_).mono ?_) ((a5.lt.E i.E ?_).mono ?_)
  ·intro b a s;rw[List.mem_singleton]at s;rcases a with a|a<;>omega
  ·intro b a;rcases a with a|a
   ·exact .inl a.1
   ·exact .inr U
  ·intro b a s;rw[List.mem_singleton]at s;rcases a with a|a<;>omega
  ·intro b a;rcases a with a|a
   ·exact .inl a.1
   ·exact .inr U
  ·intro b a s;rw[List.mem_singleton]at s;omega
  ·exact fun b a=>.inl a.1
  ·intro b a s;rw[List.mem_singleton]at s;have:=a.1.1;omega
  ·exact fun b a=>.inr (by have:=a.1.1;have:=H.size;omega)
 refine D_A rfl ?_ ?_
 ·refine AF (Step_ok N sa sc S _ y.now x a9 a4 a6 a7 a8) rfl ?_;rintro u V⟨P,fV⟩;obtain⟨q,rfl,a2, -⟩:=fV.cells;obtain⟨X,o,M,G,D,rfl⟩:=Ak a2;refine wNl P ?_;refine go ?_;refine D_E rfl ?_;refine AY (fun V2 W=>?_);refine wNl (P.trans W.E) ?_;have:=P.size;have:=H.size;exact b2 (V.heap.size,X,o,M,G,D) _ _ ag ⟨P.trans W.E,by simp only;omega,⟨_,W.D,rfl⟩,(fV.lt.ext W.E).mono fun b a=>⟨by have:=a.1.1;omega,by have:=a.2;simp only;omega⟩⟩
 ·refine D_E rfl ?_;refine AY (fun V2 W=>?_);have z2:=W.size;refine wNl W.E ?_;refine D_E rfl ?_;refine AF (Step_ok V2 sa sc S _ y.now x (a9.ext W.E) (a4.ext W.E) (a6.ext W.E) (a7.E W.E O) (Nat.le_trans a8 W.E.size)) rfl ?_;rintro u V⟨P,fV⟩;obtain⟨q,rfl,a2, -⟩:=fV.cells;obtain⟨X,o,M,G,D,rfl⟩:=Ak a2;refine wNl (W.E.trans P) ?_;refine go ?_;have:=H.size;exact b2 (N.heap.size,X,o,M,G,D) _ _ ag ⟨W.E.trans P,Nat.le_refl _,⟨_,W.D.E P O,rfl⟩,fV.mono fun b a=>⟨by have:=a.1;omega,by have:=a.1;simp only;omega⟩⟩
theorem req8{ok:Nat->Prop}{w:World}{c:LV}{x:Rqm}(h:reqR.fits ok w c x):∃a b L V G,c=[AL x.part,AL x.name,iV x.kind,a,b,L,V,G]/\FAt ok w (.agg [a,b,L,V,G].toArray) x.formula:=by
 obtain⟨d,rfl,C,P⟩:=h;obtain⟨a,b,L,V,G,rfl⟩:=Ak C;exact⟨a,b,L,V,G,rfl,P⟩
theorem mstart1_ok(w:World)(tb:Nat)(t:Int)(d:LV)(r:Rqm)(ok0:Nat->Prop)(C:reqR.fits ok0 w d r)(ht:Blk w tb 3 [iV t])(b9:szF r.formula<=1000000)(X:GF w)(H:KY w)(T:10<=w.heap.size):
  Fn Zp 51 [.agg d.toArray,pt tb] w fun u w'=>∃e:LV,u=.agg e.toArray/\Ext w w'/\dtyR.fits (fun b=>ok0 b\/w.heap.size<=b) w' e (strD t r):=by
 have C:=reqR.lt C;obtain⟨j,l,m,V,G,rfl,f1⟩:=req8 C;refine AN Tryz.func51 rfl Tryz.ntmps51 (go ?_);refine A3 (L:=[AL r.part,AL r.name,iV r.kind,j,l,m,V,G]) rfl (fun w1 n1=>?_);refine AY (fun N B=>?_);have z1:=n1.size;have z2:=B.size;have c:Ext w N:=n1.E.trans B.E;have F:=n1.D.E B.E O;have B2:=B.D;obtain⟨Q,c1,hzl⟩:∃Q:LV,Blk N w1.heap.size 59 Q/\Q.length=19:=⟨_,B2,rfl⟩;clear B2;have cq:Cells N w.heap.size (0+3) [j,l,m,V,G]:=F.cells.part 3 5;have a8:=f1.ext c;refine go ?_;refine AQ (L:=[j,l,m,V,G]) rfl rfl cq ?_;refine AF (gkernel_ok N _ r.formula (a8.mono fun _ _=>trivial) (X.ext c) (H.E c O) (Nat.le_trans T c.size)) rfl ?_;rintro u w3⟨cu,rfl,k3,fk⟩;obtain⟨q,rfl,hcs,b7⟩:=fk.cells;obtain⟨y0,y1,y2,y3,y4,rfl⟩:=Ak hcs;refine go ?_;refine A2 (cs:=[y0,y1,y2,y3,y4]) rfl rfl EQ b7 (fun w4 v=>?_);have z4:=v.size;have y:=k3.trans v.E;have e4:=c.trans y;have a9:=fk.ext v.E;have B4:=v.D;have g:=F.E y O;have a7:Cells w4 w.heap.size (0+3) [j,l,m,V,G]:=g.cells.part 3 5;refine go ?_;refine AQ (L:=[j,l,m,V,G]) rfl rfl a7 ?_;refine AF (mcopied_ok w4 _ r.formula _ (f1.ext e4) b9) rfl ?_;rintro u5 w5⟨A,r5⟩;obtain⟨c5,rfl,hc5,b5⟩:=r5.cells;obtain⟨D,E,I,K,R,rfl⟩:=Ak hc5;have B15:=g.E A O;have e5:=e4.trans A;refine go ?_;refine AI (cs:=[D,E,I,K,R]) rfl rfl rfl b5 B15 O (fun w6 a=>?_);have a5:Blk w6 w.heap.size 57 [AL r.part,AL r.name,iV r.kind,D,E,I,K,R]:=a.D;have e6:Ext w w6:=e5.E a.E O;have d0:=y.size;have z5:=A.size;have z6:=a.size;have z3:=k3.size;have a6:=(B4.E A O).E a.E EP;have c2:=((c1.E y O).E A O).E a.E EP;have r6:=r5.E a.E (fun b S s=>by rw[List.mem_singleton]at s;rcases S with S|S<;>omega);have fk6:=(a9.ext A).E a.E (fun b S s=>by rw[List.mem_singleton]at s;omega);have b8:=ht.E e6 O;refine go ?_;refine Ac (rd 0 3 (.read 4 (.alt 3 (.alt 5 (.read 6 (.alt 7 .done .stop)) .stop) .stop))) Ap EO (fun wd M ed=>⟨Keep [w1.heap.size] wd,?_,?_⟩)
 ·exact Ff
 have c3:=a5.E M O;have c4:=a6.E M O;have c8:=b8.E M O;have c9:=ht.lt;refine go ?_;have W:=e6.trans M;have fkd:=(fk6.ext M).mono (ok':=Af) fun _ _=>trivial;refine D_E rfl ?_;refine AF (Canon_ok wd _ _ fkd (X.ext W) (H.E W O) (Nat.le_trans T W.size)) rfl ?_;rintro ua Va⟨f,fa⟩;obtain⟨c6,rfl,hca, -⟩:=fa.cells;obtain⟨a0,a1,a2,a3,a4,rfl⟩:=Ak hca;refine wNl f.any ?_;refine D_E rfl ?_;have o:=W.trans f;refine AF (Canon_ok Va _ _ (fkd.ext f) (X.ext o) (H.E o O) (Nat.le_trans T o.size)) rfl ?_;rintro ub Vb⟨Z,P⟩;obtain⟨c7,rfl,hcb, -⟩:=P.cells;obtain⟨b0,b1,b2,b3,b4,rfl⟩:=Ak hcb;have eb:=o.trans Z;have z:=f.trans Z;refine wNl z.any ?_;refine go ?_;refine D_E rfl ?_;have c0:=(c2.E M O).E z O;have rb:=(r6.ext M).ext z;have fab:=fa.ext Z;have zd:=M.size;have za:=f.size;have b6:oneC [AL r.part,AL r.name,iV r.kind,D,E,I,K,R,iV t,a0,a1,a2,a3,a4,b0,b1,b2,b3,b4]:=dtyR.one (dty_of (p:=r.part) (n:=r.name) (k:=r.kind) (t:=t) (rb.mono (ok':=Af) fun _ _=>trivial) (fab.mono fun _ _=>trivial) (P.mono fun _ _=>trivial));refine AI (cs:=[AL r.part,AL r.name,iV r.kind,D,E,I,K,R,iV t,a0,a1,a2,a3,a4,b0,b1,b2,b3,b4]) rfl rfl rfl b6 c0 (by simp[hzl]) (fun W9 i=>?_);have g9:=i.D;rw[BY Q _ (by rw[hzl];rfl)]at g9;have e9:Ext w W9:=eb.E i.E EP;refine wNl (z.any.trans i.E (fun x h _=>h)) ?_;refine go ?_;refine AW rfl rfl rfl g9.cells ⟨_,rfl,e9,?_⟩;refine dty_of ((rb.E i.E ?_).mono ?_) ((fab.E i.E ?_).mono ?_) ((P.E i.E ?_).mono ?_)
 ·intro b S s;rw[List.mem_singleton]at s;rcases S with S|S<;>omega
 ·intro b S;rcases S with S|S
  ·exact .inl S.1
  ·exact .inr U
 ·intro b S s;rw[List.mem_singleton]at s;omega
 ·exact fun b S=>.inr U
 ·intro b S s;rw[List.mem_singleton]at s;omega
 ·exact fun b S=>.inr U
theorem tick1_ok(w:World)(H V:Nat)(X:Option Addr)(c:Nat)(S:List Sgn)(d:LV)(y:Dty)(x:Int)(G:Nat->Prop)(a:Blk w H 22 [.slice X S.length c])(t:Blk w V 3 [iV x])(l:SlAt sgnR Af w (.slice X S.length c) S)(C:dtyR.fits G w d y)(M:szF y.req.formula<=1000000)(D:szF y.first<=1000000)(j:GF w)(k:KY w)(n:10<=w.heap.size):
  Fn Zp 55 [.agg d.toArray,pt H,pt V] w fun u w'=>∃e:LV,u=.agg e.toArray/\Ext w w'/\wchR.fits (fun b=>G b\/w.heap.size<=b) w' e (y,stepG S y.now x):=by
 have o:d.length=19:=dtyR.len C;have q:=dtyR.lt C;refine AN Tryz.func55 rfl Tryz.ntmps55 (go ?_);refine A3 (L:=d) rfl (fun I A=>?_);refine AY (fun N W=>?_);have m:=A.size;have R:=W.size;have r:Ext w N:=A.E.trans W.E;have F:=A.D.E W.E O;have E:=W.D;obtain⟨Q,B,K⟩:∃Q:LV,Blk N I.heap.size 101 Q/\Q.length=24:=⟨_,E,rfl⟩;clear E;have T:=a.E r O;have h:=t.E r O;refine go ?_;refine A8 rfl F o (go ?_);refine AF (watch_ok N X c S d y x _ (l.ext r) (dtyR.ext q r) M D (j.ext r) (k.E r O) (Nat.le_trans n r.size)) rfl ?_;rintro u z⟨e,rfl,i,P⟩;have f:e.length=24:=wchR.len P;refine AI (cs:=e) rfl rfl f (wchR.one P) (B.E i O) U (fun v p=>?_);have g:=p.D;rw[BY Q _ U]at g;refine go ?_;refine AW rfl rfl f g.cells ⟨_,rfl,(r.trans i).E p.E EP,wchR.mono (wchR.E P p.E ?_) ?_⟩
 ·intro b a s;rw[List.mem_singleton]at s;rcases a with a|a<;>omega
 ·intro b a;rcases a with a|a
  ·exact .inl a.1
  ·exact .inr U
theorem gone_ok(w:World)(d:LV)(y:Dty×Fml)(g:wchR.fits Af w d y):Fn Zp 58 [.agg d.toArray] w fun u w'=>u=.bool (decide (y.2.op=0))/\Ext w w':=by
 obtain⟨h,i,k,V,G,r,B,R,P,n,C,b,j,z,c,l,e,Q,S,f,rfl, -, -, -,a⟩:=wch24 g;obtain rfl:=a.op0;refine AN Tryz.func58 rfl Tryz.ntmps58 (go ?_);refine A3 (L:=[AL y.1.req.part,AL y.1.req.name,iV y.1.req.kind,h,i,k,V,G,iV y.1.since,r,B,R,P,n,C,b,j,z,c,iV y.2.op,e,Q,S,f]) rfl (fun m A=>go ?_);by_cases t:y.2.op=0
 ·rw[t]at A;refine go ?_;exact AC rfl ⟨by rw[decide_eq_true t];rfl,A.E⟩
 ·refine go ?_;exact AC rfl ⟨by rw[decide_eq_false t];rfl,A.E⟩
theorem advanced_ok(w:World)(d:LV)(y:Dty×Fml)(H:Nat->Prop)(C:wchR.fits H w d y):Fn Zp 60 [.agg d.toArray] w fun u w'=>∃e:LV,u=.agg e.toArray/\Ext w w'/\dtyR.fits (fun b=>H b\/w.heap.size<=b) w' e (y.1.to y.2):=by
 have C:=wchR.lt C;have a1:=wchR.one C;obtain⟨m,o,q,V,G,r,h,R,P,l,T,X,j,Z,b4,c,B,Q,S,f,rfl,f1,f2, -,a⟩:=wch24 C;refine AN Tryz.func60 rfl Tryz.ntmps60 (go ?_);refine A3 (L:=[AL y.1.req.part,AL y.1.req.name,iV y.1.req.kind,m,o,q,V,G,iV y.1.since,r,h,R,P,l,T,X,j,Z,b4,c,B,Q,S,f]) rfl (fun w1 A=>?_);refine AY (fun N W=>?_);have z1:=A.size;have z2:=W.size;have e2:Ext w N:=A.E.trans W.E;have F:=A.D.E W.E O;have E:=W.D;obtain⟨v,a0,K⟩:∃v:LV,Blk N w1.heap.size 59 v/\v.length=19:=⟨_,E,rfl⟩;clear E;have cc:Cells N w.heap.size (0+19) [c,B,Q,S,f]:=F.cells.part 19 5;refine go ?_;refine AQ (L:=[c,B,Q,S,f]) rfl rfl cc (go ?_);refine AI (cs:=[c,B,Q,S,f]) rfl rfl rfl (fmlR.one ⟨rfl,a⟩) F O (fun z s=>?_);have M:Blk z w.heap.size 101 [AL y.1.req.part,AL y.1.req.name,iV y.1.req.kind,m,o,q,V,G,iV y.1.since,r,h,R,P,l,c,B,Q,S,f,c,B,Q,S,f]:=s.D;have ch:Cells z w.heap.size (0+0) [AL y.1.req.part,AL y.1.req.name,iV y.1.req.kind,m,o,q,V,G,iV y.1.since,r,h,R,P,l,c,B,Q,S,f]:=M.cells.part 0 19;have z3:=s.size;have I:Ext w z:=e2.E s.E O;refine go ?_;refine AQ (L:=[AL y.1.req.part,AL y.1.req.name,iV y.1.req.kind,m,o,q,V,G,iV y.1.since,r,h,R,P,l,c,B,Q,S,f]) rfl rfl ch ?_;have i:=dty_of (p:=y.1.req.part) (n:=y.1.req.name) (k:=y.1.req.kind) (t:=y.1.since) (f1.ext I) (f2.ext I) (a.ext I);refine AI (cs:=[AL y.1.req.part,AL y.1.req.name,iV y.1.req.kind,m,o,q,V,G,iV y.1.since,r,h,R,P,l,c,B,Q,S,f]) rfl rfl rfl (dtyR.one i) (a0.E s.E EP) (by simp[K]) (fun w4 x=>?_);have g:=x.D;rw[BY v _ (by rw[K];rfl)]at g;refine go ?_;refine AW rfl rfl rfl g.cells ⟨_,rfl,I.E x.E EP,dtyR.mono (dtyR.E i x.E ?_) ?_⟩
 ·intro b D hm;rw[List.mem_singleton]at hm;omega
 ·exact fun b D=>.inl D.1
theorem fidx_hit{α:Type}{l:List α}{p:α->Bool}{k:Nat}{x:α}(V:l[k]?=some x)(a:p x=true)(T:∀(j:Nat)(y:α),j<k->l[j]?=some y->p y=false):l.findIdx? p=some k:=by
 have L:=(List.getElem?_eq_some_iff.1 V).1;refine List.findIdx?_eq_some_iff_getElem.2 ⟨L,?_,fun j n=>?_⟩
 ·have:=(List.getElem?_eq_some_iff.1 V).2;rw[this];exact a
 ·rw[T j _ n (List.getElem?_eq_getElem U)];simp
theorem fidx_miss{α:Type}{l:List α}{p:α->Bool}(T:∀(j:Nat)(y:α),j<l.length->l[j]?=some y->p y=false):l.findIdx? p=none:=by
 refine List.findIdx?_eq_none_iff.2 fun x V=>?_;obtain⟨i,H⟩:=List.getElem?_of_mem V;exact T i x (List.getElem?_eq_some_iff.1 H).1 H
def fidxI{α:Type}(l:List α)(p:α->Bool):Int:=match l.findIdx? p with|some j=>(j:Int)|none=> -1
theorem fidx_any{α:Type}(l:List α)(p:α->Bool):decide (0<=fidxI l p)=l.any p:=by
 unfold fidxI;cases h:l.findIdx? p with
 |none=>
  have:=List.findIdx?_eq_none_iff.1 h;simp only;rw[decide_eq_false U]
  symm
  rw[List.any_eq_false];exact fun x V=>by simpa using this x V
 |some j=>
  obtain⟨Z,W,_⟩:=List.findIdx?_eq_some_iff_getElem.1 h;simp only;rw[decide_eq_true U];exact(List.any_eq_true.2 ⟨_,List.getElem_mem Z,W⟩).symm
theorem idxW_ok(w:World)(a:Option Addr)(c:Nat)(l:List (Dty×Fml))(F:FuncId)[hF:AM Zp F](v1 v2:LV)(p:Dty×Fml->Bool)(K:SlAt wchR Af w (.slice a l.length c) l)(I:l.length<=100000)
  (P:∀(W:World)(d:LV)(x:Dty×Fml),x∈l->Ext w W->(wchR).fits Af W d x->Fn Zp F (v1++[.agg d.toArray]++v2) W fun u Z=>u=.bool (p x)/\Ext W Z):
  Fn Zp 116 [.slice a l.length c,.func (.func F) v1.toArray v2.toArray] w fun u w'=>u=iV (fidxI l p)/\Ext w w':=by
 refine AN Tryz.func116 rfl Tryz.ntmps116 (go ?_);refine Ar (α:=Nat) (fun k=>[(0,.slice a l.length c),(1,.func (.func F) v1.toArray v2.toArray),(7,iV (l.length:Int)),(8,iV (k:Int))]) (fun k W=>k<=l.length/\Ext w W/\∀(j:Nat)(y:Dty×Fml),j<k->l[j]?=some y->p y=false) (fun k=>l.length-k) 0 ag ⟨by omega,Ext.refl _,fun j y h=>by omega⟩ ?_;rintro k W D⟨n,q,G⟩;refine go ?_;by_cases g:k<l.length
 ·obtain⟨x,V⟩:=gl g;obtain⟨b,o,d,rfl,S,C,t⟩:=K.at (sz:=24) rfl V;have T:=C.E q O;have e:=(wchR).E t q (fun _ _=>by simp);have X:d.length=24:=(wchR).len t;refine go ?_;refine AQ (L:=d) rfl X T ?_;refine A9 (v1:=v1) (v2:=v2) (vs:=[.agg d.toArray]) rfl (P W d x (List.mem_of_getElem? V) q e) rfl ?_;rintro _ z⟨rfl,i⟩;cases hp:p x with
  |true=>
   refine go ?_;exact AC rfl ⟨by unfold fidxI;rw[fidx_hit V hp G];rfl,q.trans i⟩
  |false=>
   refine go ?_;refine⟨k+1,⟨rfl,ag,⟨by omega,q.trans i,fun j y m E=>?_⟩⟩,by omega⟩;by_cases f:j=k
   ·subst f;rw[V]at E;cases E;exact hp
   ·exact G j y U E
 ·obtain rfl:k=l.length:=by omega
  refine go ?_;exact AC rfl ⟨by unfold fidxI;rw[fidx_miss G];rfl,q⟩
theorem hasW_ok(w:World)(a:Option Addr)(c:Nat)(l:List (Dty×Fml))(F:FuncId)[hF:AM Zp F](v1 v2:LV)(p:Dty×Fml->Bool)(K:SlAt wchR Af w (.slice a l.length c) l)(I:l.length<=100000)
  (P:∀(W:World)(d:LV)(x:Dty×Fml),x∈l->Ext w W->(wchR).fits Af W d x->Fn Zp F (v1++[.agg d.toArray]++v2) W fun u b=>u=.bool (p x)/\Ext W b):
  Fn Zp 57 [.slice a l.length c,.func (.func F) v1.toArray v2.toArray] w fun u w'=>u=.bool (l.any p)/\Ext w w':=by
 have B:=fidx_any l p;refine AN Tryz.func57 rfl Tryz.ntmps57 (go ?_);refine AF (idxW_ok w a c l F v1 v2 p K I P) rfl ?_;rintro _ Q⟨rfl,Z⟩;by_cases t:0<=fidxI l p
 ·rw[decide_eq_true t]at B;refine go ?_;exact AC rfl ⟨congrArg Value.bool B,Z⟩
 ·rw[decide_eq_false t]at B;refine go ?_;exact AC rfl ⟨congrArg Value.bool B,Z⟩
theorem mtick_ok(w:World)(X:Option Addr)(b:Nat)(S:List Sgn)(a:Option Addr)(c:Nat)(l:List Dty)(x:Int)(t:SlAt sgnR Af w (.slice X S.length b) S)(K:SlAt dtyR Af w (.slice a l.length c) l)(G:l.length<=1000)(o:∀y∈l,szF y.req.formula<=1000000/\szF y.first<=1000000)(n:GF w)(q:KY w)(s:10<=w.heap.size):
  Fn Zp 20 [.slice X S.length b,.slice a l.length c,iV x] w fun u w'=>Ext w w'/\SlAt dtyR Af w' u (tickF S l x):=by
 refine AN Tryz.func20 rfl Tryz.ntmps20 (go ?_);refine A3 (L:=[.slice X S.length b]) rfl (fun Q A=>?_);refine A3 (L:=[iV x]) rfl (fun N e=>?_);have r:=A.E.trans e.E;have F:=A.D.E e.E O;have m:=e.D;refine go ?_;refine AF (mapWatch_ok N a c l 55 [] [pt w.heap.size,pt Q.heap.size] (fun y=>(y,stepG S y.now x)) (K.ext r) G (fun W d y E H C=>?_)) rfl ?_
 ·have D:=r.trans H;exact tick1_ok W w.heap.size Q.heap.size X b S d y x _ (F.E H O) (m.E H O) (t.ext D) C (o y E).1 (o y E).2 (n.ext D) (q.E D O) (Nat.le_trans s D.size)
 rintro u z⟨i,R⟩;have I:=r.trans i;obtain⟨P,h,rfl,_⟩:=R.len;refine go ?_;refine AF (hasW_ok z P h _ 58 [] [] (fun p=>decide (p.2.op=0)) R (by rw[List.length_map];omega) (fun W d y E H C=>gone_ok W d y C)) rfl ?_;rintro _ v⟨rfl,k⟩;have g:=I.trans k;have B:((l.map fun y=>(y,stepG S y.now x)).any fun p=>decide (p.2.op=0))=l.any fun y=>decide ((stepG S y.now x).op=0):=by rw[List.any_map];rfl
 rw[B];unfold tickF;cases hc:l.any fun y=>decide ((stepG S y.now x).op=0)with
 |true=>
  rw[if_pos rfl];refine go ?_;exact AC rfl ⟨g,none,0,[],rfl,⟨none,0,rfl,Nat.le_refl _,by omega,fun _=>rfl,.inl rfl⟩,RsAt.nil⟩
 |false=>
  rw[if_neg O];refine go ?_;refine AF (mapNext_ok v P h _ 60 [] [] (fun p=>p.1.to p.2) (R.ext k) (by rw[List.length_map];omega) (fun W d y E H C=>advanced_ok W d y _ C)) rfl ?_;rintro u f⟨M,j⟩;refine go ?_;refine AC rfl ⟨g.trans M,?_⟩;rw[List.map_map]at j;exact j
theorem mstart_ok(w:World)(X:Option Addr)(j:Nat)(g:Option Addr)(S:Nat)(s:Spc)(t:Int)(ht:0<=t)(l:SlAt sgnR Af w (.slice X s.sigs.length j) s.sigs)(G:SlAt reqR Af w (.slice g s.reqs.length S) s.reqs)(hz:∀r∈s.reqs,szF r.formula<=1000000)(q:GF w)(x:KY w)(K:10<=w.heap.size):
  Fn Zp 19 [.agg #[.slice X s.sigs.length j,.slice g s.reqs.length S],iV t] w fun u w'=>∃(v:Value)(e:Int),u=.tuple #[v,iV e]/\Ext w w'/\(e=0↔chkB s=true)/\(chkB s=true->SlAt dtyR Af w' v (startF s t)):=by
 refine AN Tryz.func19 rfl Tryz.ntmps19 (go ?_);refine A3 (L:=[.slice X s.sigs.length j,.slice g s.reqs.length S]) rfl (fun Q A=>?_);refine A3 (L:=[iV t]) rfl (fun w2 p=>?_);have f:=A.E.trans p.E;have F:=A.D.E p.E O;have E:=p.D;refine go ?_;refine AF (check_ok w2 X j g S s (l.ext f) (G.ext f) (q.ext f) (x.E f O) (Nat.le_trans K f.size)) rfl ?_;rintro v z⟨i,n,xs,ho,a4,a8,R,c⟩;have I:=f.trans i;have a2:=F.E i O;have Z:=E.E i O;have hs:Sl Af z v n xs:=Aa ho fun _ _=>trivial;obtain⟨va,vc,rfl,a5,a6,a7,a0⟩:=hs;refine go ?_;by_cases m:n=0;rotate_left
 ·have T:¬chkB s=true:=fun h=>m (R.2 h);obtain⟨e,P,a1⟩:=c m;obtain⟨b,o,rfl, -,C⟩:=a0.resolve_left m;have a:=C 1 _ a1;refine go ?_;refine Ac (rd 0 6 .done) Ap EO (fun N M ed=>⟨Ext N,?_,?_⟩)
  ·exact FQ
  have q1:∀V,Ext N V->V.cell? ⟨b,o+0*2+1,none⟩=some (iV e):=fun V k=>k.cell (M.cell Eo O) O;refine go ?_;exact BP rfl ⟨_,e,rfl,I.trans M,by simp[P,T],fun h=>absurd h T⟩
 ·have T:=R.1 m;have a3:s.reqs.length<=16:=by simp[chkB]at T;omega
  subst m;refine go ?_;refine AF (mapStart_ok z g S s.reqs 51 [] [pt Q.heap.size] (strD t) (G.ext I) U (fun W d y hy H hd=>?_)) rfl ?_
  ·have D:=I.trans H;exact mstart1_ok W Q.heap.size t d y _ hd (Z.E H O) (hz y hy) (q.ext D) (x.E D O) (Nat.le_trans K D.size)
  rintro u w4⟨k4,B⟩;refine go ?_;exact BP rfl ⟨_,0,rfl,I.trans k4,by simp[T],fun _=>B⟩
section
variable {mk:Prop}[MK mk]
end

section
variable {mk:Prop}[MK mk]
end

theorem GP.size{w:World}(h:GP w):10<=w.heap.size:=h.gk.gv.size
def hdA:Fml:=isF [97] 1
def hdB:Fml:=isF [98] 1
def hd1:Fml:=⟨9,[],0,0,[⟨9,[],0,0,[hdA,isF [98] 0]⟩,⟨4,[],0,0,[isF [99] 2]⟩]⟩
def hd2:Fml:=⟨5,[],0,0,[hdA,⟨5,[],0,0,[hdB,isF [99] 1]⟩,⟨6,[],0,0,[hdA,hdB]⟩]⟩
def hd3:Fml:=⟨16,[],1,0,[⟨15,[],1,0,[hdA]⟩,⟨17,[],0,0,[hdA,hdB]⟩]⟩
def hd4:Fml:=⟨7,[],0,0,[⟨7,[],0,0,[hdA,hdB]⟩,⟨7,[],0,0,[hdA,hdB]⟩]⟩
theorem spcT_len{s:Spc}(h:DB s=true):(spcT s).length<=44*szS s:=by
 simp only[DB,Bool.and_eq_true]at h;have Z:=sigs_len _ h.1;have W:=rqs_len s.reqs s.reqs.length (Nat.le_refl _) (by rw[List.take_length];exact h.2);rw[List.take_length]at W;unfold spcT rqsT szS;rw[List.length_append];omega
theorem prtF_len{f:Fml}(h:okF f=true):(prF 0 f).length<=44*szF f:=by have:=prF_len _ f (Nat.le_refl _) h 0;omega
def fT(f:Fml):LU:=if okF f then prF 0 f else[]
def sT(s:Spc):LU:=if DB s then spcT s else[]
theorem prtF_ok(w:World)(v:Value)(f:Fml)(P:FAt Af w v f)(X:GP w)(o:szF f<=1000000):Fn Zp 13 [v] w fun u w'=>u=AL (fT f)/\Ext w w':=by
 obtain⟨c,rfl,T,_⟩:=P.cells;exact print_F w f c ⟨T,P⟩ X o X.size fun h=>by have:=prtF_len h;omega
theorem prtS_ok(w:World)(c:LV)(s:Spc)(F:spcR.fits Af w c s)(X:GP w)(o:szS s<=1000000):Fn Zp 8 [.agg c.toArray] w fun u w'=>u=AL (sT s)/\Ext w w':=
 print_S w s c F X o X.size fun h=>by have:=spcT_len h;omega
theorem shaped_node{op v b:Int}{k:LU}{n:Nat}(h:Bs op k v b n=true)(I:n<=many):DX op k v b n=true:=by
 simp only[Bs,Bool.and_eq_true,decide_eq_true_eq]at h;obtain⟨⟨⟨⟨⟨⟨⟨Z,W⟩,R⟩,B⟩,d⟩,a⟩,K⟩,i⟩:=h;have:op=1\/op=2\/op=3\/op=4\/op=5\/op=6\/op=7\/op=8\/op=9\/op=10\/op=11\/op=12\/op=13\/op=14\/op=15\/op=16\/op=17\/op=18\/op=19:=by omega
 rcases this with rfl|rfl|rfl|rfl|rfl|rfl|rfl|rfl|rfl|rfl|rfl|rfl|rfl|rfl|rfl|rfl|rfl|rfl|rfl<;>
  (simp only[BX]at R;simp at R d K i;simp[DX,Cb,styL,List.lookup,i];omega)
theorem okL_all:∀{l:LF},(∀a∈l,okF a=true)->okL l=true
 | [],_=>rfl
 |a::l,h=>by rw[okL,h a O,okL_all fun c T=>h c Eb];rfl
theorem okF_mk{op v b:Int}{k:LU}{args:LF}(h:Bs op k v b args.length=true)(o:args.length<=1000000)(D:∀a∈args,okF a=true):okF (.mk op k v b args)=true:=by
 rw[okF,shaped_node h (by unfold many;omega),okL_all D];rfl
theorem bare_okF:∀(n:Nat)(f:Fml)(i:Bool),szF f<=n->n<=1000000->Dq i f=true->okF f=true
 |0,f,i,hz,_,_=>by rw[BL]at hz;omega
 |n+1,.mk op nm v b args,i,hz,hn,h=>by
  rw[BL]at hz;have S:szL args+1<=n+1:=hz;obtain⟨_,W,_,B⟩:=DH h;have:=CE args;refine okF_mk W U fun a D=>?_;have:=Bb D;exact bare_okF n a _ U U (B a D)
theorem pre_okF:∀(n:Nat)(f:Fml)(i:Bool),szF f<=n->n<=1000000->(Dp i f).all (fun x=>Dn x.1)=true->okF f=true
 |0,f,i,hz,_,_=>by rw[BL]at hz;omega
 |n+1,.mk op nm v b args,i,hz,hn,h=>by
  rw[BL]at hz;have S:szL args+1<=n+1:=hz
  have K:∀(l:LF)(j:Bool),(∀a∈l,a∈args)->(DE j l).all (fun x=>Dn x.1)=true->∀a∈l,okF a=true:=by
   intro l
   induction l with
   |nil=>intro j _ _ a D;cases D
   |cons a l ih=>
    intro j s h;have Z:=Bb (s a O);rw[DE,List.all_append,Bool.and_eq_true]at h;intro c T;rcases List.mem_cons.1 T with rfl|T
    ·exact pre_okF n c j U U h.1
    ·exact ih j (fun c T=>s c Eb) h.2 c T
  rw[Dp,List.all_cons,Bool.and_eq_true]at h;have Z:=h.1;have:=CE args;simp only at Z;rw[shapeF_eq _ (by simp only[Fml.args];omega)]at Z;exact okF_mk Z U (K args _ (fun a h=>h) h.2)
theorem valid_okF{f:Fml}(h:validG f=true):okF f=true:=by
 simp only[validG,Bool.and_eq_true,decide_eq_true_eq]at h;exact pre_okF _ f false (Nat.le_refl _) U h.2
theorem loose_okF{f:Fml}(h:CB f=true):okF f=true:=by
 obtain⟨Z,_,R,_⟩:=loose_okN h;exact bare_okF _ f false (Nat.le_refl _) U R
theorem chk_parts{s:Spc}(h:chkB s=true):Bk s.sigs=true/\s.reqs.length<=16/\∀r∈s.reqs,wordsB r=true/\fmOk s.sigs r.formula=true:=by
 simp only[chkB,Bool.and_eq_true,decide_eq_true_eq,List.all_eq_true,List.mem_range]at h;refine⟨h.1.1,h.1.2,fun r G=>?_⟩;obtain⟨i,H⟩:=List.getElem?_of_mem G;have:=h.2 i (List.getElem?_eq_some_iff.1 H).1;unfold reqB at this;rw[H]at this;simp only[Bool.and_eq_true]at this;exact⟨this.1.1,this.2⟩
theorem fmOk_valid{S:List Sgn}{f:Fml}(h:fmOk S f=true):validG f=true:=by
 simp only[fmOk,Bool.and_eq_true]at h;exact h.1.1.2
theorem sigs_okS{l:List Sgn}(h:Bk l=true):l.all okS=true:=by
 obtain⟨_,_,R,_⟩:=EJ h;refine List.all_eq_true.2 fun x V=>?_;obtain⟨i,H⟩:=List.getElem?_of_mem V;obtain⟨Z,W,B,_⟩:=(okI_some H).1 (R i (List.getElem?_eq_some_iff.1 H).1);simp only[okS,numB,Bool.and_eq_true,decide_eq_true_eq];exact⟨Z,by omega,by omega⟩
theorem chk_spc{s:Spc}(h:chkB s=true):DB s=true:=by
 obtain⟨Z,_,R⟩:=chk_parts h;rw[DB,sigs_okS Z,Bool.true_and];refine List.all_eq_true.2 fun r G=>?_;obtain⟨B,d⟩:=R r G;simp only[wordsB,Bool.and_eq_true]at B;simp only[okRq,okR,Bool.and_eq_true];exact⟨B.1.2,⟨B.1.1,B.2⟩,valid_okF (fmOk_valid d)⟩
theorem goal_fml{s:Spc}(h:(D7 s).op≠0):okF (D7 s)=true/\szF (D7 s)<=400:=by
 have:CB (D7 s)=true:=by
  unfold D7 at h⊢;by_cases T:chkB s=true
  ·rw[if_pos T]at h⊢;by_cases d:(conF 5 (guarsF s.reqs)).op=0
   ·rw[if_pos d]at h;exact absurd rfl h
   ·rw[if_neg d]at h⊢;rcases con_cases 6 (partsF s.reqs++[conF 5 (guarsF s.reqs)])with Z|⟨Z,_⟩
    ·rw[Z]at h;exact absurd rfl h
    ·exact Z
  ·rw[if_neg T]at h;exact absurd rfl h
 exact⟨loose_okF this,(loose_okN this).1⟩
theorem spc_cut(s:Spc):spcT ⟨s.sigs,[]⟩++spcT ⟨[],s.reqs⟩=spcT s:=by
 simp[spcT,rqsT]
abbrev txtX:LU:=[105,110,112,117,116,32,114,59,10,111,117,116,112,117,116,32,103,59,10,112,97,114,116,32,112,32,123,10,32,32,97,115,115,117,109,101,32,97,58,32,71,32,70,32,114,59,10,32,32,103,117,97,114,97,110,116,101,101,32,98,58,32,71,32,40,114,32,45,62,32,70,91,50,93,32,103,41,59,10,125,10,112,97,114,116,32,113,32,123,10,32,32,103,117,97,114,97,110,116,101,101,32,99,58,32,72,32,103,32,124,32,89,32,114,59,10,125,10]
def spcX:Spc:=⟨[⟨[114],true,2⟩,⟨[103],false,2⟩],[⟨[112],[97],1,⟨12,[],0,0,[⟨11,[],0,0,[isF [114] 1]⟩]⟩⟩,⟨[112],[98],2,⟨12,[],0,0,[⟨7,[],0,0,[isF [114] 1,⟨13,[],0,2,[isF [103] 1]⟩]⟩]⟩⟩,
 ⟨[113],[99],2,⟨6,[],0,0,[⟨19,[],0,0,[isF [103] 1]⟩,⟨15,[],0,0,[isF [114] 1]⟩]⟩⟩]⟩
theorem parse_X:PRes .spec txtX (.ok spcX):=PRes.ofE (n:=100) EO
theorem X_chk:chkB spcX=true:=by kernel_rfl
def dusX:List Dty:=tickF spcX.sigs (startF spcX 0) 1
theorem X_len:dusX.length=3:=by kernel_rfl
def nowX(i:Nat):Fml:=match dusX[i]? with|some d=>d.now|none=>Am
theorem X_at{i:Nat}(h:i<3):∃d,dusX[i]?=some d/\d.now=nowX i:=by
 obtain⟨d,C⟩:∃d,dusX[i]?=some d:=⟨_,List.getElem?_eq_getElem (by rw[X_len];exact h)⟩;exact⟨d,C,by unfold nowX;rw[C]⟩
theorem X_txt:sT spcX=txtX:=by kernel_rfl
theorem X_t1:fT (nowX 1)=[40,103,32,124,32,88,32,103,41,32,38,32,102,97,108,115,101,32,82,32,40,103,32,124,32,33,114,32,124,32,88,32,40,103,32,124,32,88,32,103,41,41]:=by kernel_rfl
theorem X_t2:fT (nowX 2)=[102,97,108,115,101]:=by kernel_rfl
theorem X_sz:szF (nowX 1)<=1000/\szF (nowX 2)<=1000/\szS spcX<=1000:=⟨of_decide_eq_true EO,of_decide_eq_true EO,of_decide_eq_true EO⟩
theorem X_reqs:(spcX.reqs.all fun r=>decide (szF r.formula<=1000))=true:=by kernel_rfl
theorem X_firsts:((startF spcX 0).all fun y=>decide (szF y.req.formula<=1000)&&decide (szF y.first<=1000))=true:=by kernel_rfl
def xtN(op b:Int)(r:Int×Int):Int×Int:=
 (min (if op=4 then r.1 else if isLn op then r.1+2 else if op=13\/op=14 then r.1*(b+1)+2*b else r.1+1) 1000,
  if op=4 then r.2 else if op=13\/op=14 then r.2+2*b else r.2+1)
mutual
def xtF:Fml->Bool->Int×Int
 | .mk op _ _ b args,neg=>if op=3/\neg=true then(2,2)else xtN op b (xtL (op==4||op==7) args neg)
def xtL:Bool->LF->Bool->Int×Int
 |_,[],_=>(0,0)
 |t,a::l,neg=>((xtF a (neg !=t)).1+(xtL false l neg).1,max (xtF a (neg !=t)).2 (xtL false l neg).2)
end
def XtQ(r:BS)(l d:Int)(x:Int×Int):Prop:=(r.2=true↔l<x.1\/d<x.2)/\(r.2=false->r.1=l-x.1)
theorem tk_new(l d:Int):tkB (l,false) d=(l-1,decide (l<1)||decide (d<1)):=by
 unfold tkB;simp only[Bool.false_or,Prod.mk.injEq,true_and]
 congr 1
 exact decide_eq_decide.2 U
theorem xfmB_over(f:Fml)(neg:Bool)(d l:Int):fmB f neg d (l,true)=(Am,(l,true)):=by
 obtain⟨M,k,v,b,h⟩:=f;rw[fmB];simp
theorem xfm0_over:∀(L:LF)(neg:Bool)(d l:Int),fm0 L neg d (l,true)=(Am,(l,true))
 | [],_,_,_=>by rw[fm0]
 |a::_,_,_,_=>by rw[fm0,xfmB_over]
theorem xfmL_over:∀(L:LF)(t neg:Bool)(d l:Int),(fmL t L neg d (l,true)).2=(l,true)
 | [],_,_,_,_=>by rw[fmL]
 |a::L,_,_,_,_=>by rw[fmL];simp only[xfmB_over];exact xfmL_over L _ _ _ _
theorem bd_xt{op:Int}{neg:Bool}{g:Int->BS->Fml×BS}{x:Int×Int}(V:1<=x.1/\1<=x.2)(w:∀d l,0<=l->l<1000->XtQ (g d (l,false)).2 l d x)(a:∀d l,(g d (l,true)).2=(l,true)):
  ∀(n:Nat)(d l:Int),0<=l->l<1000->XtQ (bdB op neg g n d (l,false)).2 l d (x.1*((n:Int)+1)+2*n,x.2+2*n)
 |0,d,l,t,Z=>by
  rw[bdB];simpa using w d l t Z
 |n+1,d,l,t,Z=>by
  have e:x.1*(((n+1:Nat):Int)+1)=x.1*((n:Int)+1)+x.1:=by
   rw[show(((n+1:Nat):Int)+1)=((n:Int)+1)+1 by omega,Int.mul_add,Int.mul_one]
  have j:1<=x.1*((n:Int)+1):=by
   have:=Int.mul_le_mul V.1 (show(1:Int)<=(n:Int)+1 by omega) U U;omega
  have c:=fun d l t Z=>bd_xt (op:=op) (neg:=neg) V w a n d l t Z;rw[e,bdB];simp only[Bool.false_eq_true,if_false,tk_new];generalize x.1*((n:Int)+1)=y at j c⊢;by_cases B:l<1\/d<1
  ·have:(decide (l<1)||decide (d<1))=true:=by simpa using B
   simp only[this,if_true];exact FZ
  have f:(decide (l<1)||decide (d<1))=false:=by simpa using B
  simp only[f,Bool.false_eq_true,if_false,tk_new];by_cases b:l-1<1\/d-1<1
  ·have:(decide (l-1<1)||decide (d-1<1))=true:=by simpa using b
   simp only[this,if_true];exact FZ
  have i:(decide (l-1<1)||decide (d-1<1))=false:=by simpa using b
  simp only[i,Bool.false_eq_true,if_false];obtain⟨Q,L⟩:=w (d-1) (l-1-1) U U;obtain⟨r,G⟩:∃r,r=g (d-1) (l-1-1,false):=⟨_,rfl⟩;rw[<-G]at Q L⊢;obtain⟨p,k,o⟩:=r;cases o with
  |true=>
   have:=Q.1 rfl
   have q:(bdB op neg g n (d-2) (k,true)).2=(k,true):=by
    cases n with
    |zero=>rw[bdB];exact a _ _
    |succ n=>rw[bdB];simp
   simp only[q];exact FZ
  |false=>
   have A:¬(l-1-1<x.1\/d-1<x.2):=fun h=>by have:=Q.2 h;cases this
   obtain rfl:=L rfl;obtain⟨m,N⟩:=c (d-2) (l-1-1-x.1) U U;refine⟨m.trans ?_,fun h=>(N h).trans ?_⟩
   ·simp only;omega
   ·simp only;omega
theorem kid_of{f:Fml}(h:Cj shQ f):∀a∈f.args,Cj shQ a:=(allF_iff.1 h).2
mutual
theorem Du:∀(f:Fml)(neg:Bool),Cj shQ f->1<=(xtF f neg).1/\1<=(xtF f neg).2
 | .mk op nm v b args,neg,h=>by
  have hs:=(allF_iff.1 h).1;obtain⟨q1,q2⟩:=xtL_pos args (op==4||op==7) neg (kid_of h);rw[xtF]
  split
  ·exact⟨by decide,by decide⟩
  simp only[shQ,Bs,Fml.op,Fml.bound,Fml.args,Fml.val,Fml.name,Bool.and_eq_true]at hs;have hb:0<=b:=of_decide_eq_true hs.1.1.2;have ha:=hs.1.1.1.1.1.2
  have hn:op=4\/op=13\/op=14->args.length=1:=fun e=>by
   unfold BX at ha;rw[if_neg U,if_neg U,if_neg U]at ha;simpa using ha
  unfold xtN;generalize xtL (op==4||op==7) args neg=r at q1 q2⊢;simp only;by_cases e4:op=4
  ·rw[if_pos e4,if_pos e4];have:=q2 (by have:=hn (Or.inl e4);omega);omega
  rw[if_neg e4,if_neg e4];by_cases el:isLn op=true
  ·rw[if_pos el,if_neg (by intro h;simp[isLn]at el;omega)];omega
  rw[if_neg el];by_cases eb:op=13\/op=14
  ·rw[if_pos eb,if_pos eb];have:=q2 (by have:=hn (Or.inr eb);omega);have hp:=Int.mul_le_mul this.1 (show(1:Int)<=b+1 by omega) U U;omega
  rw[if_neg eb,if_neg eb];omega
theorem xtL_pos:∀(L:LF)(t neg:Bool),(∀a∈L,Cj shQ a)->(0<=(xtL t L neg).1/\0<=(xtL t L neg).2)/\(1<=L.length->1<=(xtL t L neg).1/\1<=(xtL t L neg).2)
 | [],_,_,_=>by rw[xtL];exact⟨⟨by decide,by decide⟩,fun h=>by simp at h⟩
 |a::L,t,neg,h=>by
  obtain⟨h1,h2⟩:=Du a (neg !=t) (h a O);obtain⟨⟨h3,h4⟩,_⟩:=xtL_pos L false neg (fun x hx=>h x (by simp[hx]));rw[xtL];simp only;omega
end
mutual
theorem fmB_xt:∀(f:Fml)(neg:Bool)(d l:Int),Cj shQ f->0<=l->l<1000->XtQ (fmB f neg d (l,false)).2 l d (xtF f neg)
 | .mk op nm v b args,neg,d,l,h,h0,h1=>by
  have hs:=(allF_iff.1 h).1;have hk:=kid_of h;simp only[shQ,Bs,Fml.op,Fml.bound,Fml.args,Fml.val,Fml.name,Bool.and_eq_true]at hs hk;have hb:0<=b:=of_decide_eq_true hs.1.1.2;have ha:=hs.1.1.1.1.1.2
  have hn:op=4\/op=13\/op=14\/isLn op=true->∃a,args=[a]:=fun e=>by
   unfold BX at ha;rw[if_neg (by simp[isLn]at e;omega),if_neg (by simp[isLn]at e;omega),if_neg (by simp[isLn]at e;omega)]at ha;simp only[decide_eq_true_eq]at ha
   match args,ha with
   | [a],_=>exact⟨a,rfl⟩
  rw[fmB,xtF];simp only[Bool.false_eq_true,if_false];by_cases e4:op=4
  ·obtain⟨a,rfl⟩:=hn (Or.inl e4);have:=fmB_xt a (!neg) d l (hk a O) h0 h1;have hp:=Du a (!neg) (hk a O);rw[if_pos e4,if_neg U,fm0,show(op==4||op==7)=true by simp[e4],xtL,xtL,show(neg !=true)= !neg by simp];unfold xtN XtQ;rw[if_pos e4,if_pos e4];obtain⟨t1,t2⟩:=this;refine⟨t1.trans ?_,fun h=>(t2 h).trans ?_⟩
   ·simp only;omega
   ·have:=mt t1.2 Ew;simp only;omega
  rw[if_neg e4];by_cases e3:op=3/\neg=true
  ·rw[if_pos e3,if_pos e3];simp only[tk_new];by_cases c1:l<1\/d<1
   ·have:(decide (l<1)||decide (d<1))=true:=by simpa using c1
    simp only[this,if_true];exact FZ
   have c1':(decide (l<1)||decide (d<1))=false:=by simpa using c1
   simp only[c1',Bool.false_eq_true,if_false,tk_new];by_cases c2:l-1<1\/d-1<1
   ·have:(decide (l-1<1)||decide (d-1<1))=true:=by simpa using c2
    simp only[this,if_true];exact FZ
   have c2':(decide (l-1<1)||decide (d-1<1))=false:=by simpa using c2
   simp only[c2',Bool.false_eq_true,if_false];exact⟨⟨fun h=>Eh,fun h=>by simp only at h;omega⟩,fun _=>by simp only;omega⟩
  rw[if_neg e3,if_neg e3];by_cases eb:op=13\/op=14
  ·obtain⟨a,rfl⟩:=hn U;have ih:=fun d l h0 h1=>fmB_xt a neg d l (hk a O) h0 h1;have hp:=Du a neg (hk a O);rw[if_pos eb,show(op==4||op==7)=false by simp;omega,xtL,xtL,show(neg !=false)=neg by simp];have:=bd_xt (op:=op) (neg:=neg) (g:=fm0 [a] neg) hp (fun d l h0 h1=>by rw[fm0];exact ih d l h0 h1) (fun d l=>by rw[xfm0_over]) b.toNat d l h0 h1;have eb0:((b.toNat:Nat):Int)=b:=Int.toNat_of_nonneg hb;rw[eb0]at this;unfold xtN XtQ;have el:isLn op=false:=by simp[isLn];omega
   rw[if_neg e4,el,if_neg Bool.false_ne_true,if_pos eb,if_neg e4,if_pos eb];obtain⟨t1,t2⟩:=this;have z1:(xtF a neg).1+0=(xtF a neg).1:=Int.add_zero _;have z2:max (xtF a neg).2 0=(xtF a neg).2:=by omega
   simp only[z1,z2]at t1 t2⊢;generalize (xtF a neg).1*(b+1)=y at t1 t2⊢;refine⟨t1.trans ?_,fun h=>(t2 h).trans ?_⟩
   ·omega
   ·have:=mt t1.2 Ew;omega
  rw[if_neg eb];simp only[tk_new];by_cases c1:l<1\/d<1
  ·have:(decide (l<1)||decide (d<1))=true:=by simpa using c1
   simp only[this,if_true];refine⟨⟨fun _=>?_,fun _=>rfl⟩,fun h=>by cases h⟩;have:=Du (.mk op nm v b args) neg h;rw[xtF,if_neg e3]at this;omega
  have c1':(decide (l<1)||decide (d<1))=false:=by simpa using c1
  simp only[c1',Bool.false_eq_true,if_false];have e47:(op==4||op==7)=(op==7):=by simp[e4]
  have hq:=xtL_pos args (op==7) neg hk;rw[e47];unfold xtN XtQ;rw[if_neg e4,if_neg e4,if_neg eb,if_neg eb];by_cases el:isLn op=true
  ·obtain⟨a,rfl⟩:=hn (Or.inr (Or.inr (Or.inr el)));have hq:=hq.2 O;rw[if_pos el,if_pos el];unfold lnB;simp only[tk_new];by_cases c2:l-1<1\/d-1<1
   ·have:(decide (l-1<1)||decide (d-1<1))=true:=by simpa using c2
    simp only[this,if_true,xfmL_over];exact⟨⟨fun _=>by omega,fun _=>trivial⟩,fun h=>by cases h⟩
   have c2':(decide (l-1<1)||decide (d-1<1))=false:=by simpa using c2
   simp only[c2',Bool.false_eq_true,if_false];obtain⟨t1,t2⟩:=fmL_xt [a] (op==7) neg (d-1) (l-1-1) hk U U U;refine⟨t1.trans ?_,fun h=>(t2 h).trans ?_⟩
   ·omega
   ·have:=mt t1.2 Ew;omega
  ·rw[if_neg el,if_neg el];simp only;obtain⟨t1,t2⟩:=fmL_xt args (op==7) neg (d-1) (l-1) hk U U U;refine⟨t1.trans ?_,fun h=>(t2 h).trans ?_⟩
   ·omega
   ·have:=mt t1.2 Ew;omega
theorem fmL_xt:∀(L:LF)(t neg:Bool)(d l:Int),(∀a∈L,Cj shQ a)->0<=d->0<=l->l<1000->XtQ (fmL t L neg d (l,false)).2 l d (xtL t L neg)
 | [],_,_,d,l,_,hd,h0,_=>by
  rw[fmL,xtL];exact⟨⟨fun h=>Eh,fun h=>by simp only at h;omega⟩,fun _=>by simp only;omega⟩
 |a::L,t,neg,d,l,h,hd,h0,h1=>by
  obtain⟨t1,t2⟩:=fmB_xt a (neg !=t) d l (h a O) h0 h1;obtain⟨p1,p2⟩:=Du a (neg !=t) (h a O);have⟨⟨q1,q2⟩,_⟩:=xtL_pos L false neg (fun x hx=>h x (by simp[hx]));have ih:=fun l h0 h1=>fmL_xt L false neg d l (fun x hx=>h x (by simp[hx])) hd h0 h1;rw[fmL,xtL];simp only;generalize fmB a (neg !=t) d (l,false)=r at t1 t2⊢;generalize xtF a (neg !=t)=x at t1 t2 p1 p2⊢;obtain⟨r1,k,o⟩:=r;cases o with
  |true=>
   have:=t1.1 rfl;simp only[xfmL_over];exact FZ
  |false=>
   have g3:¬(l<x.1\/d<x.2):=fun h=>by have:=t1.2 h;cases this
   obtain rfl:=t2 rfl;obtain⟨i1,i2⟩:=ih (l-x.1) U U;refine⟨i1.trans ?_,fun h=>(i2 h).trans ?_⟩
   ·simp only;omega
   ·simp only;omega
end
theorem xtF_eq(f:Fml)(neg:Bool):xtF f neg=if f.op=3/\neg=true then(2,2)else xtN f.op f.bound (xtL (f.op==4||f.op==7) f.args neg):=by
 cases f;rw[xtF];rfl
theorem xtL_snoc:∀(args:LF)(k:Nat)(x:Fml)(t neg:Bool),args[k]?=some x->
  xtL t (args.take (k+1)) neg=((xtL t (args.take k) neg).1+(xtF x (neg !=(t&&k==0))).1,max (xtL t (args.take k) neg).2 (xtF x (neg !=(t&&k==0))).2)
 | [],k,x,t,neg,h=>by cases h
 |a::l,0,x,t,neg,h=>by
  cases h;simp only[List.take_succ_cons,List.take_zero,xtL,Prod.mk.injEq];simp only[beq_self_eq_true,Bool.and_true];constructor<;>omega
 |a::l,k+1,x,t,neg,h=>by
  have b:=xtL_snoc l k x false neg Ed;have e:(t&&(k+1==0))=(false&&k==0):=by simp
  simp only[List.take_succ_cons,xtL,b,e,Prod.mk.injEq];constructor<;>omega
mutual
theorem xtF_le:∀(f:Fml)(neg:Bool),Cj shQ f->(xtF f neg).1<=1000/\(xtF f neg).2<=20*(szF f:Int)
 | .mk op nm v b args,neg,h=>by
  have hs:=(allF_iff.1 h).1;obtain⟨q1,q2⟩:=xtL_le args (op==4||op==7) neg (kid_of h);obtain⟨⟨q3,q4⟩,_⟩:=xtL_pos args (op==4||op==7) neg (kid_of h);simp only[shQ,Bs,Fml.op,Fml.bound,Fml.args,Fml.val,Fml.name,Bool.and_eq_true]at hs;have hb:0<=b:=of_decide_eq_true hs.1.1.2;have hb9:b<=9:=by have:=of_decide_eq_true hs.1.2;split at this<;>omega
  rw[xtF,szF]
  split
  ·exact⟨by decide,by simp only;omega⟩
  unfold xtN;simp only;refine⟨by omega,?_⟩
  split
  ·omega
  ·split<;>omega
theorem xtL_le:∀(L:LF)(t neg:Bool),(∀a∈L,Cj shQ a)->(xtL t L neg).1<=1000*(L.length:Int)/\(xtL t L neg).2<=20*(szL L:Int)
 | [],_,_,_=>by rw[xtL];simp[szL]
 |a::L,t,neg,h=>by
  obtain⟨h1,h2⟩:=xtF_le a (neg !=t) (h a O);obtain⟨h3,h4⟩:=xtL_le L false neg (fun x hx=>h x (by simp[hx]));rw[xtL,szL,List.length_cons];simp only;omega
end
theorem kern_xt{f:Fml}(p:validG f=true)(K:layG f=true)(F:Cj shQ f):(kernR f).2=0↔(xtF f false).1<=60/\(xtF f false).2<=20:=by
 obtain⟨Z, -⟩:=fmB_xt f false 20 60 F U U;unfold kernR;rw[p,K];simp only[Bool.and_self,if_true];by_cases h:(fmB f false 20 (60,false)).2.2=true
 ·rw[if_pos h];have:=Z.1 h;exact⟨fun h=>absurd h ET,fun h=>by omega⟩
 ·rw[if_neg h];have:=mt Z.2 h;exact⟨fun _=>by omega,fun _=>rfl⟩
theorem rdual_ok(w:World)(op:Int):Fn Zp 307 [iV op] w fun u w'=>(∃n:Int,u=iV n)/\w'=w:=by
 refine AN Tryz.func307 rfl Tryz.ntmps307 (go ?_);by_cases Z:op=1
 ·refine go ?_;exact AC rfl ⟨⟨_,rfl⟩,rfl⟩
 by_cases W:op=2
 ·refine go ?_;exact AC rfl ⟨⟨_,rfl⟩,rfl⟩
 by_cases R:op=5
 ·refine go ?_;exact AC rfl ⟨⟨_,rfl⟩,rfl⟩
 by_cases B:op=6
 ·refine go ?_;exact AC rfl ⟨⟨_,rfl⟩,rfl⟩
 by_cases d:op=9
 ·refine go ?_;exact AC rfl ⟨⟨_,rfl⟩,rfl⟩
 by_cases k:op=10
 ·refine go ?_;exact AC rfl ⟨⟨_,rfl⟩,rfl⟩
 by_cases K:op=16
 ·refine go ?_;exact AC rfl ⟨⟨_,rfl⟩,rfl⟩
 by_cases i:op=17
 ·refine go ?_;exact AC rfl ⟨⟨_,rfl⟩,rfl⟩
 refine go ?_;exact AC rfl ⟨⟨_,rfl⟩,rfl⟩
theorem xtrue_ok(ok:Nat->Prop)(w:World):Fn Zp 303 [] w fun v w'=>Ext w w'/\FAt ok w' v ⟨1,[],0,0,[]⟩:=by
 refine AN Tryz.func303 rfl Tryz.ntmps303 (go ?_);refine AY (L:=zero5) (fun Q A=>?_);have n:Blk Q w.heap.size 37 zero5:=A.D;refine go ?_;refine AI (cs:=[iV 1,AL [],iV 0,iV 0,.slice none 0 0]) rfl rfl rfl (AV rfl) n EV (fun N c=>go ?_);exact AW rfl rfl rfl c.D.cells ⟨A.E.E c.E O,FAt.leaf _ _ _ _ _ _⟩
theorem xfalse_ok(ok:Nat->Prop)(w:World):Fn Zp 304 [] w fun v w'=>Ext w w'/\FAt ok w' v ⟨2,[],0,0,[]⟩:=by
 refine AN Tryz.func304 rfl Tryz.ntmps304 (go ?_);refine AY (L:=zero5) (fun Q A=>?_);have n:Blk Q w.heap.size 37 zero5:=A.D;refine go ?_;refine AI (cs:=[iV 2,AL [],iV 0,iV 0,.slice none 0 0]) rfl rfl rfl (AV rfl) n EV (fun N c=>go ?_);exact AW rfl rfl rfl c.D.cells ⟨A.E.E c.E O,FAt.leaf _ _ _ _ _ _⟩
abbrev FmA(w:World)(u:Value)(w':World):Prop:=Ext w w'/\∃g,FAt (fun b=>w.heap.size<=b) w' u g
theorem Two.fresh{B:Nat}{W:World}{v1 v2:Value}{l1 K:LF}(h:Two B W v1 v2 l1 K):∃a c L,v1=.slice a l1.length c/\Sl (fun b=>B<=b) W v1 l1.length L.flatten/\FsAt (fun b=>B<=b) W L l1:=by
 obtain⟨⟨S,d,I⟩, -, -⟩:=h;have F:Sl (fun b=>B<=b) W v1 l1.length S.flatten:=Aa d fun g w=>(An d w).1;obtain⟨a,c,e,_⟩:=id F;exact⟨a,c,S,e,F,I.mono fun _ f=>f.1⟩
set_option maxHeartbeats 1600000 in
theorem rrep_ok(ok:Nat->Prop)(w:World)(op n:Int)(v:Value)(f:Fml)(P:FAt ok w v f)(hn:n<=1000)(a6:∀x,w.heap.size<=x->ok x):Fn Zp 305 [iV op,iV n,v] w fun u w'=>Ext w w'/\∃g,FAt ok w' u g:=by
 have a5:=P.lt;obtain⟨c5,rfl,a3,a7⟩:=P.cells;obtain⟨a,c,j,s,r,rfl⟩:=Ak a3;refine AN Tryz.func305 rfl Tryz.ntmps305 (go ?_);refine A3 (L:=[a,c,j,s,r]) rfl (fun Q G=>?_);refine AY (L:=zero5) (fun N t=>?_);have z1:=G.size;have z2:=t.size;have e2:=G.E.trans t.E;have b1:=G.D.E t.E O;have b2:Blk N Q.heap.size 37 zero5:=t.D;refine go ?_;refine A2 (cs:=[a,c,j,s,r]) rfl rfl EQ a7 (fun w3 p=>?_);have z3:=p.size;have T:=e2.trans p.E;have a0:=b1.E p.E O;have a1:=b2.E p.E O;have a2:Blk w3 N.heap.size 37 [a,c,j,s,r]:=p.D;have X:=(a5.ext T).mono (ok':=fun b=>(ok b/\b≠Q.heap.size)/\b≠N.heap.size) fun b S=>⟨⟨S.1,by have:=S.2;omega⟩,by have:=S.2;omega⟩;refine go ?_
 refine Ar (α:=Nat) (fun k=>[(0,iV op),(1,iV n),(5,pt w.heap.size),(6,pt Q.heap.size),(7,pt N.heap.size),(8,iV (k:Int))])
  (fun k W=>Keep [N.heap.size] w3 W/\∃(l:LV)(g:Fml),l.length=5/\Blk W N.heap.size 37 l/\FAt (fun b=>(ok b/\b≠Q.heap.size)/\b≠N.heap.size) W (.agg l.toArray) g) (fun k=>n.toNat-k) 0 ag ⟨Keep.refl _ _,_,f,rfl,a2,X⟩ ?_
 rintro k W fr⟨q,l,g,a4,K,m⟩;have kw:Ext w W:=T.E q EP;have zW:=q.size;obtain⟨c0,c1,c2,c3,c4,rfl⟩:=Ak a4;refine go ?_;by_cases a8:(k:Int)<n
 ·refine go ?_;refine Ac (.read 0 (.read 1 (.alt 2 (.alt 3 (.alt 4 (.alt 5 .done .stop) .stop) .stop) .stop))) Ap EO (fun H M ed=>⟨Keep [N.heap.size] H,?_,?_⟩)
  ·exact Ff
  have zd:=M.size;have B5:∀V,Keep [N.heap.size] H V->Cells V w.heap.size 0 [a,c,j,s,r]:=fun V e=>((a0.E q EP).E M O).cells.E e EP;have bd:=K.E M O;have fd:=m.ext M;have I:∀x,N.heap.size<x->(ok x/\x≠Q.heap.size)/\x≠N.heap.size:=fun x Z=>⟨⟨a6 _ U,by omega⟩,by omega⟩;refine go ?_;refine D_R (v:=.agg [a,c,j,s,r].toArray) rfl rfl (fun V e=>by refine AQ (L:=[a,c,j,s,r]) rfl rfl (B5 V e) ?_;exact AA ⟨rfl,rfl,rfl⟩) ?_;refine go ?_;refine D_E rfl ?_;refine A8 rfl bd rfl ?_;refine wNl (Keep.refl _ _) ?_;refine go ?_;refine D_E rfl ?_;refine AF (roneX_ok H 8 _ _ g fd (I _ U) (fun x Z=>I _ U)) rfl ?_;rintro u4 w4⟨d,f4⟩;have z4:=d.size;refine wNl d.any ?_;refine go ?_;refine D_E rfl ?_;have fx:FAt (fun b=>(ok b/\b≠Q.heap.size)/\b≠N.heap.size) w4 (.agg [a,c,j,s,r].toArray) f:=((X.E q (fun b S F=>S.2 (by simpa using F))).ext M).ext d;refine AF (rtwoX_ok w4 op _ _ _ f _ fx f4 (fun x Z=>I _ U)) rfl ?_;rintro u5 w5⟨A,o⟩;have z5:=A.size;have z:=(M.trans d).trans A;refine wNl ((d.trans A).any) ?_;refine go ?_;refine D_E rfl ?_;refine BE rfl rfl o (K.E z O) rfl (fun w9 R D C i z9 B=>?_);refine wNl ((d.trans A).any.trans i (fun y E _=>E)) ?_;refine go ?_;exact⟨k+1,⟨rfl,ag,⟨(q.ext z).trans i (fun y E _=>E),R,_,C,B,by rw[<-D];exact o.E i (fun b S F=>S.2 (by simpa using F))⟩⟩,by omega⟩
 ·refine go ?_;refine BE rfl rfl m (a1.E q EP) rfl (fun w9 R D C i z9 B=>?_);refine go ?_;exact AW rfl rfl C B.cells ⟨kw.E i EP,_,FAt.ret (m.mono fun _ h=>h.1) D i⟩
theorem FsAt.elt{ok:Nat->Prop}{w:World}{a:Option Addr}{c k:Nat}{L:List (LV)}{l:LF}{x:Fml}(i:Sl ok w (.slice a l.length c) l.length L.flatten)(s:FsAt ok w L l)(V:l[k]?=some x):
  ∃b o E y M f R,a=some ⟨b,o,none⟩/\ok b/\Cells w b (o+k*5) [E,y,M,f,R]/\FAt ok w (.agg [E,y,M,f,R].toArray) x:=by
 have g:=(List.getElem?_eq_some_iff.1 V).1;obtain⟨d,C⟩:∃d,L[k]?=some d:=⟨_,List.getElem?_eq_getElem (by rw[s.1];exact g)⟩;obtain⟨b,o,e,S,T⟩:=i.fml s.2.1 C g;have h:=s.2.1 d (List.mem_of_getElem? C);have P:=s.2.2 k d x C V;obtain⟨E,y,M,f,R,rfl⟩:=Ak h;exact⟨b,o,E,y,M,f,R,e,S,T,P⟩
set_option maxHeartbeats 4000000 in
theorem rform_ok:∀(N:Nat)(f:Fml),szF f<=N->N<=1000000->Cj shQ f->∀(w:World)(v:Value)(neg:Bool),FAt Af w v f->Fn Zp 233 [v,.bool neg] w fun u w'=>FmA w u w':=by
 intro N
 induction N with
 |zero=>intro f hN;have:=C1 f;omega
 |succ N ih=>
 intro f hN hM a7 w v neg hf;have c9:=BL f;have hal:=CE f.args;have hs:=(allF_iff.1 a7).1;have hkid:=(allF_iff.1 a7).2;simp only[shQ,Bs,Bool.and_eq_true,decide_eq_true_eq]at hs;obtain⟨⟨⟨⟨⟨⟨⟨s1,s2⟩,s3⟩,s4⟩,s5⟩,s6⟩,s7⟩,s8⟩:=hs;have d1:f.val<=3:=by split at s5<;>(try split at s5)<;>omega
 have d2:f.bound<=9:=by split at s7<;>omega
 have a3:f.op=4\/f.op=11\/f.op=12\/f.op=13\/f.op=14\/f.op=18\/f.op=19->f.args.length=1:=fun e=>by
  unfold BX at s3;rw[if_neg U,if_neg U,if_neg U]at s3;simpa using s3
 have hnone:f.op=3->f.args=[]:=fun e=>by
  unfold BX at s3;rw[if_pos U]at s3;exact List.eq_nil_of_length_eq_zero (by simpa using s3)
 obtain⟨c5,rfl,b4,c8⟩:=hf.cells;obtain⟨x0,x1,x2,x3,x4,rfl⟩:=Ak b4;refine AN Tryz.func233 rfl Tryz.ntmps233 (go ?_);refine A3 (L:=[x0,x1,x2,x3,x4]) rfl (fun Q n1=>?_);have z1:=n1.size;have P1:PF Af Q w.heap.size 0 f:=⟨trivial,_,rfl,n1.D.cells,hf.ext n1.E⟩;obtain⟨aa,ac,c6,q0,q1,q2,q3,q4,qa⟩:=P1.all;refine AY (L:=zero5) (fun w2 n2=>?_);have z2:=n2.size;have r:=n1.E.trans n2.E;have b1:=n1.D.E n2.E O;have j:Blk w2 Q.heap.size 37 zero5:=n2.D;refine go ?_
 refine Ar (α:=Nat×Value) (fun y=>[(1,.bool neg),(2,pt w.heap.size),(4,pt Q.heap.size),(5,y.2),(6,iV (y.1:Int))])
  (fun y W=>y.1<=f.args.length/\Ext w2 W/\∃l,l.length=y.1/\Two w2.heap.size W y.2 (.slice none 0 0) l []) (fun y=>f.args.length-y.1) (0,.slice none 0 0) ag ⟨by simp,Ext.refl _,[],rfl,Two.start _ _⟩ ?_
 rintro⟨k,v1⟩W fr⟨hk,q,l,hl,hT⟩;simp only at hk q hl hT;have kw:=r.trans q;have bW:=b1.E q O;have zW:=q.size;have a1:=n2.E.trans q;have r0:=a1.cell q0 O;have r2:=a1.cell q2 O;have r3:=a1.cell q3 O;have r4:=a1.cell q4 O;refine go ?_;by_cases hlt:k<f.args.length
 ·obtain⟨x,hx⟩:=gl hlt;obtain⟨b',o',rfl,px⟩:=qa k x hx;obtain⟨_,d,hd,b6,b9⟩:=px;obtain⟨E,t,z,B,R,rfl⟩:=Ak hd;have b5:Cells W b' (o'+k*5) [E,t,z,B,R]:=b6.E a1 O;have hxl:=List.mem_of_getElem? hx;have d0:=Bb hxl;obtain⟨L1,o1,f1⟩:=id hT.o1;have hX:∀y∈v1.ownBlock.toList,w2.heap.size<=y:=fun y Z=>(An o1 (Option.mem_toList.1 Z)).1;rcases(by omega:f.op=4\/(f.op≠4/\f.op=7/\k=0)\/(f.op≠4/\f.op=7/\k≠0)\/(f.op≠4/\f.op≠7))with e|⟨e,e',a9⟩|⟨e,e',a9⟩|⟨e,e'⟩
  all_goals
   refine go ?_;refine AQ (L:=[E,t,z,B,R]) rfl rfl b5 (go ?_);refine AF (ih x U U (hkid x hxl) W _ _ (b9.ext a1)) rfl ?_;rintro u w5⟨A,g,fu⟩;obtain⟨cs,rfl,b7,hone'⟩:=fu.cells;obtain⟨y0,y1,y2,y3,y4,rfl⟩:=Ak b7;refine AP (out:=[y0,y1,y2,y3,y4]) rfl U EZ (fun w8 n8=>?_);have k8:=A.trans n8.E;have z8:=k8.size;refine Ax (ok:=Af) (v:=v1) rfl rfl (As o1 k8) (Aa (n8.own (n:=1) (size:=5) rfl EW (Nat.le_refl _)) fun _ _=>trivial) U rfl rfl hone' U U U (fun v8 P a8=>?_);refine go ?_;exact⟨(k+1,v8),⟨rfl,ag,⟨by simp only;omega,(q.trans k8).E a8.E (fun y Z=>by have:=hX y Z;omega),l++[g],by simp[hl],hT.push o1 f1 k8 (fu.ext n8.E) rfl zW a8⟩⟩,by simp only;omega⟩
 ·obtain⟨sa,sc,L1,rfl,K,H⟩:=hT.fresh;replace K:=K.mono (ok':=fun x=>w.heap.size<=x/\x≠Q.heap.size) fun b hb=>⟨by omega,by omega⟩;replace H:=H.mono (ok':=fun x=>w.heap.size<=x/\x≠Q.heap.size) fun b hb=>⟨by omega,by omega⟩;have c7:l.length=f.args.length:=by omega
  have a6:∀x,W.heap.size<=x->w.heap.size<=x/\x≠Q.heap.size:=fun x hx=>⟨by omega,by omega⟩;have fE:f.args=[]->FAt (fun x=>w.heap.size<=x/\x≠Q.heap.size) W (.agg [x0,x1,x2,x3,x4].toArray) f:=fun h0=>hf.any h0;cases neg
  all_goals
   refine go ?_;by_cases e3:f.op=3
   ·have f3:=fE (hnone e3);refine go ?_;first
    |(refine AF (roneX_ok W 4 _ _ f f3 (a6 _ (Nat.le_refl _)) a6) rfl ?_
      rintro u6 w6⟨s,I⟩;refine go ?_;refine BE rfl rfl (I) (j.E (q.trans s) O) rfl (fun P X p C i T S=>go ?_);exact AW rfl rfl C S.cells ⟨(r.trans (q.trans s)).E i EP,_,FAt.ret (I) p i⟩
      done)
    |(skip
      refine BE rfl rfl (f3) (j.E (q) O) rfl (fun P X p C i T S=>go ?_);exact AW rfl rfl C S.cells ⟨(r.trans (q)).E i EP,_,FAt.ret (f3) p i⟩
      done)
   refine go ?_;by_cases e4:f.op=4
   ·have h1:=a3 (Or.inl e4);obtain⟨g0,a⟩:=gl (show 0<l.length by omega);obtain⟨b,o,E,t,z,B,R,rfl,a5,a0,f0⟩:=FsAt.elt K H a;refine go ?_;refine AQ (L:=[E,t,z,B,R]) rfl rfl a0 ?_;refine BE rfl rfl (f0) (j.E (q) O) rfl (fun P X p C i T S=>go ?_);exact AW rfl rfl C S.cells ⟨(r.trans (q)).E i EP,_,FAt.ret (f0) p i⟩
   refine go ?_;by_cases e7:f.op=7
   ·refine go ?_;refine AF (rop_ok W _ _ _ _ L1 l K H) rfl ?_;exact FJ
   refine go ?_;by_cases b0:f.op=11\/f.op=12
   ·have h1:=a3 U;obtain⟨g0,a⟩:=gl (show 0<l.length by omega);obtain⟨b,o,E,t,z,B,R,rfl,a5,a0,f0⟩:=FsAt.elt K H a;rcases b0 with e|e
    all_goals
     refine go ?_;refine Ac (rd 1 3 (.alt 0 (.alt 4 (.alt 5 .done .stop) .stop) .stop)) Ap EO (fun F M ed=>⟨Keep [Q.heap.size] F,?_,?_⟩)
     ·exact Ff
     have zd:=M.size;have E1:∀V,Keep [Q.heap.size] F V->Cells V b (o+0*5) [E,t,z,B,R]:=fun V D=>(a0.E M O).E D EP;have E3:∀V,Keep [Q.heap.size] F V->V.cell? ⟨w.heap.size,0+3,none⟩=some (iV f.bound):=fun V D=>D.cell (M.cell r3 O) EP;have a2:=f0.ext M;refine go ?_;refine D_R (v:=.agg [E,t,z,B,R].toArray) rfl rfl (fun V D=>by refine AQ (L:=[E,t,z,B,R]) rfl rfl (E1 V D) ?_;exact AA ⟨rfl,rfl,rfl⟩) ?_;refine go ?_;refine D_E rfl ?_;first|refine AF (xtrue_ok (fun x=>w.heap.size<=x/\x≠Q.heap.size) F) rfl ?_|refine AF (xfalse_ok (fun x=>w.heap.size<=x/\x≠Q.heap.size) F) rfl ?_
     rintro u4 w4⟨c,f4⟩;have z4:=c.size;refine wNl c.any ?_;refine go ?_;refine D_E rfl ?_;refine AF (rtwoX_ok w4 _ _ _ _ _ _ f4 (a2.ext c) (fun x hx=>⟨by omega,by omega⟩)) rfl ?_;rintro u5 w5⟨A,f5⟩;refine wNl ((c.trans A).any) ?_;refine go ?_;refine D_E rfl ?_;refine BE rfl rfl f5 (j.E (q.trans (M.trans (c.trans A))) O) rfl (fun P X p C i T S=>?_);refine wNl ((c.trans A).any.trans i (fun y Z _=>Z)) ?_;refine go ?_;exact AW rfl rfl C S.cells ⟨(kw.trans (M.trans (c.trans A))).E i EP,_,FAt.ret f5 p i⟩
   refine go ?_;by_cases e13:f.op=13\/f.op=14
   ·have h1:=a3 U;obtain⟨g0,a⟩:=gl (show 0<l.length by omega);obtain⟨b,o,E,t,z,B,R,rfl,a5,a0,f0⟩:=FsAt.elt K H a;rcases e13 with e|e
    all_goals
     refine go ?_;refine Ac (rd 0 5 (.alt 5 (.alt 6 .done .stop) .stop)) Ap EO (fun F M ed=>⟨Keep [Q.heap.size] F,?_,?_⟩)
     ·exact Ff
     have zd:=M.size;have E1:∀V,Keep [Q.heap.size] F V->Cells V b (o+0*5) [E,t,z,B,R]:=fun V D=>(a0.E M O).E D EP;have E3:∀V,Keep [Q.heap.size] F V->V.cell? ⟨w.heap.size,0+3,none⟩=some (iV f.bound):=fun V D=>D.cell (M.cell r3 O) EP;have a2:=f0.ext M;refine go ?_;refine D_R (v:=.agg [E,t,z,B,R].toArray) rfl rfl (fun V D=>by refine AQ (L:=[E,t,z,B,R]) rfl rfl (E1 V D) ?_;exact AA ⟨rfl,rfl,rfl⟩) ?_;refine go ?_;refine D_E rfl ?_;refine AF (rrep_ok (fun x=>w.heap.size<=x/\x≠Q.heap.size) F _ f.bound _ g0 a2 U (fun x hx=>⟨by omega,by omega⟩)) rfl ?_;rintro u5 w5⟨A,g5,f5⟩;refine wNl (A).any ?_;refine go ?_;refine D_E rfl ?_;refine BE rfl rfl f5 (j.E (q.trans (M.trans (A))) O) rfl (fun P X p C i T S=>?_);refine wNl ((A).any.trans i (fun y Z _=>Z)) ?_;refine go ?_;exact AW rfl rfl C S.cells ⟨(kw.trans (M.trans (A))).E i EP,_,FAt.ret f5 p i⟩
   refine go ?_;by_cases b3:f.op=18\/f.op=19
   ·have h1:=a3 U;obtain⟨g0,a⟩:=gl (show 0<l.length by omega);obtain⟨b,o,E,t,z,B,R,rfl,a5,a0,f0⟩:=FsAt.elt K H a;rcases b3 with e|e
    all_goals
     refine go ?_;refine Ac (rd 1 3 (.alt 0 (.alt 4 (.alt 5 (.alt 6 .done .stop) .stop) .stop) .stop)) Ap EO (fun F M ed=>⟨Keep [Q.heap.size] F,?_,?_⟩)
     ·exact Ff
     have zd:=M.size;have E1:∀V,Keep [Q.heap.size] F V->Cells V b (o+0*5) [E,t,z,B,R]:=fun V D=>(a0.E M O).E D EP;have E3:∀V,Keep [Q.heap.size] F V->V.cell? ⟨w.heap.size,0+3,none⟩=some (iV f.bound):=fun V D=>D.cell (M.cell r3 O) EP;have a2:=f0.ext M;refine go ?_;refine D_R (v:=.agg [E,t,z,B,R].toArray) rfl rfl (fun V D=>by refine AQ (L:=[E,t,z,B,R]) rfl rfl (E1 V D) ?_;exact AA ⟨rfl,rfl,rfl⟩) ?_;refine go ?_;refine D_E rfl ?_;first|refine AF (xtrue_ok (fun x=>w.heap.size<=x/\x≠Q.heap.size) F) rfl ?_|refine AF (xfalse_ok (fun x=>w.heap.size<=x/\x≠Q.heap.size) F) rfl ?_
     rintro u4 w4⟨c,f4⟩;have z4:=c.size;obtain⟨cu,rfl,b8, -⟩:=f4.cells;obtain⟨c0,c1,c2,c3,c4,rfl⟩:=Ak b8;refine wNl c.any ?_;refine go ?_;refine D_E rfl ?_;refine AP (out:=[c0,c1,c2,c3,c4,E,t,z,B,R]) rfl U Ei (fun w5 G=>?_);have z5:=G.size;obtain⟨S5,F5⟩:=FsAt.fresh (ok:=fun x=>w.heap.size<=x/\x≠Q.heap.size) (L:=[[c0,c1,c2,c3,c4],[E,t,z,B,R]]) G (FsAt.two f4 rfl (a2.ext c) rfl) ⟨by omega,by omega⟩ O;refine wNl ((c.trans G.E).any) ?_;refine go ?_;refine D_E rfl ?_;refine AF (rlate_ok w5 _ _ _ _ _ _ _ S5 F5) rfl ?_;rintro u6 w6⟨s,I⟩;refine wNl (((c.trans G.E).trans s).any) ?_;refine go ?_;refine D_E rfl ?_;refine BE rfl rfl I (j.E (q.trans (M.trans ((c.trans G.E).trans s))) O) rfl (fun P X p C i T S=>?_);refine wNl (((c.trans G.E).trans s).any.trans i (fun y Z _=>Z)) ?_;refine go ?_;exact AW rfl rfl C S.cells ⟨(kw.trans (M.trans ((c.trans G.E).trans s))).E i EP,_,FAt.ret I p i⟩
   refine go ?_;by_cases e15:f.op=15
   ·refine go ?_;refine AF (rlate_ok W _ _ _ _ _ L1 l K H) rfl ?_;exact FJ
   refine go ?_;by_cases b2:f.op=16\/f.op=17
   ·rcases b2 with e|e
    all_goals
     refine go ?_
     try
      refine AF (rdual_ok W _) rfl ?_;rintro _ W9⟨⟨m,rfl⟩,a4⟩;rw[a4];refine go ?_
     refine AF (rlate_ok W _ _ _ _ _ L1 l K H) rfl ?_;exact FJ
   refine go ?_
   try
    refine AF (rdual_ok W _) rfl ?_;rintro _ W9⟨⟨m,rfl⟩,a4⟩;rw[a4];refine go ?_
   refine AF (rop_ok W _ _ _ _ L1 l K H) rfl ?_;exact FJ
theorem szL_cut:∀(l:LF)(k:Nat),szL (l.take k)<=szL l
 | [],k=>by simp
 |a::l,0=>by simp[szL]
 |a::l,k+1=>by have:=szL_cut l k;simp only[List.take_succ_cons,szL];omega
theorem xtN4{op b:Int}{r:Int×Int}(h:op=4):xtN op b r=(min r.1 1000,r.2):=by simp[xtN,h]
theorem xtNl{op b:Int}{r:Int×Int}(h:op=11\/op=12\/op=18\/op=19):xtN op b r=(min (r.1+2) 1000,r.2+1):=by
 unfold xtN;rw[if_neg U,if_pos (by simp[isLn];omega),if_neg U,if_neg U]
theorem xtNb{op b:Int}{r:Int×Int}(h:op=13\/op=14):xtN op b r=(min (r.1*(b+1)+2*b) 1000,r.2+2*b):=by
 unfold xtN;rw[if_neg U,if_neg (by simp[isLn];omega),if_pos h,if_neg U,if_pos h]
theorem xtNe{op b:Int}{r:Int×Int}(B:op≠4)(K:¬(op=11\/op=12\/op=18\/op=19))(S:¬(op=13\/op=14)):xtN op b r=(min (r.1+1) 1000,r.2+1):=by
 unfold xtN;rw[if_neg B,if_neg (by simp[isLn];omega),if_neg S,if_neg B,if_neg S]
theorem tup2{a b c d:Int}(Z:a=c)(W:b=d):Value.tuple #[iV a,iV b]=Value.tuple #[iV c,iV d]:=by rw[Z,W]
set_option maxHeartbeats 4000000 in
theorem rext_ok:∀(N:Nat)(f:Fml),szF f<=N->N<=1000->Cj shQ f->∀(w:World)(v:Value)(neg:Bool),FAt Af w v f->Fn Zp 232 [v,.bool neg] w fun u w'=>u=.tuple #[iV (xtF f neg).1,iV (xtF f neg).2]/\Ext w w':=by
 intro N
 induction N with
 |zero=>intro f hN;have:=C1 f;omega
 |succ N ih=>
 intro f hN hM a8 w v neg hf;have b4:=BL f;have hs:=(allF_iff.1 a8).1;have z:=(allF_iff.1 a8).2;simp only[shQ,Bs,Bool.and_eq_true,decide_eq_true_eq]at hs;obtain⟨⟨⟨⟨⟨⟨⟨s1,s2⟩,s3⟩,s4⟩,s5⟩,s6⟩,s7⟩,s8⟩:=hs;have b5:f.bound<=9:=by split at s7<;>omega
 have a6:f.op=4\/f.op=13\/f.op=14->f.args.length=1:=fun e=>by
  unfold BX at s3;rw[if_neg U,if_neg U,if_neg U]at s3;simpa using s3
 have V:=xtF_eq f neg;obtain⟨T,m⟩:∃T,T=(f.op==4||f.op==7):=⟨_,rfl⟩;rw[<-m]at V
 have a7:∀k,0<=(xtL T (f.args.take k) neg).1/\(xtL T (f.args.take k) neg).1<=1000000/\0<=(xtL T (f.args.take k) neg).2/\(xtL T (f.args.take k) neg).2<=20000:=fun k=>by
  have s:∀a∈f.args.take k,Cj shQ a:=fun a ha=>z a (List.mem_of_mem_take ha);have h1:=xtL_le (f.args.take k) T neg s;have h2:=(xtL_pos (f.args.take k) T neg s).1;have h3:=CE f.args;have h4:(f.args.take k).length<=f.args.length:=by rw[List.length_take];omega
  have h5:=szL_cut f.args k;omega
 have P:∀S,S=(xtL T f.args neg).1->f.op=13\/f.op=14->S<=1000:=fun S h e=>by
  have h1:=(xtL_le f.args T neg z).1;have h2:=a6 (Or.inr e);rw[<-h,h2]at h1;simpa using h1
 obtain⟨c5,rfl,a9,b3⟩:=hf.cells;obtain⟨x0,x1,x2,x3,x4,rfl⟩:=Ak a9;refine AN Tryz.func232 rfl Tryz.ntmps232 (go ?_);refine A3 (L:=[x0,x1,x2,x3,x4]) rfl (fun w1 n1=>?_);have z1:=n1.size;have P1:PF Af w1 w.heap.size 0 f:=⟨trivial,_,rfl,n1.D.cells,hf.ext n1.E⟩;obtain⟨aa,ac,b2,q0,q1,q2,q3,q4,qa⟩:=P1.all;cases neg with
 |true=>
  by_cases e3:f.op=3
  ·rw[if_pos ⟨e3,rfl⟩]at V;rw[V];refine go ?_;exact BP rfl ⟨rfl,n1.E⟩
  rw[if_neg (fun h=>e3 h.1)]at V;refine go ?_
  refine Ar (α:=Nat) (fun k=>[(1,.bool true),(2,pt w.heap.size),(4,iV 0),(5,iV 0),(6,iV (1+(xtL T (f.args.take k) true).1)),(7,iV (xtL T (f.args.take k) true).2),(8,iV (k:Int))])
   (fun k W=>k<=f.args.length/\Ext w1 W) (fun k=>f.args.length-k) 0 (by refine⟨rfl,rfl,rfl,rfl,?_,?_,rfl,trivial⟩<;>(rw[List.take_zero,xtL];rfl)) ⟨by omega,Ext.refl _⟩ ?_
  rintro k W fr⟨hk,q⟩;have B:=n1.E.trans q;have r0:=q.cell q0 O;have r3:=q.cell q3 O;have r4:=q.cell q4 O;obtain⟨g1,g2,g3,g4⟩:=a7 k;refine go ?_;by_cases a5:k<f.args.length
  ·obtain⟨x,I⟩:=gl a5;obtain⟨b',o',rfl,px⟩:=qa k x I;obtain⟨_,d,hd,a4,j⟩:=px;obtain⟨E,y,M,F,G,rfl⟩:=Ak hd;have Q:Cells W b' (o'+k*5) [E,y,M,F,G]:=a4.E q O;have c:=List.mem_of_getElem? I;have b1:=Bb c;have o:=xtL_snoc f.args k x T true I;obtain⟨n,K⟩:∃n,n=(T&&(k==0)):=⟨_,rfl⟩;rw[<-K]at o;rcases(by omega:f.op=4\/(f.op≠4/\f.op=7/\k=0)\/(f.op≠4/\f.op=7/\k≠0)\/(f.op≠4/\f.op≠7))with e|⟨e,H,X⟩|⟨e,H,X⟩|⟨e,H⟩
   ·have p:n=true:=by rw[K,m];simp[e];have:=a6 (Or.inl e);omega
    rw[p]at o;refine go ?_;refine AQ (L:=[E,y,M,F,G]) rfl rfl Q (go ?_);refine AF (ih x U U (z x c) W _ _ (j.ext q)) rfl ?_;rintro _ w5⟨rfl,A⟩;obtain⟨r,C⟩:=Du x (true !=n) (z x c);obtain⟨b,R⟩:=xtF_le x (true !=n) (z x c);rw[p]at r C b R;refine go ?_;refine W_max rfl rfl (go ?_);refine⟨k+1,⟨rfl,⟨rfl,rfl,rfl,rfl,?_,?_,?_,trivial⟩,⟨by omega,q.trans A⟩⟩,by omega⟩
    ·exact Fb
    ·refine congrArg (Value.int .i64) ?_;rw[o];all_goals first|rfl|(exfalso;omega)
    ·exact Fm
   ·have p:n=true:=by rw[K,m];simp[H,X]
    rw[p]at o;refine go ?_;refine AQ (L:=[E,y,M,F,G]) rfl rfl Q (go ?_);refine AF (ih x U U (z x c) W _ _ (j.ext q)) rfl ?_;rintro _ w5⟨rfl,A⟩;obtain⟨r,C⟩:=Du x (true !=n) (z x c);obtain⟨b,R⟩:=xtF_le x (true !=n) (z x c);rw[p]at r C b R;refine go ?_;refine W_max rfl rfl (go ?_);refine⟨k+1,⟨rfl,⟨rfl,rfl,rfl,rfl,?_,?_,?_,trivial⟩,⟨by omega,q.trans A⟩⟩,by omega⟩
    ·exact Fb
    ·refine congrArg (Value.int .i64) ?_;rw[o];all_goals first|rfl|(exfalso;omega)
    ·exact Fm
   ·have p:n=false:=by rw[K,m];simp[H,X]
    rw[p]at o;refine go ?_;refine AQ (L:=[E,y,M,F,G]) rfl rfl Q (go ?_);refine AF (ih x U U (z x c) W _ _ (j.ext q)) rfl ?_;rintro _ w5⟨rfl,A⟩;obtain⟨r,C⟩:=Du x (true !=n) (z x c);obtain⟨b,R⟩:=xtF_le x (true !=n) (z x c);rw[p]at r C b R;refine go ?_;refine W_max rfl rfl (go ?_);refine⟨k+1,⟨rfl,⟨rfl,rfl,rfl,rfl,?_,?_,?_,trivial⟩,⟨by omega,q.trans A⟩⟩,by omega⟩
    ·exact Fb
    ·refine congrArg (Value.int .i64) ?_;rw[o];all_goals first|rfl|(exfalso;omega)
    ·exact Fm
   ·have p:n=false:=by rw[K,m];simp[e,H]
    rw[p]at o;refine go ?_;refine AQ (L:=[E,y,M,F,G]) rfl rfl Q (go ?_);refine AF (ih x U U (z x c) W _ _ (j.ext q)) rfl ?_;rintro _ w5⟨rfl,A⟩;obtain⟨r,C⟩:=Du x (true !=n) (z x c);obtain⟨b,R⟩:=xtF_le x (true !=n) (z x c);rw[p]at r C b R;refine go ?_;refine W_max rfl rfl (go ?_);refine⟨k+1,⟨rfl,⟨rfl,rfl,rfl,rfl,?_,?_,?_,trivial⟩,⟨by omega,q.trans A⟩⟩,by omega⟩
    ·exact Fb
    ·refine congrArg (Value.int .i64) ?_;rw[o];all_goals first|rfl|(exfalso;omega)
    ·exact Fm
  obtain rfl:k=f.args.length:=by omega
  rw[List.take_length]at g1 g2 g3 g4⊢;obtain⟨S,l⟩:∃S,S=(xtL T f.args true).1:=⟨_,rfl⟩;obtain⟨D,i⟩:∃D,D=(xtL T f.args true).2:=⟨_,rfl⟩;rw[<-l]at g1 g2;rw[<-i]at g3 g4;rw[<-l,<-i];refine go ?_;by_cases g:f.op=4
  ·exact Gp
  refine go ?_;by_cases a0:f.op=11
  ·exact Gg
  refine go ?_;by_cases a1:f.op=12
  ·exact GX
  refine go ?_;by_cases a2:f.op=18
  ·exact GU
  refine go ?_;by_cases a3:f.op=19
  ·exact GW
  refine go ?_;have P:f.op=13\/f.op=14->S<=1000:=P S l
  have s:f.op=13\/f.op=14->0<=(1+S-1)*(f.bound+1)/\(1+S-1)*(f.bound+1)<=10000:=fun h=>by
   exact Fw
  exact FH
 |false=>
  rw[if_neg (fun h=>Bool.false_ne_true h.2)]at V;by_cases e3:f.op=3
  all_goals
   refine go ?_
   refine Ar (α:=Nat) (fun k=>[(1,.bool false),(2,pt w.heap.size),(4,iV 0),(5,iV 0),(6,iV (1+(xtL T (f.args.take k) false).1)),(7,iV (xtL T (f.args.take k) false).2),(8,iV (k:Int))])
    (fun k W=>k<=f.args.length/\Ext w1 W) (fun k=>f.args.length-k) 0 (by refine⟨rfl,rfl,rfl,rfl,?_,?_,rfl,trivial⟩<;>(rw[List.take_zero,xtL];rfl)) ⟨by omega,Ext.refl _⟩ ?_
   rintro k W fr⟨hk,q⟩;have B:=n1.E.trans q;have r0:=q.cell q0 O;have r3:=q.cell q3 O;have r4:=q.cell q4 O;obtain⟨g1,g2,g3,g4⟩:=a7 k;refine go ?_;by_cases a5:k<f.args.length
   ·obtain⟨x,I⟩:=gl a5;obtain⟨b',o',rfl,px⟩:=qa k x I;obtain⟨_,d,hd,a4,j⟩:=px;obtain⟨E,y,M,F,G,rfl⟩:=Ak hd;have Q:Cells W b' (o'+k*5) [E,y,M,F,G]:=a4.E q O;have c:=List.mem_of_getElem? I;have b1:=Bb c;have o:=xtL_snoc f.args k x T false I;obtain⟨n,K⟩:∃n,n=(T&&(k==0)):=⟨_,rfl⟩;rw[<-K]at o;rcases(by omega:f.op=4\/(f.op≠4/\f.op=7/\k=0)\/(f.op≠4/\f.op=7/\k≠0)\/(f.op≠4/\f.op≠7))with e|⟨e,H,X⟩|⟨e,H,X⟩|⟨e,H⟩
    ·have p:n=true:=by rw[K,m];simp[e];have:=a6 (Or.inl e);omega
     rw[p]at o;refine go ?_;refine AQ (L:=[E,y,M,F,G]) rfl rfl Q (go ?_);refine AF (ih x U U (z x c) W _ _ (j.ext q)) rfl ?_;rintro _ w5⟨rfl,A⟩;obtain⟨r,C⟩:=Du x (false !=n) (z x c);obtain⟨b,R⟩:=xtF_le x (false !=n) (z x c);rw[p]at r C b R;refine go ?_;refine W_max rfl rfl (go ?_);refine⟨k+1,⟨rfl,⟨rfl,rfl,rfl,rfl,?_,?_,?_,trivial⟩,⟨by omega,q.trans A⟩⟩,by omega⟩
     ·exact Fb
     ·refine congrArg (Value.int .i64) ?_;rw[o];all_goals first|rfl|(exfalso;omega)
     ·exact Fm
    ·have p:n=true:=by rw[K,m];simp[H,X]
     rw[p]at o;refine go ?_;refine AQ (L:=[E,y,M,F,G]) rfl rfl Q (go ?_);refine AF (ih x U U (z x c) W _ _ (j.ext q)) rfl ?_;rintro _ w5⟨rfl,A⟩;obtain⟨r,C⟩:=Du x (false !=n) (z x c);obtain⟨b,R⟩:=xtF_le x (false !=n) (z x c);rw[p]at r C b R;refine go ?_;refine W_max rfl rfl (go ?_);refine⟨k+1,⟨rfl,⟨rfl,rfl,rfl,rfl,?_,?_,?_,trivial⟩,⟨by omega,q.trans A⟩⟩,by omega⟩
     ·exact Fb
     ·refine congrArg (Value.int .i64) ?_;rw[o];all_goals first|rfl|(exfalso;omega)
     ·exact Fm
    ·have p:n=false:=by rw[K,m];simp[H,X]
     rw[p]at o;refine go ?_;refine AQ (L:=[E,y,M,F,G]) rfl rfl Q (go ?_);refine AF (ih x U U (z x c) W _ _ (j.ext q)) rfl ?_;rintro _ w5⟨rfl,A⟩;obtain⟨r,C⟩:=Du x (false !=n) (z x c);obtain⟨b,R⟩:=xtF_le x (false !=n) (z x c);rw[p]at r C b R;refine go ?_;refine W_max rfl rfl (go ?_);refine⟨k+1,⟨rfl,⟨rfl,rfl,rfl,rfl,?_,?_,?_,trivial⟩,⟨by omega,q.trans A⟩⟩,by omega⟩
     ·exact Fb
     ·refine congrArg (Value.int .i64) ?_;rw[o];all_goals first|rfl|(exfalso;omega)
     ·exact Fm
    ·have p:n=false:=by rw[K,m];simp[e,H]
     rw[p]at o;refine go ?_;refine AQ (L:=[E,y,M,F,G]) rfl rfl Q (go ?_);refine AF (ih x U U (z x c) W _ _ (j.ext q)) rfl ?_;rintro _ w5⟨rfl,A⟩;obtain⟨r,C⟩:=Du x (false !=n) (z x c);obtain⟨b,R⟩:=xtF_le x (false !=n) (z x c);rw[p]at r C b R;refine go ?_;refine W_max rfl rfl (go ?_);refine⟨k+1,⟨rfl,⟨rfl,rfl,rfl,rfl,?_,?_,?_,trivial⟩,⟨by omega,q.trans A⟩⟩,by omega⟩
     ·exact Fb
     ·refine congrArg (Value.int .i64) ?_;rw[o];all_goals first|rfl|(exfalso;omega)
     ·exact Fm
   obtain rfl:k=f.args.length:=by omega
   rw[List.take_length]at g1 g2 g3 g4⊢;obtain⟨S,l⟩:∃S,S=(xtL T f.args false).1:=⟨_,rfl⟩;obtain⟨D,i⟩:∃D,D=(xtL T f.args false).2:=⟨_,rfl⟩;rw[<-l]at g1 g2;rw[<-i]at g3 g4;rw[<-l,<-i];refine go ?_;by_cases g:f.op=4
   ·exact Gp
   refine go ?_;by_cases a0:f.op=11
   ·exact Gg
   refine go ?_;by_cases a1:f.op=12
   ·exact GX
   refine go ?_;by_cases a2:f.op=18
   ·exact GU
   refine go ?_;by_cases a3:f.op=19
   ·exact GW
   refine go ?_;have P:f.op=13\/f.op=14->S<=1000:=P S l
   have s:f.op=13\/f.op=14->0<=(1+S-1)*(f.bound+1)/\(1+S-1)*(f.bound+1)<=10000:=fun h=>by
    exact Fw
   exact FH
theorem pre_gen{P:Fml->Bool->Prop}{Q:Nd->Bool}(w:∀f i,P f i->Q (f,i)=true)(L:∀f i a,P f i->a∈f.args->P a (i||(Bd f.op).past)):∀(n:Nat)(f:Fml)(i:Bool),szF f<=n->P f i->(Dp i f).all Q=true
 |0,f,i,hz,_=>by rw[BL]at hz;omega
 |n+1,f,i,hz,h=>by
  have K:∀(l:LF)(j:Bool),(∀a∈l,a∈f.args/\P a j)->(DE j l).all Q=true:=by
   intro l
   induction l with
   |nil=>intro j _;rfl
   |cons a l ih=>
    intro j s;have d:=Bb (s a O).1;rw[BL]at hz;rw[DE,List.all_append,pre_gen w L n a j U (s a O).2,ih j fun c T=>s c Eb];rfl
  rw[preF_eq,List.all_cons,w f i h,K f.args _ fun a D=>⟨D,L f i a h D⟩];rfl
def vaQ(f:Fml):Prop:=szF f<=60/\dpF f<=20/\Cj shQ f
theorem va_valid{f:Fml}(h:vaQ f):validG f=true:=by
 obtain⟨Z,W,R⟩:=h;simp only[validG,Bool.and_eq_true,decide_eq_true_eq];refine⟨⟨Z,W⟩,pre_gen (P:=fun f _=>szF f<=60/\Cj shQ f) (fun g i w=>?_) (fun g i a w D=>?_) _ f false (Nat.le_refl _) ⟨Z,R⟩⟩
 ·have:=CE g.args;have B:=w.1;rw[BL]at B;simp only;rw[shapeF_eq g U];exact(allF_iff.1 w.2).1
 ·have:=Bb D;have B:=w.1;rw[BL]at B;exact⟨by omega,(allF_iff.1 w.2).2 a D⟩
theorem fut_past{f:Fml}(h:Cj futQ f):pastG f=true:=
 pre_gen (P:=fun f _=>Cj futQ f) (fun g i w=>by
  have:=(allF_iff.1 w).1;unfold pastN;simp only;rw[(formM_kind g.op).2.1];unfold futQ at this;rw[this];rfl) (fun g i a w D=>(allF_iff.1 w).2 a D) _ f false (Nat.le_refl _) h
theorem lay_layG{f:Fml}(h:Cj layQ f):layG f=true:=
 pre_gen (P:=fun f i=>Cj layQ f/\(i=true->Cj futQ f)) (fun g i w=>by
  unfold layN;simp only;rw[(formM_kind g.op).2.1];cases i with
  |false=>simp
  |true=>
   have:=(allF_iff.1 (w.2 rfl)).1;unfold futQ at this;rw[this];rfl) (fun g i a w D=>⟨(allF_iff.1 w.1).2 a D,fun H=>by
  rw[(formM_kind g.op).1,Bool.or_eq_true]at H;rcases H with H|H
  ·exact(allF_iff.1 (w.2 H)).2 a D
  ·exact(allF_iff.1 w.1).1 H a D⟩) _ f false (Nat.le_refl _) ⟨h,fun h=>by cases h⟩
def ndS(S:List Sgn)(f:Fml):Prop:=(f.op=3->knS S f.name f.val=true)/\(pstB f.op=true->∀a∈f.args,Cj futQ a)
theorem nd_all(S:List Sgn):∀(n:Nat)(f:Fml),szF f<=n->Cj (ndS S) f->allNd (ndOk S) f=true
 |0,f,hz,_=>by rw[BL]at hz;omega
 |n+1,f,hz,h=>by
  obtain⟨⟨Z,W⟩,R⟩:=allF_iff.1 h;rw[BL]at hz;rw[allNd_eq,Bool.and_eq_true];refine⟨?_,(allNdL_iff _).2 fun a D=>nd_all S n a (by have:=Bb D;omega) (R a D)⟩;unfold ndOk;by_cases I:f.op=3
  ·rw[if_pos I];exact Z I
  rw[if_neg I]
  split
  ·rename_i hp;refine List.all_eq_true.2 fun a D=>fut_past (W ?_ a D);simp only[isPstE,Bool.or_eq_true,decide_eq_true_eq]at hp;simp only[pstB,Bool.and_eq_true,decide_eq_true_eq];omega
  ·rfl
def fmS(S:List Sgn)(f:Fml):Prop:=Bk S=true/\vaQ f/\Cj (ndS S) f/\Cj layQ f/\(xtF f false).1<=60/\(xtF f false).2<=20
theorem fmS_ok{S:List Sgn}{f:Fml}(h:fmS S f):fmOk S f=true:=by
 obtain⟨Z,W,R,B,d⟩:=h;simp only[fmOk,Bool.and_eq_true,decide_eq_true_eq];exact⟨⟨⟨Z,va_valid W⟩,nd_all S _ f (Nat.le_refl _) R⟩,(kern_xt (va_valid W) (lay_layG B) W.2.2).2 d⟩
theorem nmI_of{o:List Rqm}{i:Nat}{x:Rqm}(h:o[i]?=some x)(I:∀j y,j<i->o[j]?=some y->y.name≠x.name):nmI o x.name=some i:=by
 obtain⟨j,T,a⟩:=nmI_self h;rw[T];refine congrArg some ?_;unfold nmI at T;obtain⟨b,Z, -⟩:=List.findIdx?_eq_some_iff_getElem.1 T;refine Nat.le_antisymm a (Nat.le_of_not_lt fun C=>?_);exact I j o[j] C (List.getElem?_eq_getElem b) (by simpa using Z)
def rqS(S:List Sgn)(o:List Rqm)(i:Nat)(x:Rqm):Prop:=wordsB x=true/\(∀j y,j<i->o[j]?=some y->y.name≠x.name)/\fmS S x.formula
theorem chk_of{s:Spc}(Z:Bk s.sigs=true)(W:s.reqs.length<=16)(R:∀i x,s.reqs[i]?=some x->rqS s.sigs s.reqs i x):chkB s=true:=by
 simp only[chkB,Bool.and_eq_true,decide_eq_true_eq];refine⟨⟨Z,W⟩,List.all_eq_true.2 fun i H=>?_⟩;obtain⟨x,V⟩:∃x,s.reqs[i]?=some x:=⟨_,List.getElem?_eq_getElem (List.mem_range.1 H)⟩;obtain⟨Q,L,A⟩:=R i x V;unfold reqB;rw[V];simp only[Bool.and_eq_true,decide_eq_true_eq];exact⟨⟨Q,nmI_of V L⟩,fmS_ok A⟩
end Go.Proofs.YtjbocjodncbogaaGreatDoor
