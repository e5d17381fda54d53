/- TopTextDuties, part 12 of 15: lemmas. Conditions: none. -/
import Derived.Test.YtjbocjodncbogaaGreatDoorDX11
namespace Go.Proofs.YtjbocjodncbogaaGreatDoor
open Go.RowKit Go.Proofs.Tryz
set_option linter.unusedVariables false
set_option linter.defProp false
def UR:=@List.replicate_zero
set_option maxHeartbeats 2000000 in
def cv(w:World)(H:Option Addr)(C:Nat)(S:List Sgn)(b o:Nat)(f:Fml)(c:LV)(M I:List Int)(hS:SlAt sgnR AL w (.slice H S.length C) S)(hv:Bo S=true)(hf:PF AL w b o f)(hz:szF f<=10000)(hl:LasG w c M I)
  (hs:M.length<=60)(h1:1<=I.length)(h2:I.length<=40)(hp:∀x∈M,0<=x/\x<Ei S)(hq:∀x∈I,0<=x/\x<Ei S)(hK:KY w)(hN:10<=w.heap.size):
  Fn Zp 123 [.slice H S.length C,.pointer (sn b o),.agg c.toArray] w fun u w'=>∃t,u=pt t/\Ext w w'/\AxG w' t S (M++I) M.length I.length (M.length+Cm f*I.length):=by
 obtain⟨e5,e6⟩:=MM hv;have h6:S.length<=6:=(If hv).2.1;have e7:=R6 f;have e8:Cm f*I.length<=10000*40:=Nat.mul_le_mul U h2;have c9:=hl;obtain⟨d8,d7,G,N,rfl,f0,hlp⟩:=hl;obtain⟨a,a0⟩:∃a,a=M++I:=⟨_,rfl⟩;have b9:a.length=M.length+I.length:=by rw[a0,A9]
 have d5:∀x∈a,0<=x/\x<Ei S:=fun x p=>by
  rw[a0]at p;exact(DM.1 p).elim (hp x) (hq x)
 refine AM func123 rfl ntmps123 (go ?_);refine Ac (L:=[.slice d8 M.length d7,.slice G I.length N]) rfl (fun Q n1=>?_);have b1:=n1.D;have z1:=n1.size;refine go ?_;refine Ac (L:=[.slice H S.length C,nS,iV (M.length:Int),iV 0,iV 0]) rfl (fun w2 n2=>?_);have z2:=n2.size;have c2:=b1.E n2.E O;have k2:Ext w w2:=n1.E.Q n2.E;refine gC (dD w2 _ M I _ (c9.ext k2) hs h1 h2 (fun x p=>by have:=hp x p;omega) (fun x p=>by have:=hq x p;omega) (BB _ _).symm) ?_;rintro u T⟨o3,k3⟩;rw[<-a0,<-b9]at o3;obtain⟨pa,c1,rfl,a3⟩:=Kv o3;obtain⟨x0,a6⟩:=gl (l:=a) (k:=0) U;obtain⟨pg,a7,rfl,_⟩:=a3 0 (iV x0) (by rw[Cl,a6];rfl);have e3:=k2.Q k3;have c3:=c2.E k3 O;have b0:=n2.D.E k3 O;have z3:=k3.size;have e9:w2.heap.size<=pg:=(Ao o3 rfl).1
 have c8:∀(k:Nat)(x:Int),a[k]?=some x->CC T pg (a7+k) (iV x):=fun k x hk=>by
  obtain⟨g,o',e,h⟩:=a3 k (iV x) (by rw[Cl,hk];rfl);cases e;exact h
 clear a3 o3;refine go ?_
 refine Aj (α:=Nat×Value×LV) (fun|(k,_,_)=>[(0,.slice H S.length C),(1,.pointer (some ⟨b,o,none⟩)),(5,pt w.heap.size),(7,pt Q.heap.size),(26,.slice (some ⟨pg,a7,none⟩) a.length c1),(27,.int .i64 (a.length:Int)),(28,.int .i64 (k:Int))])
  (fun|(k,v,F),W=>k<=a.length/\Ext w W/\Keep [Q.heap.size] T W/\Blk W Q.heap.size 185 [.slice H S.length C,v,.int .i64 (M.length:Int),.int .i64 0,.int .i64 0]/\W.ownsRow T.heap.size 45 1 v k F/\qN W T.heap.size v.ownBlock F S (a.take k)) (fun|(k,_,_)=>a.length-k) (0,.slice none 0 0,[]) ag ⟨by omega,e3,Keep.refl _ _,b0,⟨rfl,.inl ⟨rfl,rfl⟩⟩,rfl,fun k u x h=>by cases h⟩ ?_
 rintro⟨k,v,F⟩W fr⟨hk,K,a1,bW,oW,D⟩;have zW:=a1.size;have lW:=bW.lt;have f1:=b0.lt;have R:∀g,v.ownBlock=some g->T.heap.size<=g/\g<W.heap.size:=fun g q=>Ao oW q;have a9:=c3.E a1 rE;refine go ?_;by_cases d1:k<a.length
 ·obtain⟨x,p⟩:=gl d1;obtain⟨a6,d4⟩:=d5 x (BA p);have d9:=a1.cell (c8 k x p) (fun h=>by simp at h;omega);refine go ?_;refine Mg (n:=S.length) rfl rfl rfl rfl rfl U U (fun wa na=>?_);have za:=na.size;have ka:=na.E;have e1:Ext w wa:=K.Q ka;refine go ?_
  refine Aj (α:=Nat) (fun i=>[(0,.slice H S.length C),(1,.pointer (sn b o)),(5,pt w.heap.size),(7,pt Q.heap.size),(9,iV x),(10,.slice (sm W.heap.size) S.length S.length),(26,.slice (sn pg a7) a.length c1),(27,iV (a.length:Int)),(28,iV (k:Int)),(36,iV (S.length:Int)),(37,iV (i:Int))])
   (fun i z=>i<=S.length/\Ext W z/\Blk z W.heap.size 3 (IQ S x i++List.replicate (S.length-i) (iV 0))) (fun i=>S.length-i) 0 ag ⟨by omega,ka,na.D⟩ ?_
  rintro i z fi⟨hi,X,bU⟩;refine go ?_;by_cases hil:i<S.length
  ·have eU:=K.Q X;refine gC (Rn z _ S x i (hS.ext eU) (hK.E eU O) (Az hN eU.size) hv a6 d4 hil) ?_;rintro _ U1⟨rfl,d⟩;have c4:=bU.E d O;refine go ?_;refine AW (v:=iV (D0 S x i)) rfl rfl rfl c4 (by simp[VJ];omega) (fun U2 E=>?_);refine go ?_;have bU2:=E.D;rw[Bs,Re _ _ _ _ _ (VJ S x i) hil,<-N1]at bU2;exact⟨i+1,⟨rfl,ag,⟨by omega,(X.Q d).E E.E O,bU2⟩⟩,by omega⟩
  ·obtain rfl:i=S.length:=by omega
   rw[Ot,UR,Ch]at bU;have c5:=bW.E X O;have oU:=CD oW X;have zU:=X.size;have lU:=bU.lt;refine go ?_;refine Ka (out:=[.slice (sm W.heap.size) S.length S.length]) rfl U rfl rfl (fun U1 m1=>?_);have oz:=m1.own (n:=1) (size:=1) rfl rL (AO _);have y1:=m1.size;refine Bk (ok:=AL) (v:=v) rfl rfl (CD oU m1.E) (BG oz fun _ _=>trivial) U rfl rfl (Ak rfl) U U U (fun v4 U2 m=>?_);have hm:∀{b},b∈v.ownBlock.toList->v.ownBlock=some b:=fun p=>Aw.1 p;have Z:=(c5.E m1.E O).E m.E (fun h=>by have:=R _ (hm h);omega);refine go ?_;refine AW (v:=v4) rfl rfl (MN m.own) Z O (fun U3 B=>go ?_);have f2:=m.E.size;have f3:=B.size
   have a4:∀g,v4.ownBlock=some g->v.ownBlock=some g\/g=U1.heap.size:=fun g q=>by
    rcases m.D with e|e
    ·exact .inl (e▸q)
    ·rw[e]at q;exact .inr (Ae q).symm
   have kk:Ext z U1:=m1.E;have kb:∀{g:Nat}{L:LV},Blk z g 3 L->T.heap.size<=g->v.ownBlock≠some g->Blk U3 g 3 L:=fun h q hn=>((h.E kk O).E m.E (fun h=>hn (hm h))).E B.E rE;have b8:a.take (k+1)=a.take k++[x]:=by rw[CT,p];rfl
   have b5:F.length=k:=by rw[D.1,DE];omega
   refine⟨(k+1,v4,F++[.slice (sm W.heap.size) S.length S.length]),⟨rfl,ag,⟨by omega,?_,?_,B.D,?_,?_,?_⟩⟩,by simp only;omega⟩
   ·exact(((K.Q X).Q kk).E m.E (fun y A=>by have:=R _ (hm A);omega)).E B.E rE
   ·exact(((a1.Q X (fun x h=>by cases h)).Q kk (fun x h=>by cases h)).Q m.E (fun y A h=>by have:=R _ (hm A);omega)).Q B.E (fun x h _=>h)
   ·exact Bf m.own B.E (fun g q h=>by simp at h;exact(a4 g q).elim (fun e=>by have:=R _ e;omega) (fun e=>by omega))
   ·rw[b8,A9,A9,D.1];rfl
   ·intro j u y P A;rw[b8]at A;have d0:(a.take k).length=k:=by rw[<-D.1];exact b5
    by_cases e0:j<k
    ·rw[D4 U]at P A;obtain⟨g,rfl,hB,b6,q⟩:=D.2 j u y P A;have:=q.lt;exact⟨g,rfl,hB,fun e=>(a4 g e.symm).elim (fun h=>b6 h.symm) (fun h=>by omega),kb (q.E X O) hB (fun h=>b6 h.symm)⟩
    ·rw[EJ U]at P A;have hj0:j-k=0:=by have:=(Ah.1 P).1;simp at this;omega
     rw[b5,hj0]at P;rw[d0,hj0]at A;simp only[TS,Jn]at P A;subst P A;exact⟨_,rfl,by omega,fun e=>(a4 _ e.symm).elim (fun h=>by have:=R _ h;omega) (fun h=>by omega),kb bU U (fun h=>by have:=R _ h;omega)⟩
 ·obtain rfl:k=a.length:=by omega
  rw[Co]at D;obtain⟨va,vc,rfl,a5⟩:=Kv oW;have e2:F.length=a.length:=D.1;obtain⟨u0,d3⟩:=gl (l:=F) (k:=0) U;obtain⟨lb,lo,rfl,_⟩:=a5 0 _ d3;have hlb:T.heap.size<=lb:=(Ao oW rfl).1
  have d2:∀z,Keep [Q.heap.size] W z->∀(k:Nat)(x:Int),a[k]?=some x->∃g rc,CC z lb (lo+k) (.slice (sm g) S.length rc)/\∀i,i<S.length->CC z g (0+i) (iV (D0 S x i)):=by
   intro z X k x p;obtain⟨uk,b7⟩:=gl (l:=F) (k:=k) (by have:=(Ah.1 p).1;omega);obtain⟨_,_,e1,ck⟩:=a5 k _ b7;cases e1;obtain⟨g,rfl,q,_,r⟩:=D.2 k uk x b7 p;exact⟨g,_,X.cell ck rE,fun i hi=>(r.E X rE).cell (by simp[IQ,hi])⟩
  clear D oW a5 R;refine go ?_;refine Ab (rd 0 6 (rd 7 3 (.alt 6 (rd 10 4 (.alt 14 .done .stop)) .stop))) AX rD (fun wd s ed=>⟨fun V=>CC V Q.heap.size (0+2) (iV (M.length:Int))/\CC V w.heap.size (0+1) (.slice G I.length N),?_,?_⟩)
  ·exact⟨(bW.E s O).cell rfl,(a9.E s O).cell rfl⟩
  have s2:∀V:World,CC V Q.heap.size (0+2) (iV (M.length:Int))/\CC V w.heap.size (0+1) (.slice G I.length N)->CC V Q.heap.size (0+2) (iV (M.length:Int)):=fun V e=>e.1;have s1:∀V:World,CC V Q.heap.size (0+2) (iV (M.length:Int))/\CC V w.heap.size (0+1) (.slice G I.length N)->CC V w.heap.size (0+1) (.slice G I.length N):=fun V e=>e.2;refine gE ?_;refine AD (dB (dpF f) wd b o f (AO _) U (hf.E (K.Q s) (fun _ _=>by simp))) rfl ?_;rintro _ W1⟨rfl,d⟩;have a8:=bW.E (s.Q d) O;have b2:=a9.E (s.Q d) O;refine wNl (⟨a8.cell rfl,b2.cell rfl⟩) ?_;have hmul:((Cm f:Int))*((I.length:Int))=((Cm f*I.length:Nat):Int):=(RG _ _).symm;refine go ?_;have hB:(M.length:Int)+(Cm f:Int)*(I.length:Int)=((M.length+Cm f*I.length:Nat):Int):=by omega
  refine D_E rfl ?_;refine AW (v:=iV ((M.length:Int)+(Cm f:Int)*(I.length:Int))) rfl rfl rfl a8 O (fun W2 E=>?_);have Z:Blk W2 Q.heap.size 185 [.slice H S.length C,.slice (sn lb lo) a.length vc,iV (M.length:Int),iV ((M.length:Int)+(Cm f:Int)*(I.length:Int)),iV 0]:=E.D;rw[hB]at Z;have a2:=b2.E E.E rE;have d6:Keep [Q.heap.size] W W2:=((s.Q d).any).Q E.E (fun x h _=>h);refine wNl (⟨Z.cell rfl,a2.cell rfl⟩) ?_;refine go ?_;clear s1 s2;refine Ab (rd 0 11 (.alt 11 .done .stop)) AX rD (fun wd s ed=>⟨fun V=>CC V Q.heap.size (0+3) (iV ((M.length+Cm f*I.length:Nat):Int))/\CC V w.heap.size (0+1) (.slice G I.length N),?_,?_⟩)
  ·exact⟨(Z.E s O).cell rfl,(a2.E s O).cell rfl⟩
  have s2:∀V:World,CC V Q.heap.size (0+3) (iV ((M.length+Cm f*I.length:Nat):Int))/\CC V w.heap.size (0+1) (.slice G I.length N)->CC V Q.heap.size (0+3) (iV ((M.length+Cm f*I.length:Nat):Int)):=fun V e=>e.1;have s1:∀V:World,CC V Q.heap.size (0+3) (iV ((M.length+Cm f*I.length:Nat):Int))/\CC V w.heap.size (0+1) (.slice G I.length N)->CC V w.heap.size (0+1) (.slice G I.length N):=fun V e=>e.2;refine gE ?_;have b3:=Z.E s O;have c7:((M.length+Cm f*I.length:Nat):Int)+(I.length:Int)=((M.length+Cm f*I.length+I.length:Nat):Int):=(BB _ _).symm;refine AW (v:=iV (((M.length+Cm f*I.length:Nat):Int)+(I.length:Int))) rfl rfl rfl b3 O (fun W3 B=>?_);have b4:Blk W3 Q.heap.size 185 [.slice H S.length C,.slice (sn lb lo) a.length vc,iV (M.length:Int),iV ((M.length+Cm f*I.length:Nat):Int),iV (((M.length+Cm f*I.length:Nat):Int)+(I.length:Int))]:=B.D;rw[c7]at b4;have c6:=(a2.E s O).E B.E rE;have c0:Keep [Q.heap.size] W W3:=(d6.Q s (fun x h=>by cases h)).Q B.E (fun x h _=>h);refine wNl (⟨b4.cell rfl,c6.cell rfl⟩) ?_;refine go ?_;have e4:Ext w W3:=K.E c0 rE;refine AC rfl ⟨_,rfl,e4,?_⟩;rw[<-a0];exact⟨⟨b9,h1,by omega,by omega⟩,H,C,lb,lo,vc,b4,hS.ext e4,d2 _ c0⟩
def ED(n:Nat)(p:Nat->Bool):LV:=(List.range n).map fun t=>.bool (p t)
def Hh(n:Nat)(p:Nat->Bool):(ED n p).length=n:=by simp[ED]
def K0{n:Nat}{p:Nat->Bool}{t:Nat}(h:t<n):(ED n p)[t]?=some (.bool (p t)):=by simp[ED,h]
def gT(n:Nat)(p:Nat->Bool):ED (n+1) p=ED n p++[.bool (p n)]:=by simp[ED,RH]
def L4{n:Nat}{p q:Nat->Bool}(h:∀t,t<n->p t=q t):ED n p=ED n q:=by
 unfold ED;refine UQ fun t P=>?_;rw[h t (HZ.1 P)]
def WP{n t:Nat}{p q:Nat->Bool}(h:t<n)(a:∀x,x<n->q x=if x=t then q t else p x):(ED n p).set t (.bool (q t))=ED n q:=by
 refine H1 fun x=>?_;by_cases V:x<n
 ·rw[K0 V,a x V];by_cases B:x=t
  ·subst B;rw[TT (by rw[Hh];exact V),AJ rfl]
  ·rw[QD (fun e=>B e.symm),K0 V,AG B]
 ·rw[EF (by rw[Jq,Hh];omega),EF (by rw[Hh];omega)]
def Tru(w:World)(v:Value)(n:Nat)(p:Nat->Bool):Prop:=∃g,v=.slice (sm g) n n/\Blk w g 4 (ED n p)
def Tru.ext{w w':World}{v:Value}{n:Nat}{p:Nat->Bool}(h:Tru w v n p)(k:Ext w w'):Tru w' v n p:=by
 obtain⟨g,e,h⟩:=h;exact⟨g,e,h.E k O⟩
def Tru.cell{w:World}{v:Value}{n:Nat}{p:Nat->Bool}(h:Tru w v n p):∃g,v=.slice (sm g) n n/\g<w.heap.size/\∀k,k<n->CC w g (0+k) (.bool (p k)):=by
 obtain⟨g,e,h⟩:=h;exact⟨g,e,h.lt,fun k P=>h.cell (by rw[Bs];exact K0 P)⟩
def Tru.congr{w:World}{v:Value}{n:Nat}{p q:Nat->Bool}(h:Tru w v n p)(e:∀t,t<n->p t=q t):Tru w v n q:=by
 obtain⟨g,d,h⟩:=h;exact⟨g,d,by rw[<-L4 e];exact h⟩
def Hf(w:World)(t:Nat)(S:List Sgn)(xs:List Int)(m p B:Nat)(F:FuncId)[hF:AI Zp F](v1 v2:LV)(q:Nat->Bool)(X:List Nat)(a:Nat->World->Prop)(h:AxG w t S xs m p B)(T:∀x∈X,x<w.heap.size)(l:a 0 w)
  (d:∀{k:Nat}{W Z:World}{Y:List Nat},a k W->Keep Y W Z->(∀y∈Y,w.heap.size<=y)->a k Z)
  (o:∀(k:Nat)(W:World),k<B+p->Keep X w W->a k W->Fn Zp F (v1++[iV (k:Int)]++v2) W fun u Z=>u=.bool (q k)/\Keep X W Z/\a (k+1) Z):
  Fn Zp 238 [pt t,.func (.func F) v1.toArray v2.toArray] w fun u w'=>Tru w' u (B+p) q/\Keep X w w'/\a (B+p) w'/\∀g,u.ownBlock=some g->w.heap.size<=g:=by
 obtain⟨⟨r,C,L,M⟩,sa,sc,R,lo,N,s,_,_⟩:=h;obtain⟨n,H⟩:∃n,n=B+p:=⟨_,rfl⟩;rw[<-H]at s o M⊢;refine AM func238 rfl ntmps238 (go ?_);refine Mg (n:=n) rfl rfl rfl rfl rfl U U (fun w1 D=>go ?_);refine Aj (α:=Nat) (fun k=>[(1,.func (.func F) v1.toArray v2.toArray),(5,.slice (sm w.heap.size) n n),(13,iV (n:Int)),(14,iV (k:Int))]) (fun k W=>k<=n/\Keep X w W/\a k W/\Blk W w.heap.size 4 (ED k q++List.replicate (n-k) (.bool false))) (fun k=>n-k) 0 ag ⟨by omega,D.E.any,d l D.E O,D.D⟩ ?_;rintro k W Q⟨P,K,E,b⟩;refine go ?_;by_cases z:k<n
 ·refine go ?_;refine Bg (v1:=v1) (v2:=v2) (vs:=[iV (k:Int)]) rfl (o k W z K E) rfl ?_;rintro _ w2⟨rfl,f,G⟩;have j:=b.E f (fun h=>by have:=T _ h;omega);refine go ?_;refine AW (v:=.bool (q k)) rfl rfl rfl j rt (fun w3 i=>?_);refine go ?_;have c:=i.D;rw[Bs,Re _ _ _ _ _ (Hh k q) z,<-gT]at c;exact⟨k+1,⟨rfl,ag,⟨by omega,(K.Q f (fun x V _=>V)).Q i.E (fun x V h=>by simp at V;omega),d G i.E (fun y I=>by simp at I;omega),c⟩⟩,by omega⟩
 ·obtain rfl:k=n:=by omega
  rw[Ot,UR,Ch]at b;refine gR ?_;exact⟨⟨_,rfl,b⟩,K,E,fun g A=>by have e:=Ae A;simp only at e;omega⟩
def TrusG(w:World)(v:Value)(n:Nat)(A:List (Nat->Bool)):Prop:=∃g G,v=.slice (sm g) A.length A.length/\Blk w g 112 G/\∀(k:Nat)(p:Nat->Bool),A[k]?=some p->∃u,G[k]?=some u/\Tru w u n p
def TrusG.ext{w w':World}{v:Value}{n:Nat}{A:List (Nat->Bool)}(h:TrusG w v n A)(k:Ext w w'):TrusG w' v n A:=by
 obtain⟨g,G,e,Z,W⟩:=h;refine⟨g,G,e,Z.E k O,fun j p C=>?_⟩;obtain⟨u,f,a⟩:=W j p C;exact⟨u,f,a.ext k⟩
def TrusG.at{w:World}{v:Value}{n:Nat}{A:List (Nat->Bool)}(h:TrusG w v n A):∃g,v=.slice (sm g) A.length A.length/\∀(k:Nat)(p:Nat->Bool),A[k]?=some p->∃u,CC w g (0+k) (.slice (sm u) n n)/\∀i,i<n->CC w u (0+i) (.bool (p i)):=by
 obtain⟨g,G,e,Z,W⟩:=h;refine⟨g,e,fun k p P=>?_⟩;obtain⟨u,f,a⟩:=W k p P;obtain⟨b,rfl,_,T⟩:=a.cell;exact⟨b,Z.cell (by rw[Bs];exact f),T⟩
def XQ(w:World)(v:Value)(n:Nat)(A:List (Nat->Bool))(i:Nat)(c:Bool)(F:i<n)(H:n<=1000000)(x:A.length<=1000000)(h:TrusG w v n A):Fn Zp 249 [v,iV (i:Int),.bool c] w fun u w'=>u=.bool (A.all fun p=>p i==c)/\w'=w:=by
 obtain⟨g,rfl,T⟩:=h.at;refine AM func249 rfl ntmps249 (go ?_);refine Aj (α:=Nat) (fun k=>[(1,iV (i:Int)),(2,.bool c),(9,.slice (sm g) A.length A.length),(10,iV (A.length:Int)),(11,iV (k:Int))]) (fun k W=>k<=A.length/\W=w/\∀p∈A.take k,(p i==c)=true) (fun k=>A.length-k) 0 ag ⟨by omega,rfl,by simp⟩ ?_;rintro k W Q⟨P,rfl,b⟩;refine go ?_;by_cases z:k<A.length
 ·obtain⟨p,C⟩:=gl z;obtain⟨u,I,D⟩:=T k p C;have a:=D i F;refine go ?_;cases hv:p i==c with
  |true=>
   have e:(p i !=c)=false:=by rw[bne,hv];rfl
   rw[e];refine go ?_;refine⟨k+1,⟨rfl,ag,⟨by omega,rfl,fun q V=>?_⟩⟩,by omega⟩;rw[CT,C]at V;rcases DM.1 V with V|V
   ·exact b q V
   ·simp at V;subst V;exact hv
  |false=>
   have e:(p i !=c)=true:=by rw[bne,hv];rfl
   rw[e];refine go ?_;refine AC rfl ⟨congrArg Value.bool (Eq.symm ?_),rfl⟩;rw[<-EK,Bu];exact fun h=>by rw[h p (BA C)]at hv;cases hv
 ·obtain rfl:k=A.length:=by omega
  rw[Co]at b;refine gR ?_;exact⟨congrArg Value.bool (Bu.2 b).symm,rfl⟩
def dY(n:Nat)(b:Bool):ED n (fun _=>b)=List.replicate n (.bool b):=by
 unfold ED;rw[List.map_const',List.length_range]
section
variable (w:World)(t:Nat)(S:List Sgn)(xs:List Int)(m p B:Nat)(vl vr:Value)(P Q:Nat->Prop)
set_option maxHeartbeats 1000000 in
def fI(h:AxG w t S xs m p B)(I:Per B p P)(L:Per B p Q)(N:Tru w vl (B+p) fun t=>tv (P t))(hr:Tru w vr (B+p) fun t=>tv (Q t)):
  Fn Zp 257 [pt t,vl,vr] w fun u w'=>Tru w' u (B+p) (fun t=>tv (EN P Q t))/\Ext w w'/\∀g,u.ownBlock=some g->w.heap.size<=g:=by
 obtain⟨⟨b3,hp,b4,a7⟩,sa,sc,lb,lo,lc,Z,_,_⟩:=id h;obtain⟨a3,rfl,ll,D⟩:=N.cell;obtain⟨a4,rfl,lr,G⟩:=hr.cell;clear N hr;obtain⟨n,H⟩:∃n,n=B+p:=⟨_,rfl⟩;rw[<-H]at Z a7 D G⊢;refine AM func257 rfl ntmps257 (go ?_);refine Mg (n:=n) rfl rfl rfl rfl rfl U U (fun w1 n1=>?_);have e7:=n1.E
 have a:Blk w1 w.heap.size 4 (ED n (stU P Q n 0)):=by
  have:=n1.D
  rwa [<-dY,L4 fun t ht=>(Wj P Q ht).symm]at this
 obtain⟨j,a6⟩:∃j,j=w.heap.size:=⟨_,rfl⟩;rw[<-a6]at a⊢;refine go ?_;refine Aj (α:=Nat) (fun i=>[(0,pt t),(1,.slice (sm a3) n n),(2,.slice (sm a4) n n),(7,.slice (sm j) n n),(19,iV (2*(n:Int))),(20,iV (i:Int))]) (fun i W=>i<=2*n/\Ext w W/\Blk W j 4 (ED n (stU P Q n i))) (fun i=>2*n-i) 0 ag ⟨by omega,e7,a⟩ ?_;rintro i W fr⟨hi,K,C⟩;refine go ?_;by_cases z:i<2*n
 ·obtain⟨x,a1⟩:∃x,x=n-1-i%n:=⟨_,rfl⟩;have b2:=Kx i (show 0<n by omega);have l:x<n:=by omega
  have b0:(n:Int)-1-(i:Int)%(n:Int)=(x:Int):=by
   rw[<-Nn];omega
  have a8:Dz n B (x+1)<n:=by unfold Dz;split<;>omega
  have a9:∀y,y<n->stU P Q n (i+1) y=if y=x then stU P Q n (i+1) x else stU P Q n i y:=fun y hy=>by
   by_cases q:y=x
   ·subst q;rw[AJ rfl]
   ·rw[Rg hp H I L z y hy,AG (by rw[<-a1];exact q),AG q]
  have f:=Rg hp H I L z x l;rw[AJ a1]at f
  have R:∀{V s:World}{T:TypeId}{b:Bool},b=stU P Q n (i+1) x->T=4->Put V s j T ((ED n (stU P Q n i)).set (0+x) (.bool b))->Blk s j 4 (ED n (stU P Q n (i+1))):=fun e eT p=>by
   subst e;subst eT;have:=p.D
   rwa [Bs,WP l a9]at this
  refine go ?_;refine Ab (rd 0 13 .done) AX rD (fun X r ed=>⟨Ext X,?_,?_⟩)
  ·exact sY
  have a5:=Z.E (K.Q r) O;have s1:∀V,Ext X V->CC V t (0+4) (iV (n:Int)):=fun V e=>(a5.E e O).cell rfl;have k:=C.E r O;have M:=K.Q r;have F:=M.cell (G x l) O;have c:=M.cell (D x l) O;have co:=k.cell (o:=0+Dz n B (x+1)) (by rw[Bs];exact K0 a8);cases hq:tv (Q x)with
  |true=>
   rw[hq]at F f;refine go ?_;refine AW (v:=.bool true) rfl rfl rfl k rt (fun A E=>?_);exact tF
  |false=>
   rw[hq]at F f;cases hpv:tv (P x)with
   |false=>
    rw[hpv]at c f;refine go ?_;refine AW (v:=.bool false) rfl rfl rfl k rt (fun A E=>?_);exact tF
   |true=>
    rw[hpv]at c f;refine go ?_;rw[b0];have a0:=OC X t S xs m p B (x+1) (h.ext M) U;rw[<-H,BB]at a0;refine AD a0 rfl ?_;rintro _ W1⟨rfl,d⟩;have b1:=d.cell co O;have a2:=k.E d O;refine go ?_;refine AW (v:=.bool (stU P Q n i (Dz n B (x+1)))) rfl rfl rfl a2 rt (fun A E=>?_);exact uO
 ·obtain rfl:i=2*n:=by omega
  refine go ?_;refine AC rfl ⟨⟨_,rfl,?_⟩,K,fun g hg=>by have e:=Ae hg;simp only at e;omega⟩;rw[L4 fun t _=>(Xt P Q (show 1<=n by omega)).symm];exact C
def ct(w:World)(x:Value):Fn Zp 313 [x] w fun u w'=>u=.bool true/\w'=w:=by
 refine AM func313 rfl ntmps313 ?_;exact sd
set_option maxHeartbeats 1000000 in
def an(h:AxG w t S xs m p B)(L:Per B p P)(Z:Per B p Q)(N:Tru w vl (B+p) fun t=>tv (P t))(hr:Tru w vr (B+p) fun t=>tv (Q t)):
  Fn Zp 259 [pt t,vl,vr] w fun u w'=>Tru w' u (B+p) (fun t=>tv (FK P Q t))/\Ext w w'/\∀g,u.ownBlock=some g->w.heap.size<=g:=by
 obtain⟨⟨b4,hp,b5,a7⟩,sa,sc,lb,lo,lc,hb,_,_⟩:=id h;obtain⟨a3,rfl,ll,F⟩:=N.cell;obtain⟨a4,rfl,lr,I⟩:=hr.cell;clear N hr;refine AM func259 rfl ntmps259 ?_;refine gC (Hf w t S xs m p B 313 [] [] (fun _=>true) [] (fun _ _=>True) h O trivial (fun _ _ _=>trivial) (fun k W _ _ _=>(ct W _).mono fun u w' hu=>⟨hu.1,hu.2▸Ext.refl _,trivial⟩)) ?_;rintro _ w1⟨⟨j,rfl,a⟩,e7,_,a6⟩;have b2:=a6 j rfl;obtain⟨n,H⟩:∃n,n=B+p:=⟨_,rfl⟩;rw[<-H]at hb a7 F I a⊢;rw[L4 fun t ht=>(kz P Q ht).symm]at a;refine go ?_;refine Aj (α:=Nat) (fun i=>[(0,pt t),(1,.slice (sm a3) n n),(2,.slice (sm a4) n n),(7,.slice (sm j) n n),(16,iV (2*(n:Int))),(17,iV (i:Int))]) (fun i W=>i<=2*n/\Ext w W/\Blk W j 4 (ED n (stR P Q n i))) (fun i=>2*n-i) 0 ag ⟨by omega,e7,a⟩ ?_;rintro i W fr⟨hi,K,D⟩;refine go ?_;by_cases z:i<2*n
 ·obtain⟨x,a1⟩:∃x,x=n-1-i%n:=⟨_,rfl⟩;have b3:=Kx i (show 0<n by omega);have q:x<n:=by omega
  have b0:(n:Int)-1-(i:Int)%(n:Int)=(x:Int):=by
   rw[<-Nn];omega
  have a8:Dz n B (x+1)<n:=by unfold Dz;split<;>omega
  have a9:∀y,y<n->stR P Q n (i+1) y=if y=x then stR P Q n (i+1) x else stR P Q n i y:=fun y hy=>by
   by_cases r:y=x
   ·subst r;rw[AJ rfl]
   ·rw[Wi hp H L Z z y hy,AG (by rw[<-a1];exact r),AG r]
  have f:=Wi hp H L Z z x q;rw[AJ a1]at f
  have R:∀{V A:World}{T:TypeId}{b:Bool},b=stR P Q n (i+1) x->T=4->Put V A j T ((ED n (stR P Q n i)).set (0+x) (.bool b))->Blk A j 4 (ED n (stR P Q n (i+1))):=fun e eT p=>by
   subst e;subst eT;have:=p.D
   rwa [Bs,WP q a9]at this
  refine go ?_;refine Ab (rd 0 13 .done) AX rD (fun X s ed=>⟨Ext X,?_,?_⟩)
  ·exact sY
  have a5:=hb.E (K.Q s) O;have s1:∀V,Ext X V->CC V t (0+4) (iV (n:Int)):=fun V e=>(a5.E e O).cell rfl;have l:=D.E s O;have M:=K.Q s;have G:=M.cell (I x q) O;have c:=M.cell (F x q) O;have co:=l.cell (o:=0+Dz n B (x+1)) (by rw[Bs];exact K0 a8);cases hq:tv (Q x)with
  |false=>
   rw[hq]at G f;refine go ?_;refine AW (v:=.bool false) rfl rfl rfl l rt (fun C E=>?_);exact tF
  |true=>
   rw[hq]at G f;cases hpv:tv (P x)with
   |true=>
    rw[hpv]at c f;refine go ?_;refine AW (v:=.bool true) rfl rfl rfl l rt (fun C E=>?_);exact tF
   |false=>
    rw[hpv]at c f;refine go ?_;rw[b0];have a0:=OC X t S xs m p B (x+1) (h.ext M) U;rw[<-H,BB]at a0;refine AD a0 rfl ?_;rintro _ W1⟨rfl,d⟩;have b1:=d.cell co O;have a2:=l.E d O;refine go ?_;refine AW (v:=.bool (stR P Q n i (Dz n B (x+1)))) rfl rfl rfl a2 rt (fun C E=>?_);exact uO
 ·obtain rfl:i=2*n:=by omega
  refine go ?_;refine AC rfl ⟨⟨_,rfl,?_⟩,K,fun g hg=>by have e:=Ae hg;simp only at e;omega⟩;rw[L4 fun t _=>(oC P Q (show 1<=n by omega)).symm];exact D
end
noncomputable def befB (v:Int) (F:Nat->Prop):Nat->Bool
 |0=>decide (v=1)
 |k+1=>tv (F k)
def gi(w:World)(c b F n k I gl:Nat)(q p a:Bool)(e:k<n)(Z:Blk w c 112 [.slice (sm I) n n])(W:Blk w b 112 [.slice (sm gl) n n])(R:Blk w F 4 [.bool a])(d:CC w I (0+k) (.bool q))(D:CC w gl (0+k) (.bool p)):
  Fn Zp 314 [iV (k:Int),pt c,pt b,pt F] w fun u w'=>u=.bool (q||p&&a)/\Keep [F] w w'/\Blk w' F 4 [.bool (q||p&&a)]:=by
 refine AM func314 rfl ntmps314 (go ?_);cases q with
 |true=>
  refine go ?_;refine AW (v:=.bool true) rfl rfl rfl R O (fun H E=>?_);have h:Blk H F 4 [.bool true]:=E.D;exact tq
 |false=>
  refine go ?_;cases p with
  |false=>
   refine go ?_;refine AW (v:=.bool false) rfl rfl rfl R O (fun H E=>?_);have h:Blk H F 4 [.bool false]:=E.D;exact tq
  |true=>
   refine go ?_;refine AW (v:=.bool a) rfl rfl rfl R O (fun H E=>?_);have h:Blk H F 4 [.bool a]:=E.D;exact tq
def lF(w:World)(c b F n k I gl:Nat)(q p a:Bool)(e:k<n)(Z:Blk w c 112 [.slice (sm I) n n])(W:Blk w b 112 [.slice (sm gl) n n])(R:Blk w F 4 [.bool a])(d:CC w I (0+k) (.bool q))(D:CC w gl (0+k) (.bool p)):
  Fn Zp 315 [iV (k:Int),pt c,pt b,pt F] w fun u w'=>u=.bool (q&&(p||a))/\Keep [F] w w'/\Blk w' F 4 [.bool (q&&(p||a))]:=by
 refine AM func315 rfl ntmps315 (go ?_);cases q with
 |false=>
  refine go ?_;refine AW (v:=.bool false) rfl rfl rfl R O (fun H E=>?_);have h:Blk H F 4 [.bool false]:=E.D;exact tq
 |true=>
  refine go ?_;cases p with
  |true=>
   refine go ?_;refine AW (v:=.bool true) rfl rfl rfl R O (fun H E=>?_);have h:Blk H F 4 [.bool true]:=E.D;exact tq
  |false=>
   refine go ?_;refine AW (v:=.bool a) rfl rfl rfl R O (fun H E=>?_);have h:Blk H F 4 [.bool a]:=E.D;exact tq
set_option maxHeartbeats 1000000 in
def fH(w:World)(t:Nat)(S:List Sgn)(xs:List Int)(m p B:Nat)(vl vr:Value)(P Q:Nat->Prop)(v:Int)(h:AxG w t S xs m p B)(N:Tru w vl (B+p) fun t=>tv (P t))(n:Tru w vr (B+p) fun t=>tv (Q t)):
  Fn Zp 270 [pt t,vl,vr,.bool (decide (v=1))] w fun u w'=>Tru w' u (B+p) (fun t=>tv (Cs v P Q t))/\Ext w w'/\∀g,u.ownBlock=some g->w.heap.size<=g:=by
 obtain⟨X,rfl,H,r⟩:=N.cell;obtain⟨V,rfl,T,s⟩:=n.cell;clear N n;refine AM func270 rfl ntmps270 (go ?_);refine Ac (L:=[.slice (sm X) (B+p) (B+p)]) rfl (fun o D=>go ?_);refine Ac (L:=[.slice (sm V) (B+p) (B+p)]) rfl (fun G R=>go ?_);refine Ac (L:=[.bool (decide (v=1))]) rfl (fun q f=>?_);have M:=D.size;have F:=R.size;have z3:=f.size;have d:Ext w q:=(D.E.Q R.E).Q f.E;have Z:=(D.D.E R.E O).E f.E O;have x:=R.D.E f.E O;have l:=f.D;obtain⟨c,A⟩:∃c,c=G.heap.size:=⟨_,rfl⟩;rw[<-A]at l⊢;refine gC (Hf q t S xs m p B 314 [] [pt o.heap.size,pt w.heap.size,pt c] (fun t=>tv (Cs v P Q t)) [c] (fun k W=>Blk W c 4 [.bool (befB v (Cs v P Q) k)]) (h.ext d) rE l (fun j k C=>j.E k (fun h=>by have:=C _ h;omega)) (fun k W i K E=>?_)) ?_
 ·have:=gi W o.heap.size w.heap.size c (B+p) k V X (tv (Q k)) (tv (P k)) _ i (x.E K rE) (Z.E K rE) E (K.cell (d.cell (s k i) O) rE) (K.cell (d.cell (r k i) O) rE)
  have e:(tv (Q k)||tv (P k)&&befB v (Cs v P Q) k:Bool)=tv (Cs v P Q k):=by
   cases k with
   |zero=>exact GB (by simp[Cs,tv_iff,befB])
   |succ k=>exact GB (by simp[Cs,tv_iff,befB])
  rw[e]at this;exact this
 exact uU
set_option maxHeartbeats 1000000 in
def ap(w:World)(t:Nat)(S:List Sgn)(xs:List Int)(m p B:Nat)(vl vr:Value)(P Q:Nat->Prop)(v:Int)(h:AxG w t S xs m p B)(N:Tru w vl (B+p) fun t=>tv (P t))(n:Tru w vr (B+p) fun t=>tv (Q t)):
  Fn Zp 272 [pt t,vl,vr,.bool (decide (v=1))] w fun u w'=>Tru w' u (B+p) (fun t=>tv (EP v P Q t))/\Ext w w'/\∀g,u.ownBlock=some g->w.heap.size<=g:=by
 obtain⟨X,rfl,H,r⟩:=N.cell;obtain⟨V,rfl,T,s⟩:=n.cell;clear N n;refine AM func272 rfl ntmps272 (go ?_);refine Ac (L:=[.slice (sm X) (B+p) (B+p)]) rfl (fun o D=>go ?_);refine Ac (L:=[.slice (sm V) (B+p) (B+p)]) rfl (fun G R=>go ?_);refine Ac (L:=[.bool (decide (v=1))]) rfl (fun q f=>?_);have M:=D.size;have F:=R.size;have z3:=f.size;have d:Ext w q:=(D.E.Q R.E).Q f.E;have Z:=(D.D.E R.E O).E f.E O;have x:=R.D.E f.E O;have l:=f.D;obtain⟨c,A⟩:∃c,c=G.heap.size:=⟨_,rfl⟩;rw[<-A]at l⊢;refine gC (Hf q t S xs m p B 315 [] [pt o.heap.size,pt w.heap.size,pt c] (fun t=>tv (EP v P Q t)) [c] (fun k W=>Blk W c 4 [.bool (befB v (EP v P Q) k)]) (h.ext d) rE l (fun j k C=>j.E k (fun h=>by have:=C _ h;omega)) (fun k W i K E=>?_)) ?_
 ·have:=lF W o.heap.size w.heap.size c (B+p) k V X (tv (Q k)) (tv (P k)) _ i (x.E K rE) (Z.E K rE) E (K.cell (d.cell (s k i) O) rE) (K.cell (d.cell (r k i) O) rE)
  have e:(tv (Q k)&&(tv (P k)||befB v (EP v P Q) k):Bool)=tv (EP v P Q k):=by
   cases k with
   |zero=>exact GB (by simp[EP,tv_iff,befB])
   |succ k=>exact GB (by simp[EP,tv_iff,befB])
  rw[e]at this;exact this
 exact uU
structure LwG(w:World)(c1 c3 t:Nat)(S:List Sgn)(xs:List Int)(m p B:Nat):Prop where
 b1:Blk w c1 111 [pt t]
 b3:Blk w c3 276 [.func (.func 237) #[] #[pt c1]]
 ax:AxG w t S xs m p B
def LwG.ext{w w':World}{c1 c3 t:Nat}{S:List Sgn}{xs:List Int}{m p B:Nat}(h:LwG w c1 c3 t S xs m p B)(k:Ext w w'):LwG w' c1 c3 t S xs m p B:=⟨h.b1.E k O,h.b3.E k O,h.ax.ext k⟩
def wdG(S:List Sgn)(xs:List Int)(m p:Nat):Wd:=fun t l=>vlS S (xs.getD (HV m p t) 0) l
section
variable (w:World)(c1 c3 t:Nat)(S:List Sgn)(xs:List Int)(m p B:Nat)(pv vv:Value)
def ao(c:Nat)(b:Bool)(x:Value)(h:Blk w c 4 [.bool b]):Fn Zp 239 [x,pt c] w fun u w'=>u=.bool b/\w'=w:=by
 refine AM func239 rfl ntmps239 ?_;exact sd
def Tz(b:Bool)(h:LwG w c1 c3 t S xs m p B):Fn Zp 237 [.bool b,pt c1] w fun u w'=>Tru w' u (B+p) (fun _=>b)/\Ext w w':=by
 refine AM func237 rfl ntmps237 (go ?_);refine Ac (L:=[.bool b]) rfl (fun Q D=>?_);have Z:=h.ext D.E;have q:=Z.b1;refine gC (Hf Q t S xs m p B 239 [] [pt w.heap.size] (fun _=>b) [] (fun _ _=>True) Z.ax O trivial (fun _ _ _=>trivial) (fun k W _ K _=>(ao W _ b _ (D.D.E K O)).mono fun u w' o=>⟨o.1,o.2▸Ext.refl _,trivial⟩)) ?_;rintro u c⟨o,a,_⟩;refine gR ?_;exact⟨o,D.E.Q a⟩
def eu(h:LwG w c1 c3 t S xs m p B):Fn Zp 240 [pv,vv,pt c3] w fun u w'=>Tru w' u (B+p) (fun _=>true)/\Ext w w':=by
 have b:=h.b3;refine AM func240 rfl ntmps240 (go ?_);refine Bg (v1:=[]) (v2:=[pt c1]) (vs:=[.bool true]) rfl (Tz w c1 c3 t S xs m p B true h) rfl ?_;rintro u L⟨o,a⟩;refine gR ?_;exact⟨o,a⟩
def cw(h:LwG w c1 c3 t S xs m p B):Fn Zp 241 [pv,vv,pt c3] w fun u w'=>Tru w' u (B+p) (fun _=>false)/\Ext w w':=by
 have b:=h.b3;refine AM func241 rfl ntmps241 (go ?_);refine Bg (v1:=[]) (v2:=[pt c1]) (vs:=[.bool false]) rfl (Tz w c1 c3 t S xs m p B false h) rfl ?_;rintro u L⟨o,a⟩;refine gR ?_;exact⟨o,a⟩
def jG(n k c:Nat)(A:List (Nat->Bool))(P:Nat->Bool)(a:k<n)(H:n<=1000000)(b:Blk w c 243 [vv])(s:TrusG w vv n A)(V:A[0]?=some P):Fn Zp 246 [iV (k:Int),pt c] w fun u w'=>u=.bool (!P k)/\w'=w:=by
 obtain⟨g,rfl,T⟩:=s.at;obtain⟨u,c1,D⟩:=T 0 P V;have c3:=D k a;have v:=(Ah.1 V).1;refine AM func246 rfl ntmps246 ?_;exact sd
def jE(A:List (Nat->Bool))(P:Nat->Bool)(V:A[0]?=some P)(x:A.length<=1000000)(h:LwG w c1 c3 t S xs m p B)(s:TrusG w vv (B+p) A):Fn Zp 245 [pv,vv,pt c1] w fun u w'=>Tru w' u (B+p) (fun t=> !P t)/\Ext w w':=by
 obtain⟨r,C,f,M⟩:=h.ax.len;have Q:=s.at;obtain⟨g,rfl,_⟩:=Q;refine AM func245 rfl ntmps245 (go ?_);refine Ac (L:=[.slice (sm g) A.length A.length]) rfl (fun d D=>?_);have Z:=h.ext D.E;have q:=Z.b1;refine gC (Hf d t S xs m p B 246 [] [pt w.heap.size] (fun t=> !P t) [] (fun _ _=>True) Z.ax O trivial (fun _ _ _=>trivial) (fun k W a K _=>?_)) ?_
 ·have I:=Z.ext K;have e:=I.b1;have b:=(s.ext D.E).ext K;have N:=D.D.E K O;exact(jG W _ (B+p) k _ A P a M N b V).mono fun u w' o=>⟨o.1,o.2▸Ext.refl _,trivial⟩
 exact tg
def iy(n k c:Nat)(A:List (Nat->Bool))(a:k<n)(H:n<=1000000)(x:A.length<=1000000)(b:Blk w c 243 [vv])(s:TrusG w vv n A):Fn Zp 248 [iV (k:Int),pt c] w fun u w'=>u=.bool (A.all fun P=>P k==true)/\w'=w:=by
 refine AM func248 rfl ntmps248 ?_;refine gC (XQ w vv n A k true a H x s) ?_;rintro _ _⟨rfl,rfl⟩;exact sd
def mQ(n k c:Nat)(A:List (Nat->Bool))(a:k<n)(H:n<=1000000)(x:A.length<=1000000)(b:Blk w c 243 [vv])(s:TrusG w vv n A):Fn Zp 251 [iV (k:Int),pt c] w fun u w'=>u=.bool (!A.all fun P=>P k==false)/\w'=w:=by
 refine AM func251 rfl ntmps251 ?_;refine gC (XQ w vv n A k false a H x s) ?_;rintro _ _⟨rfl,rfl⟩;exact sd
def jC(A:List (Nat->Bool))(x:A.length<=1000000)(h:LwG w c1 c3 t S xs m p B)(s:TrusG w vv (B+p) A):Fn Zp 247 [pv,vv,pt c1] w fun u w'=>Tru w' u (B+p) (fun t=>A.all fun P=>P t==true)/\Ext w w':=by
 obtain⟨r,C,f,M⟩:=h.ax.len;have Q:=s.at;obtain⟨g,rfl,_⟩:=Q;refine AM func247 rfl ntmps247 (go ?_);refine Ac (L:=[.slice (sm g) A.length A.length]) rfl (fun d D=>?_);have Z:=h.ext D.E;have q:=Z.b1;refine gC (Hf d t S xs m p B 248 [] [pt w.heap.size] (fun t=>A.all fun P=>P t==true) [] (fun _ _=>True) Z.ax O trivial (fun _ _ _=>trivial) (fun k W a K _=>?_)) ?_
 ·have I:=Z.ext K;have e:=I.b1;have b:=(s.ext D.E).ext K;have N:=D.D.E K O;exact(iy W _ (B+p) k _ A a M x N b).mono fun u w' o=>⟨o.1,o.2▸Ext.refl _,trivial⟩
 exact tg
def mO(A:List (Nat->Bool))(x:A.length<=1000000)(h:LwG w c1 c3 t S xs m p B)(s:TrusG w vv (B+p) A):Fn Zp 250 [pv,vv,pt c1] w fun u w'=>Tru w' u (B+p) (fun t=> !A.all fun P=>P t==false)/\Ext w w':=by
 obtain⟨r,C,f,M⟩:=h.ax.len;have Q:=s.at;obtain⟨g,rfl,_⟩:=Q;refine AM func250 rfl ntmps250 (go ?_);refine Ac (L:=[.slice (sm g) A.length A.length]) rfl (fun d D=>?_);have Z:=h.ext D.E;have q:=Z.b1;refine gC (Hf d t S xs m p B 251 [] [pt w.heap.size] (fun t=> !A.all fun P=>P t==false) [] (fun _ _=>True) Z.ax O trivial (fun _ _ _=>trivial) (fun k W a K _=>?_)) ?_
 ·have I:=Z.ext K;have e:=I.b1;have b:=(s.ext D.E).ext K;have N:=D.D.E K O;exact(mQ W _ (B+p) k _ A a M x N b).mono fun u w' o=>⟨o.1,o.2▸Ext.refl _,trivial⟩
 exact tg
def fC(k c:Nat)(A:List (Nat->Bool))(P:Nat->Bool)(o:k<B+p)(h:LwG w c1 c3 t S xs m p B)(d:Blk w c 243 [vv])(s:TrusG w vv (B+p) A)(V:A[0]?=some P):Fn Zp 255 [iV (k:Int),pt c,pt c1] w fun u w'=>u=.bool (P (Dz (B+p) B (k+1)))/\Ext w w':=by
 obtain⟨r,C,x,M⟩:=h.ax.len;have K:Dz (B+p) B (k+1)<B+p:=by unfold Dz;split<;>omega
 obtain⟨g,rfl,T⟩:=s.at;obtain⟨u,f,b⟩:=T 0 P V;have N:=b _ K;have v:=(Ah.1 V).1;refine AM func255 rfl ntmps255 (go ?_);refine Ab (rd 0 6 (.alt 6 (rd 7 3 .done) .stop)) AX rD (fun X W n=>⟨Ext X,?_,?_⟩)
 ·exact sY
 have i:=d.E W O;have q:=(h.ext W).b1;have j:=W.cell f O;refine gE ?_;have R:=OC X t S xs m p B (k+1) (h.ax.ext W) U;rw[BB]at R;refine AD R rfl ?_;rintro _ L⟨rfl,a⟩;refine AB ⟨Ext L,fun _ e=>a.Q e,Ext.refl _,?_⟩;have l:=(W.Q a).cell N O;refine gR ?_;exact⟨rfl,W.Q a⟩
def em(A:List (Nat->Bool))(P:Nat->Bool)(V:A[0]?=some P)(x:A.length<=1000000)(h:LwG w c1 c3 t S xs m p B)(s:TrusG w vv (B+p) A):Fn Zp 254 [pv,vv,pt c1] w fun u w'=>Tru w' u (B+p) (fun t=>P (Dz (B+p) B (t+1)))/\Ext w w':=by
 obtain⟨r,C,f,M⟩:=h.ax.len;have Q:=s.at;obtain⟨g,rfl,_⟩:=Q;refine AM func254 rfl ntmps254 (go ?_);refine Ac (L:=[.slice (sm g) A.length A.length]) rfl (fun d D=>?_);have Z:=h.ext D.E;have q:=Z.b1;refine gC (Hf d t S xs m p B 255 [] [pt w.heap.size,pt c1] (fun t=>P (Dz (B+p) B (t+1))) [] (fun _ _=>True) Z.ax O trivial (fun _ _ _=>trivial) (fun k W a K _=>?_)) ?_
 ·have I:=Z.ext K;have e:=I.b1;have b:=(s.ext D.E).ext K;have N:=D.D.E K O;exact(fC W c1 c3 t S xs m p B _ k _ A P a I N b V).mono fun u w' o=>⟨o.1,o.2,trivial⟩
 exact tg
end
structure Dty where
 req:Rqm
 since:Int
 first:Fml
 now:Fml
def TE(t:Int)(r:Rqm):Dty:=⟨r,t,DV (Fc r.formula).1,DV (Fc r.formula).1⟩
def GS(s:Spc)(t:Int):List Dty:=s.reqs.map (TE t)
def Dty.to(y:Dty)(g:Fml):Dty:=⟨y.req,y.since,y.first,g⟩
def Hs(S:List Sgn)(d:List Dty)(x:Int):List Dty:=if d.any (fun y=>decide ((FH S y.now x).op=0))=true then[]else d.map fun y=>y.to (FH S y.now x)
def Hm(S:List Sgn):List Dty->List Int->List Dty
 |d,[]=>d
 |d,x::xs=>Hm S (Hs S d x) xs
def YI{S:List Sgn}:∀{f:Fml},HU (HW S) f=true->isB (knS S) f=true
 | .mk op nm v b args,h=>by
  rw[RM,AZ,Lw]at h;refine is_iff.2 ⟨fun e=>?_,fun a G=>YI (h.2 a G)⟩;have:=h.1;unfold HW at this;rw[AJ (show(Fml.mk op nm v b args).op=3 from e)]at this;exact this
def lw{s:Spc}(T:Dx s=true){r:Rqm}(B:r∈s.reqs):isB (knS s.sigs) (Fc r.formula).1=true:=by
 obtain⟨i,F⟩:=Cn B;have Z:=(Ah.1 F).1;unfold Dx at T;simp only[AZ,Bu,HZ]at T;have W:=T.2 i Z;unfold Hx at W;rw[F]at W;simp only[AZ]at W;have R:=W.2;unfold GD at R;simp only[AZ]at R;exact mY (YI R.1.2)
section
variable {mk:Prop}[MK mk]
def MY{l m:LV}(h:oneC l)(k:oneC m):oneC (l++m):=fun u o=>(DM.1 o).elim (h u) (k u)
structure Acc{α:Type}(ok0:Nat->Prop)(R:Rp α)(T:TypeId)(sz B:Nat)(W:World)(v:Value)(l:List α):Prop where
 ex:∃L,W.ownsRow B T sz v l.length L.flatten/\RsAt R (fun b=>ok0 b/\v.ownBlock≠some b) W L l
section
variable {α:Type}{ok0:Nat->Prop}{R:Rp α}{T:TypeId}{sz B:Nat}{W W1 w8:World}{v v8:Value}{l:List α}
def Acc.push{L:List (LV)}{c:LV}{a:α}(n:W.ownsRow B T sz v l.length L.flatten)(m:RsAt R (fun b=>ok0 b/\v.ownBlock≠some b) W L l)(e:Ext W W1)(o:R.fits (fun b=>ok0 b/\v.ownBlock≠some b) W1 c a)(h:Apd W1 w8 B T sz v v8 (l.length+1) (L.flatten++c)):Acc ok0 R T sz B w8 v8 (l++[a]):=by
 have z:=e.size
 have M:∀g,v8.ownBlock=some g->v.ownBlock=some g\/g=W1.heap.size:=fun g j=>by
  rcases h.D with e|e
  ·exact .inl (by rw[<-e];exact j)
  ·rw[e]at j;exact .inr (Ae j).symm
 have k:∀y,y∈v.ownBlock.toList->v.ownBlock=some y:=fun y I=>Aw.1 I;refine⟨⟨L++[c],by have:=h.own;simpa using this,RsAt.snoc ?_ ?_⟩⟩
 ·refine((m.lt.ext e).E h.E fun b S r=>S.1.2 (k b r)).mono fun b S=>⟨S.1.1,fun i=>?_⟩;rcases M b i with e|e
  ·exact S.1.2 e
  ·have:=S.2;omega
 ·refine R.mono (R.E (R.lt o) h.E fun b S r=>S.1.2 (k b r)) fun b S=>⟨S.1.1,fun i=>?_⟩;rcases M b i with e|e
  ·exact S.1.2 e
  ·have:=S.2;omega
def Acc.sl(h:Acc ok0 R T sz B W v l):SlAt R AL W v l:=by
 obtain⟨L,n,z⟩:=h.ex;have E:Sl AL W v l.length L.flatten:=BG n fun _ _=>trivial;obtain⟨a,c,e,_⟩:=id E;exact⟨a,c,L,e,E,z.mono fun _ _=>trivial⟩
end
def SlAt.at{α:Type}{R:Rp α}{sz:Nat}{ok:Nat->Prop}{w:World}{a:Option Addr}{n c k:Nat}{l:List α}{x:α}(p:R.size=sz)(h:SlAt R ok w (.slice a n c) l)(V:l[k]?=some x):∃b o d,a=some ⟨b,o,none⟩/\ok b/\Cells w b (o+k*sz) d/\R.fits ok w d x:=by
 subst p;obtain⟨r,j,L,e,E,g⟩:=h;cases e;have m:=(Ah.1 V).1;have i:L[k]?=some (L[k]'(by rw[g.1];exact m)):=AU _;obtain⟨b,o,q,u,N⟩:=Sl.row E g i m;exact⟨b,o,_,q,u,N,g.2 k _ x i V⟩
section
variable {P:Program}{all:Array Oper}{Z:Fr->DS->List PanicEntry->World->Prop}{K:Fr->DS->World->Prop}{rest:List Oper}{f:Fr}{ds:DS}{w:World}{d:Nat}{ty:TypeId}{pos:String}{af:Array Edge}
def RK{T e size a:Nat}{z:Value}{l c:Operand}{k S:IntKind}{n:Nat}{N M:Int}[hT:SlT P T e size a z](p:(madeCells z.cells (n*size)).size=n*size)(q:ev f l=.int k N)(m:ev f c=.int S M)(L:N=0)(F:M=(n:Int))(u:a*n<=281474976710656)(r:n<=9223372036854775807)
  (h:∀w',Ext w w'->w'.heap.size=w.heap.size+1->w'.ownsRow w.heap.size e size (.slice (sm w.heap.size) 0 n) 0 []->AF P all Z K rest (upd f d (.slice (sm w.heap.size) 0 n)) ds w'):
  AF P all Z K (⟨some d,.makeSlice T l c,ty,pos,af,none⟩::rest) f ds w:=by
 subst L;subst F;obtain⟨i,o,A,t,j⟩:=hT.out
 have g:(i.bytes:Int)*(n:Int)<=281474976710656:=by
  rw[j];have h:((a*n:Nat):Int)<=281474976710656:=by omega
  rwa [RG]at h
 have s:=run_make (P:=P) w T e i z hT.und o A k S 0 n U U g U;have b:=New.mk_alloc w (madeCells z.cells (n*size)).toList e;refine At (v:=.slice (sm w.heap.size) 0 n) (w':=w.alloc (.cells (madeCells z.cells (n*size)).toList.toArray e)) rfl ?_ (h _ b.E b.size ⟨by simp,.inr ⟨w.heap.size,n,(madeCells z.cells (n*size)).toList.toArray,rfl,AO _,b.D,by omega,by unfold maxLen;omega,by simpa using p,by simp⟩⟩);simp[execOp,q,m,s,t]
end
def RS{sz:Nat}{b e:LV}(a:b.length=sz)(c:e.length=sz):IP (fun i=>some (i*sz,sz)) b [(0,.agg e.toArray)]=some e:=by
 have g:(Value.agg e.toArray).cells=e.toArray:=rfl;simp[IP,g,c,a,splice]
def Ku(z:Array Value)(n:Nat):(madeCells z n).size=n:=by simp[madeCells]
end
def dtyR:Rp Dty where
 fits ok w c x:=∃r a b,c=r++(iV x.since::(a++b))/\reqR.fits ok w r x.req/\fmlR.fits ok w a x.first/\fmlR.fits ok w b x.now
 size:=19
 len h:=by
  obtain⟨r,a,b,rfl,Z,W,R⟩:=h;have f:r.length=8:=reqR.len Z;have d:a.length=5:=fmlR.len W;have N:b.length=5:=fmlR.len R;simp[f,d,N]
 one h:=by
  obtain⟨r,a,b,rfl,Z,W,R⟩:=h;refine MY (reqR.one Z) fun u o=>?_;rcases BI.1 o with rfl|o
  ·rfl
  ·exact MY (fmlR.one W) (fmlR.one R) u o
 E h k hX:=by obtain⟨r,a,b,e,Z,W,R⟩:=h;exact⟨r,a,b,e,reqR.E Z k hX,fmlR.E W k hX,fmlR.E R k hX⟩
 lt h:=by obtain⟨r,a,b,e,Z,W,R⟩:=h;exact⟨r,a,b,e,reqR.lt Z,fmlR.lt W,fmlR.lt R⟩
 mono h hk:=by obtain⟨r,a,b,e,Z,W,R⟩:=h;exact⟨r,a,b,e,reqR.mono Z hk,fmlR.mono W hk,fmlR.mono R hk⟩
def wchR:Rp (Dty×Fml) where
 fits ok w c x:=∃a b,c=a++b/\dtyR.fits ok w a x.1/\fmlR.fits ok w b x.2
 size:=24
 len h:=by
  obtain⟨a,b,rfl,Z,W⟩:=h;have f:a.length=19:=dtyR.len Z;have u:b.length=5:=fmlR.len W;simp[f,u]
 one h:=by obtain⟨a,b,rfl,Z,W⟩:=h;exact MY (dtyR.one Z) (fmlR.one W)
 E h k hX:=by obtain⟨a,b,e,Z,W⟩:=h;exact⟨a,b,e,dtyR.E Z k hX,fmlR.E W k hX⟩
 lt h:=by obtain⟨a,b,e,Z,W⟩:=h;exact⟨a,b,e,dtyR.lt Z,fmlR.lt W⟩
 mono h hk:=by obtain⟨a,b,e,Z,W⟩:=h;exact⟨a,b,e,dtyR.mono Z hk,fmlR.mono W hk⟩
def eL{ok:Nat->Prop}{w:World}{c:LV}{x:Dty}(h:dtyR.fits ok w c x):∃q a b,c=[AA x.req.part,AA x.req.name,iV x.req.kind]++q++(iV x.since::(a++b))/\q.length=5/\a.length=5/\b.length=5/\FAt ok w (.agg q.toArray) x.req.formula/\FAt ok w (.agg a.toArray) x.first/\FAt ok w (.agg b.toArray) x.now:=by
 obtain⟨r,a,b,rfl,⟨q,rfl,V,Z⟩,⟨G,W⟩,⟨S,R⟩⟩:=h;exact⟨q,a,b,rfl,V,G,S,Z,W,R⟩
def wtP(A:List Pn):Nat:=(A.map fun p=>szF p.2.2).sum
def X3(A qs:List Pn):wtP (A++qs)=wtP A+wtP qs:=by simp[wtP]
def X4:∀A:List Pn,A.length<=wtP A
 | []=>AO _
 |p::A=>by
  have Z:=X4 A;have W:=Bn p.2.2;simp only[wtP,EG,OT,C9]at Z⊢;omega
def mw{α:Type}{l:List α}(h:l≠[]):∃m a,l=m++[a]:=⟨l.dropLast,l.getLast h,(Lb h).symm⟩
def chP(b o:Nat):Nat->LF->List Pn
 |_,[]=>[]
 |i,x::l=>(b,o+i*5,x)::chP b o (i+1) l
def VZ(b o:Nat)(x:Fml):∀(l:LF)(i:Nat),chP b o i (l++[x])=chP b o i l++[(b,o+(i+l.length)*5,x)]
 | [],i=>by simp[chP]
 |y::l,i=>by
  have:=VZ b o x l (i+1);simp only[Ee,chP,this,C9];rw[show i+1+l.length=i+(l.length+1) by omega]
def YK(b o:Nat):∀(l:LF)(i:Nat),wtP (chP b o i l)=szL l
 | [],i=>by simp[chP,wtP,szL]
 |y::l,i=>by
  have:=YK b o l (i+1);simp only[chP,wtP,EG,OT,szL]at this⊢;rw[this]
def XI(b o:Nat):∀(l:LF)(i:Nat),(chP b o i l).length=l.length
 | [],i=>rfl
 |y::l,i=>by simp[chP,XI b o l (i+1)]
def Qb(w:World)(v:Value)(f:Fml)(j:Nat->Prop)(hf:FAt j w v f)(hz:szF f<=1000000):
  Fn Zp 52 [v] w fun u w'=>Ext w w'/\FAt (fun b=>j b\/w.heap.size<=b) w' u f:=by
 obtain⟨c,rfl,c5,b3⟩:=hf.cells;obtain⟨x0,x1,x2,x3,x4,rfl⟩:=An c5;have c9:=hf.lt;refine AM func52 rfl ntmps52 (go ?_);refine Ac (L:=[x0,x1,x2,x3,x4]) rfl (fun Q n1=>?_);refine Ai (L:=zero5) (fun m P=>?_);have z1:=n1.size;have z2:=P.size;have kk:=n1.E.Q P.E;have b1:Blk m w.heap.size 37 [x0,x1,x2,x3,x4]:=n1.D.E P.E O;refine go ?_;refine Ka (out:=[pt w.heap.size]) rfl U rfl rfl (fun w3 z=>?_);have z3:=z.size;have k3:=kk.Q z.E
 have i:Cpy j w.heap.size m.heap.size Q.heap.size 37 zero5 [] [(w.heap.size,0,f)] [(w.heap.size,0,f)] w3 (.slice (sm m.heap.size) 1 1):=by
  have hp:PF (cok j w.heap.size Q.heap.size (Value.slice (sm m.heap.size) 1 1)) w3 w.heap.size 0 f:=⟨⟨.inr (AO _),by omega,by simp[Value.ownBlock];omega⟩,_,rfl,(b1.E z.E O).cells,(c9.ext k3).mono fun b S=>⟨.inl S.1,by have:=S.2;omega,by have:=S.2;simp[Value.ownBlock];omega⟩⟩;refine⟨z.own (n:=1) (size:=1) rfl rL (AO _),fun p M=>?_,fun p M=>?_,P.D.E z.E O,by omega,by simp,by simp⟩
  ·rcases M with M|M<;>(simp at M;rw[M];exact hp)
  ·simp at M;rw[M];exact⟨AO _,_,_,b1.E z.E O⟩
 refine go ?_
 refine Aj (α:=List Pn×List Pn×Value) (fun y=>[(1,pt w.heap.size),(2,pt Q.heap.size),(3,y.2.2)])
  (fun y W=>Ext w W/\(∀p∈[(w.heap.size,0,f)],p∈y.2.1)/\wtP y.1<=1000000/\Cpy j w.heap.size m.heap.size Q.heap.size 37 zero5 [] y.2.1 y.1 W y.2.2) (fun y=>wtP y.1) ([(w.heap.size,0,f)],[(w.heap.size,0,f)],.slice (sm m.heap.size) 1 1) ag ⟨k3,fun p h=>h,by simpa[wtP]using hz,i⟩ ?_
 rintro⟨ps,rs,v⟩W fr⟨kW,hr,hw,i⟩;simp only at hr hw i;have ho:=i.own;obtain⟨va,F,rfl,e6,e7,e8,d7⟩:=BG (ok:=AL) ho fun _ _=>trivial;refine go ?_;by_cases K:ps≠[]
 ·obtain⟨a,p,rfl⟩:=mw K;have hl:(a++[p]).length=a.length+1:=by simp
  obtain⟨a2,e1,B,N,hA,T,L,S⟩:=i.pop;rw[hl]at B;cases B;obtain⟨A,H,rfl, -,d8⟩:=d7.resolve_left U;have e4:W.cell? ⟨A,H+a.length,none⟩=some (NQ p):=d8 _ _ O;have hj:(((a++[p]).length:Nat):Int)-1=(a.length:Int):=by omega
  obtain⟨g,o,x⟩:=p;have a5:=N.all (g,o,x) (.inl O);simp only at a5 hA S;obtain⟨hok,d,q,c6,hfx⟩:=id a5;obtain⟨d9,B,G,a0,a4,a3,b6⟩:=hfx.form;obtain⟨d0,d1,d2,d3,d4,rfl⟩:=An q;simp only[Kb,QM,I7,KG]at B;obtain⟨rfl,rfl,rfl,rfl,rfl⟩:=B;obtain⟨aa,cc,rfl,r1,r2,r3,r4⟩:=id a0;have a6:W.cell? ⟨g,o+4,none⟩=some (.slice aa x.args.length cc):=c6 4 _ rfl;have b8:FsAt (cok j w.heap.size Q.heap.size (Value.slice (sn A H) a.length F)) W G x.args:=⟨a4,a3,b6⟩;have f2:wtP a+szF x=wtP (a++[(g,o,x)]):=by rw[X3];simp[wtP]
  have f4:=Bn x;have f5:=D8 x.args;have hql:=X4 a;refine go ?_;have ht:((((a++[(g,o,x)]).length:Nat):Int)-1).toNat=a.length:=by omega
  rw[ht];refine AD (ii W aa cc x.args G _ a0 b8 U) rfl ?_;rintro u w4⟨C,o4⟩;have hu:Sl (fun b=>W.heap.size<=b) w4 u x.args.length G.flatten:=BG o4 fun b S=>(Ao o4 S).1;obtain⟨E,Z,rfl,u1,u2,u3,u4⟩:=id hu;have c1:=N.ext C;have a7:=S.E C O;have e9:(Value.slice (sn A H) a.length F).ownBlock≠some Q.heap.size:=fun e=>by have:=(Ao N.own e).1;omega
  have e2:=S.lt;have zW:=kW.size;have f0:Q.heap.size<W.heap.size:=i.D.lt;have b9:=S.un a6;have c0:=(Ah.1 b9).1;refine go ?_;refine AW (v:=.slice E x.args.length Z) rfl rfl rfl a7 c0 (fun w5 D=>?_)
  have c8:∀(n:Nat)(L:List (LV)),L.flatten.length=n*5->Sl (cok j w.heap.size Q.heap.size (Value.slice (sn A H) a.length F)) w4 (.slice aa x.args.length cc) n L.flatten->Sl (cok j w.heap.size Q.heap.size (Value.slice (sn A H) a.length F)) w5 (.slice E x.args.length Z) n L.flatten:=fun n L hL h=>by
   refine pN (a0.ext C) (by rw[EL 5 G a3,a4]) ?_ n L hL h;exact(hu.E D.E (fun b S r=>by rw[Bj]at r;omega)).mono fun b S=>⟨.inr U,by omega,fun e=>by have:=(Ao N.own e).2;omega⟩
  have hR:=Rtg.of_put a7 (C.cell a6 O) ⟨_,_,_,rfl⟩ D c8;have c2:=c1.store hR D hok.2.1 hok.2.2;have c7:w5.cell? ⟨g,o+4,none⟩=some (.slice E x.args.length Z):=hR.new;have e5:Ext w w5:=(kW.Q C).E D.E rE
  obtain⟨X,l,b4⟩:∃X l,0<x.args.length->E=some ⟨X,l,none⟩/\w.heap.size<=X/\∃T L,Blk w5 X T L:=by
   by_cases f3:x.args.length=0
   ·exact⟨0,0,fun h=>by omega⟩
   ·rcases o4.2 with⟨_,h⟩|⟨g',e0,b5,e,h1,h2, -⟩
    ·omega
    ·cases e;have hne:g'≠g:=fun e=>by omega
     have c4:Blk w4 g' 37 b5.toList:=by simpa[Blk]using h2
     exact⟨g',0,fun _=>⟨rfl,by omega,_,_,c4.E D.E (by simpa using hne)⟩⟩
  refine go ?_
  refine Aj (α:=Nat×Value) (fun y=>[(1,pt w.heap.size),(2,pt Q.heap.size),(3,y.2),(4,.pointer (sn g o)),(33,iV (x.args.length:Int)),(34,iV (y.1:Int))])
   (fun y V=>y.1<=x.args.length/\Ext w V/\V.cell? ⟨g,o+4,none⟩=some (.slice E x.args.length Z)/\(0<x.args.length->∃T L,Blk V X T L)/\Cpy j w.heap.size m.heap.size Q.heap.size 37 zero5 [] ((g,o,x)::rs) (a++chP X l 0 (x.args.take y.1)) V y.2) (fun y=>x.args.length-y.1) (0,.slice (sn A H) a.length F) ag ⟨by simp,e5,c7,fun h=>(b4 h).2.2,by simpa[chP]using c2⟩ ?_
  rintro⟨k,v⟩V fr⟨hk,kV,a1,a9,t⟩;simp only at hk a1 t;refine go ?_;by_cases hlt:k<x.args.length
  ·obtain⟨y,s⟩:=gl hlt;obtain⟨rfl,d5, -⟩:=b4 U;have b2:=t.all (g,o,x) (.inl O);obtain⟨f6,f7,e,b0⟩:=b2.child a1 s;cases e;have hgo:=b2.1.2.2;have d6:=b0.1.2.2;refine go ?_;refine Ka (out:=[.pointer (sn X (l+k*5))]) rfl U rfl rfl (fun w6 I=>?_);have e3:(a++chP X l 0 (x.args.take k)).length=a.length+k:=by rw[A9,XI,DE];omega
   have hX:∀y,y∈v.ownBlock.toList->v.ownBlock=some y:=fun y s=>Aw.1 s;have z6:=I.size;have zV:m.heap.size<=V.heap.size:=by have:=t.D.lt;omega
   refine Bk (v:=v) rfl rfl (CD t.own I.E) (BG (ok:=AL) (I.own (n:=1) (size:=1) rfl rL (AO _)) fun _ _=>trivial) U rfl rfl (Ak rfl) U U U (fun v8 w8 R=>?_);have b7:=t.push (p:=(X,l+k*5,y)) I.E R b0 ⟨d5,a9 U⟩ fun e=>by have:=(Ao t.own e).1;omega
   have c3:∀y∈v.ownBlock.toList,w.heap.size<=y:=fun y s=>by have:=(Ao t.own (hX y s)).1;have:=i.ab;omega
   refine go ?_;refine⟨(k+1,v8),⟨rfl,ag,⟨by simp only;omega,(kV.Q I.E).E R.E c3,R.E.cell (I.E.cell a1 O) (fun r=>hgo (hX _ r)),fun h=>?_,?_⟩⟩,by simp only;omega⟩
   ·obtain⟨T,L,S⟩:=a9 h;exact⟨T,L,(S.E I.E O).E R.E fun r=>d6 (hX _ r)⟩
   ·simp only;have htk:x.args.take (k+1)=x.args.take k++[y]:=by rw[CT,s];rfl
    rw[htk,VZ,DE,Ga hk,Bs,<-Cg];exact b7
  ·obtain rfl:k=x.args.length:=by omega
   rw[Co]at t;refine go ?_;have f1:wtP (a++chP X l 0 x.args)=wtP a+szL x.args:=by rw[X3,YK]
   exact⟨(a++chP X l 0 x.args,(g,o,x)::rs,v),⟨rfl,ag,⟨kV,fun p hp=>Li _ (hr p hp),by simp only;omega,t⟩⟩,by simp only;omega⟩
 ·have K:ps=[]:=Wu.1 K;subst K;have hl:([]:List Pn).length=0:=rfl;refine go ?_;obtain⟨⟨hok, -, -⟩,d,q,hc,hff⟩:=i.all (w.heap.size,0,f) (.inl (hr _ O));obtain⟨d',e,_,b3⟩:=hff.cells;obtain rfl:d=d':=by simpa using e
  refine Al (L:=d) rfl q hc ?_;refine Aa (cs:=d) rfl rfl q b3 i.D rK (fun w9 p9=>?_);have a8:=p9.D;rw[FC zero5 d (by rw[q];rfl)]at a8;refine go ?_;exact Ar rfl rfl q a8.cells ⟨kW.E p9.E rE,(hff.E p9.E (fun b S r=>by rw[Bj]at r;exact S.2.1 r)).mono fun b S=>S.1⟩
def bC(w:World)(a:Option Addr)(c:Nat)(l:List (Rqm))(F:FuncId)[hF:AI Zp F](v1 v2:LV)(g:Rqm->Dty)(N:SlAt reqR AL w (.slice a l.length c) l)(hn:l.length<=1000)
  (H:∀(W:World)(d:LV)(x:Rqm),x∈l->Ext w W->(reqR).fits (fun b=>b<w.heap.size) W d x->Fn Zp F (v1++[.agg d.toArray]++v2) W fun u Z=>∃e:LV,u=.agg e.toArray/\Ext W Z/\(dtyR).fits (fun b=>b<w.heap.size\/W.heap.size<=b) Z e (g x)):
  Fn Zp 50 [.slice a l.length c,.func (.func F) v1.toArray v2.toArray] w fun u w'=>Ext w w'/\SlAt dtyR AL w' u (l.map g):=by
 have Q:=(N.lt (show 0<(reqR).size by decide)).mono (ok':=fun b=>b<w.heap.size) fun b S=>S.2;have a2:(dtyR).size=19:=rfl;refine AM func50 rfl ntmps50 (go ?_);refine RK (n:=l.length) (Ku _ _) rfl rfl rfl rfl U U (fun w1 D z1 o1=>go ?_);refine Aj (α:=Nat×Value) (fun y=>[(1,.func (.func F) v1.toArray v2.toArray),(5,y.2),(11,.slice a l.length c),(12,iV (l.length:Int)),(13,iV (y.1:Int))]) (fun y W=>y.1<=l.length/\Ext w W/\w.heap.size<W.heap.size/\Acc AL dtyR 59 19 w.heap.size W y.2 ((l.take y.1).map g)) (fun y=>l.length-y.1) (0,.slice (sm w.heap.size) 0 l.length) ag ⟨by omega,D,by omega,⟨[],o1,RsAt.nil⟩⟩ ?_;rintro⟨k,v⟩W fr⟨P,K,zW,t⟩;simp only at P K t;refine go ?_;by_cases z:k<l.length
 ·obtain⟨x,V⟩:=gl z;obtain⟨b,o,d,rfl,S,B,r⟩:=Q.at (sz:=8) rfl V;have C:=B.E K O;have M:=(reqR).E r K (fun _ _=>by simp);have p:d.length=8:=(reqR).len r;have E:=(reqR).one r;refine go ?_;refine Al (L:=d) rfl p C ?_;refine CL (cs:=d) rfl p rfl E (fun w2 R=>?_);have h:=R.D;refine go ?_;refine Cu rfl h p ?_;have z2:=R.size;refine Bg (v1:=v1) (v2:=v2) (vs:=[.agg d.toArray]) rfl (H w2 d x (BA V) (K.Q R.E) ((reqR).E M R.E (fun _ _=>by simp))) rfl ?_;rintro u w3⟨e,rfl,s,q⟩;exact sM
 ·exact tu
def bD(w:World)(a:Option Addr)(c:Nat)(l:List (Dty))(F:FuncId)[hF:AI Zp F](v1 v2:LV)(g:Dty->Dty×Fml)(N:SlAt dtyR AL w (.slice a l.length c) l)(hn:l.length<=1000)
  (H:∀(W:World)(d:LV)(x:Dty),x∈l->Ext w W->(dtyR).fits (fun b=>b<w.heap.size) W d x->Fn Zp F (v1++[.agg d.toArray]++v2) W fun u Z=>∃e:LV,u=.agg e.toArray/\Ext W Z/\(wchR).fits (fun b=>b<w.heap.size\/W.heap.size<=b) Z e (g x)):
  Fn Zp 54 [.slice a l.length c,.func (.func F) v1.toArray v2.toArray] w fun u w'=>Ext w w'/\SlAt wchR AL w' u (l.map g):=by
 have Q:=(N.lt (show 0<(dtyR).size by decide)).mono (ok':=fun b=>b<w.heap.size) fun b S=>S.2;have a2:(wchR).size=24:=rfl;refine AM func54 rfl ntmps54 (go ?_);refine RK (n:=l.length) (Ku _ _) rfl rfl rfl rfl U U (fun w1 D z1 o1=>go ?_);refine Aj (α:=Nat×Value) (fun y=>[(1,.func (.func F) v1.toArray v2.toArray),(5,y.2),(11,.slice a l.length c),(12,iV (l.length:Int)),(13,iV (y.1:Int))]) (fun y W=>y.1<=l.length/\Ext w W/\w.heap.size<W.heap.size/\Acc AL wchR 101 24 w.heap.size W y.2 ((l.take y.1).map g)) (fun y=>l.length-y.1) (0,.slice (sm w.heap.size) 0 l.length) ag ⟨by omega,D,by omega,⟨[],o1,RsAt.nil⟩⟩ ?_;rintro⟨k,v⟩W fr⟨P,K,zW,t⟩;simp only at P K t;refine go ?_;by_cases z:k<l.length
 ·obtain⟨x,V⟩:=gl z;obtain⟨b,o,d,rfl,S,B,r⟩:=Q.at (sz:=19) rfl V;have C:=B.E K O;have M:=(dtyR).E r K (fun _ _=>by simp);have p:d.length=19:=(dtyR).len r;have E:=(dtyR).one r;refine go ?_;refine Al (L:=d) rfl p C ?_;refine CL (cs:=d) rfl p rfl E (fun w2 R=>?_);have h:=R.D;refine go ?_;refine Cu rfl h p ?_;have z2:=R.size;refine Bg (v1:=v1) (v2:=v2) (vs:=[.agg d.toArray]) rfl (H w2 d x (BA V) (K.Q R.E) ((dtyR).E M R.E (fun _ _=>by simp))) rfl ?_;rintro u w3⟨e,rfl,s,q⟩;have G:e.length=24:=(wchR).len q;refine Ay (out:=e) rfl U (RS (by rw[Lj,Ku]) G) (fun w4 j=>?_);obtain⟨L,oA,i⟩:=t.ex;have f:=(R.E.Q s).Q j.E;have z3:=f.size;have z4:=j.size;have z5:=s.size;have a1:((l.take k).map g).length=k:=by rw[Es,DE];omega
  have X:∀b,v.ownBlock=some b->w.heap.size<=b/\b<W.heap.size:=fun b S=>Ao oA S;refine Bk (ok:=AL) (v:=v) rfl rfl (CD oA f) (BG (j.own (n:=1) (size:=24) U rL (AO _)) fun _ _=>trivial) U rF U ((wchR).one q) U U U (fun v8 w8 m=>?_);have T:∀y∈v.ownBlock.toList,w.heap.size<=y:=fun y I=>(Ao oA (Aw.1 I)).1;have A:=Acc.push oA i f ((wchR).E ((wchR).mono q (ok':=fun b=>AL b/\v.ownBlock≠some b) fun b S=>⟨trivial,fun e=>by have:=X b e;omega⟩) j.E (fun _ _=>by simp)) m;refine go ?_;have z8:=m.E.size;refine⟨(k+1,v8),⟨rfl,ag,⟨by simp only;omega,(K.Q f).E m.E T,by omega,?_⟩⟩,by simp only;omega⟩;simp only;have a0:l.take (k+1)=l.take k++[x]:=by rw[CT,V];rfl
  rw[a0,FB];exact A
 ·exact tu
def dL(w:World)(a:Option Addr)(c:Nat)(l:List (Dty×Fml))(F:FuncId)[hF:AI Zp F](v1 v2:LV)(g:Dty×Fml->Dty)(N:SlAt wchR AL w (.slice a l.length c) l)(hn:l.length<=1000)
  (H:∀(W:World)(d:LV)(x:Dty×Fml),x∈l->Ext w W->(wchR).fits (fun b=>b<w.heap.size) W d x->Fn Zp F (v1++[.agg d.toArray]++v2) W fun u Z=>∃e:LV,u=.agg e.toArray/\Ext W Z/\(dtyR).fits (fun b=>b<w.heap.size\/W.heap.size<=b) Z e (g x)):
  Fn Zp 59 [.slice a l.length c,.func (.func F) v1.toArray v2.toArray] w fun u w'=>Ext w w'/\SlAt dtyR AL w' u (l.map g):=by
 have Q:=(N.lt (show 0<(wchR).size by decide)).mono (ok':=fun b=>b<w.heap.size) fun b S=>S.2;have a2:(dtyR).size=19:=rfl;refine AM func59 rfl ntmps59 (go ?_);refine RK (n:=l.length) (Ku _ _) rfl rfl rfl rfl U U (fun w1 D z1 o1=>go ?_);refine Aj (α:=Nat×Value) (fun y=>[(1,.func (.func F) v1.toArray v2.toArray),(5,y.2),(11,.slice a l.length c),(12,iV (l.length:Int)),(13,iV (y.1:Int))]) (fun y W=>y.1<=l.length/\Ext w W/\w.heap.size<W.heap.size/\Acc AL dtyR 59 19 w.heap.size W y.2 ((l.take y.1).map g)) (fun y=>l.length-y.1) (0,.slice (sm w.heap.size) 0 l.length) ag ⟨by omega,D,by omega,⟨[],o1,RsAt.nil⟩⟩ ?_;rintro⟨k,v⟩W fr⟨P,K,zW,t⟩;simp only at P K t;refine go ?_;by_cases z:k<l.length
 ·obtain⟨x,V⟩:=gl z;obtain⟨b,o,d,rfl,S,B,r⟩:=Q.at (sz:=24) rfl V;have C:=B.E K O;have M:=(wchR).E r K (fun _ _=>by simp);have p:d.length=24:=(wchR).len r;have E:=(wchR).one r;refine go ?_;refine Al (L:=d) rfl p C ?_;refine CL (cs:=d) rfl p rfl E (fun w2 R=>?_);have h:=R.D;refine go ?_;refine Cu rfl h p ?_;have z2:=R.size;refine Bg (v1:=v1) (v2:=v2) (vs:=[.agg d.toArray]) rfl (H w2 d x (BA V) (K.Q R.E) ((wchR).E M R.E (fun _ _=>by simp))) rfl ?_;rintro u w3⟨e,rfl,s,q⟩;exact sM
 ·exact tu
def KI{ok:Nat->Prop}{w:World}{c:LV}{x:Dty}(h:dtyR.fits ok w c x):∃R v S l E D B d e m V f g i p,c=[AA x.req.part,AA x.req.name,iV x.req.kind,R,v,S,l,E,iV x.since,D,B,d,e,m,V,f,g,i,p]/\FAt ok w (.agg [R,v,S,l,E].toArray) x.req.formula/\FAt ok w (.agg [D,B,d,e,m].toArray) x.first/\FAt ok w (.agg [V,f,g,i,p].toArray) x.now:=by
 obtain⟨q,a,b,rfl,n,G,k,Z,W,j⟩:=eL h;obtain⟨R,v,S,l,E,rfl⟩:=An n;obtain⟨D,B,d,e,m,rfl⟩:=An G;obtain⟨V,f,g,i,p,rfl⟩:=An k;exact⟨R,v,S,l,E,D,B,d,e,m,V,f,g,i,p,rfl,Z,W,j⟩
def PL{ok:Nat->Prop}{w:World}{p n:LU}{k t:Int}{f a b:Fml}{R v S l E D B c x m V q h d e:Value}(Z:FAt ok w (.agg [R,v,S,l,E].toArray) f)(W:FAt ok w (.agg [D,B,c,x,m].toArray) a)(g:FAt ok w (.agg [V,q,h,d,e].toArray) b):
  dtyR.fits ok w [AA p,AA n,iV k,R,v,S,l,E,iV t,D,B,c,x,m,V,q,h,d,e] ⟨⟨p,n,k,f⟩,t,a,b⟩:=
 ⟨[AA p,AA n,iV k,R,v,S,l,E],[D,B,c,x,m],[V,q,h,d,e],rfl,⟨[R,v,S,l,E],rfl,rfl,Z⟩,⟨rfl,W⟩,⟨rfl,g⟩⟩
def Yi{ok:Nat->Prop}{w:World}{p n:LU}{k t:Int}{f a b g:Fml}{R v S l E c B d x m V q h j o e I D i s:Value}(Z:FAt ok w (.agg [R,v,S,l,E].toArray) f)(W:FAt ok w (.agg [c,B,d,x,m].toArray) a)(r:FAt ok w (.agg [V,q,h,j,o].toArray) b)(A:FAt ok w (.agg [e,I,D,i,s].toArray) g):
  wchR.fits ok w [AA p,AA n,iV k,R,v,S,l,E,iV t,c,B,d,x,m,V,q,h,j,o,e,I,D,i,s] (⟨⟨p,n,k,f⟩,t,a,b⟩,g):=
 ⟨_,[e,I,D,i,s],rfl,PL Z W r,⟨rfl,A⟩⟩
def Yz{ok:Nat->Prop}{w:World}{c:LV}{x:Dty×Fml}(h:wchR.fits ok w c x):∃R v S l E D B d f m V q g j p e I k i s,c=[AA x.1.req.part,AA x.1.req.name,iV x.1.req.kind,R,v,S,l,E,iV x.1.since,D,B,d,f,m,V,q,g,j,p,e,I,k,i,s]/\FAt ok w (.agg [R,v,S,l,E].toArray) x.1.req.formula/\FAt ok w (.agg [D,B,d,f,m].toArray) x.1.first/\FAt ok w (.agg [V,q,g,j,p].toArray) x.1.now/\FAt ok w (.agg [e,I,k,i,s].toArray) x.2:=by
 obtain⟨a,b,rfl,Z,⟨n,W⟩⟩:=h;obtain⟨R,v,S,l,E,D,B,d,f,m,V,q,g,j,p,rfl,X,P,L⟩:=KI Z;obtain⟨e,I,k,i,s,rfl⟩:=An n;exact⟨R,v,S,l,E,D,B,d,f,m,V,q,g,j,p,e,I,k,i,s,rfl,X,P,L,W⟩
def lK(w:World)(sa:Option Addr)(sc:Nat)(S:List Sgn)(d:LV)(y:Dty)(x:Int)(b3:Nat->Prop)(hS:SlAt sgnR AL w (.slice sa S.length sc) S)(hd:dtyR.fits b3 w d y)(c9:szF y.req.formula<=1000000)(d0:szF y.first<=1000000)(hG:GF w)(hK:KY w)(hN:10<=w.heap.size):
  Fn Zp 56 [.slice sa S.length sc,.agg d.toArray,iV x] w fun u w'=>∃e:LV,u=.agg e.toArray/\Ext w w'/\wchR.fits (fun b=>b3 b\/w.heap.size<=b) w' e (y,FH S y.now x):=by
 have hone:=dtyR.one hd;have hd:=dtyR.lt hd;obtain⟨I,M,N,P,E,D,B,C,G,H,f,q,g,i,j,rfl,f1,f2,f3⟩:=KI hd;refine AM func56 rfl ntmps56 (go ?_);refine Ac (L:=[AA y.req.part,AA y.req.name,iV y.req.kind,I,M,N,P,E,iV y.since,D,B,C,G,H,f,q,g,i,j]) rfl (fun w1 n1=>?_);refine Ai (fun w2 R=>?_);have z1:=n1.size;have z2:=R.size;have e2:Ext w w2:=n1.E.Q R.E;have B1:=n1.D.E R.E O;have B2:=R.D;refine go ?_;refine Ab (rd 0 5 (.alt 5 (.read 6 (.alt 7 (.alt 8 .done .stop) .stop)) (.alt 7 (.alt 5 (.read 6 (.alt 8 .done .stop)) .stop) .stop))) AX rD (fun X kd T=>⟨Ext X,?_,?_⟩)
 ·exact sY
 have a0:=B1.E kd O;have d2:=B2.E kd O;have c3:Cells X w.heap.size (0+14) [f,q,g,i,j]:=a0.cells.part 14 5;have T:=e2.Q kd;obtain⟨Q,a3⟩:∃Q:LV,Blk w2 w1.heap.size 101 Q/\Q.length=24:=⟨_,B2,rfl⟩;have b1:=a3.1.E kd O;obtain⟨A,hA⟩:∃A:LV,A=[AA y.req.part,AA y.req.name,iV y.req.kind,I,M,N,P,E,iV y.since,D,B,C,G,H,f,q,g,i,j]:=⟨_,rfl⟩;refine go ?_;refine D_R (v:=.agg [f,q,g,i,j].toArray) rfl rfl (fun V hV=>by refine Al (L:=[f,q,g,i,j]) rfl rfl (c3.E hV O) ?_;exact AB ⟨rfl,rfl,rfl⟩) ?_;refine go ?_;have a6:=hG.ext T;have a7:=hK.E T O;have a8:=Az hN T.size;have a9:=hS.ext T;have a4:FAt AL X (.agg [f,q,g,i,j].toArray) y.now:=(f3.ext T).mono fun _ _=>trivial
 refine JP (α:=Nat×Value×Value×Value×Value×Value) (.alt 8 .done .stop) (fun u=>[(4,pt w.heap.size),(6,pt w1.heap.size),(7,pt u.1),(14,.agg [AA y.req.part,AA y.req.name,iV y.req.kind,I,M,N,P,E,iV y.since,D,B,C,G,H,f,q,g,i,j,u.2.1,u.2.2.1,u.2.2.2.1,u.2.2.2.2.1,u.2.2.2.2.2].toArray)])
  (fun u V=>Ext X V/\X.heap.size<=u.1/\(∃Q,Blk V u.1 101 Q/\Q.length=24)/\FAt (fun b=>X.heap.size<=b/\b≠u.1) V (.agg [u.2.1,u.2.2.1,u.2.2.2.1,u.2.2.2.2.1,u.2.2.2.2.2].toArray) (FH S y.now x)) ?_ (fun b2=>?_)
 ·rintro⟨c7,m,F,o,s,z⟩f' V⟨K,h7,⟨z7,B7,b0⟩,fs⟩;simp only at h7 B7 fs;have c8:oneC [m,F,o,s,z]:=fmlR.one (c:=[m,F,o,s,z]) ⟨rfl,fs⟩;have c6:oneC [AA y.req.part,AA y.req.name,iV y.req.kind,I,M,N,P,E,iV y.since,D,B,C,G,H,f,q,g,i,j,m,F,o,s,z]:=MY (l:=[AA y.req.part,AA y.req.name,iV y.req.kind,I,M,N,P,E,iV y.since,D,B,C,G,H,f,q,g,i,j]) hone c8;refine D_E rfl ?_;refine Aa (cs:=[AA y.req.part,AA y.req.name,iV y.req.kind,I,M,N,P,E,iV y.since,D,B,C,G,H,f,q,g,i,j,m,F,o,s,z]) rfl rfl rfl c6 B7 (by simp[b0]) (fun W4 p4=>?_);have g4:=p4.D;rw[FC z7 _ (by rw[b0];rfl)]at g4;have zd:=kd.size;have W:Ext X W4:=K.E p4.E rE;have b5:=T.Q W;have z4:=W.size;have b8:=fs.E p4.E (fun b a r=>by rw[Bj]at r;exact a.2 r);have h1:=(a0.E W O);have cq:Cells W4 w.heap.size (0+0+3) [I,M,N,P,E]:=h1.cells.part 3 5;have d7:=b1.E W O;refine wNl W ?_;refine go ?_;refine Al (L:=[I,M,N,P,E]) rfl rfl cq ?_;refine AD (Qb W4 _ y.req.formula _ (f1.ext b5) c9) rfl ?_;rintro u5 W5⟨k5,r5⟩;obtain⟨d5,rfl,c1,ho5⟩:=r5.cells;obtain⟨u0,u1,u2,u3,u4,rfl⟩:=An c1;have g5:=g4.E k5 O;refine go ?_;refine Aa (cs:=[u0,u1,u2,u3,u4]) rfl rfl rfl ho5 g5 O (fun W6 p6=>?_);have g6:Blk W6 c7 101 [AA y.req.part,AA y.req.name,iV y.req.kind,u0,u1,u2,u3,u4,iV y.since,D,B,C,G,H,f,q,g,i,j,m,F,o,s,z]:=p6.D;have b4:=k5.any.Q p6.E (fun x h _=>h);have e6:Ext X W6:=(W.Q k5).E p6.E rE;have b6:=T.Q e6;have d4:c7<W4.heap.size:=g4.lt;have r6:=r5.E p6.E (fun b a r=>by rw[Bj]at r;simp only at r;rcases a with a|a<;>omega);have d8:=b4.size;have c0:=a0.E e6 O;have ca:Cells W6 w.heap.size (0+9) [D,B,C,G,H]:=c0.cells.part 9 5;have b9:=(b8.ext k5).E p6.E (fun b a r=>by rw[Bj]at r;exact a.2 r);refine go ?_;refine Al (L:=[D,B,C,G,H]) rfl rfl ca ?_;refine AD (Qb W6 _ y.first _ (f2.ext b6) d0) rfl ?_;rintro u7 W7⟨k7,r7⟩;obtain⟨d6,rfl,c2,c4⟩:=r7.cells;obtain⟨v0,v1,v2,v3,v4,rfl⟩:=An c2;have g7:=g6.E k7 O;refine go ?_;refine Aa (cs:=[v0,v1,v2,v3,v4]) rfl rfl rfl c4 g7 O (fun W8 p8=>?_);have g8:Blk W8 c7 101 [AA y.req.part,AA y.req.name,iV y.req.kind,u0,u1,u2,u3,u4,iV y.since,v0,v1,v2,v3,v4,f,q,g,i,j,m,F,o,s,z]:=p8.D;have e8:Ext X W8:=(e6.Q k7).E p8.E rE;have a1:=T.Q e8;have d1:=b1.E e8 O;refine go ?_;have r8:=(r6.ext k7).E p8.E (fun b a r=>by rw[Bj]at r;simp only at r;rcases a with a|a<;>omega);have r9:=r7.E p8.E (fun b a r=>by rw[Bj]at r;simp only at r;rcases a with a|a<;>omega);have a5:=(b9.ext k7).E p8.E (fun b a r=>by rw[Bj]at r;exact a.2 r);have c5:oneC [AA y.req.part,AA y.req.name,iV y.req.kind,u0,u1,u2,u3,u4,iV y.since,v0,v1,v2,v3,v4,f,q,g,i,j,m,F,o,s,z]:=wchR.one (Yi (p:=y.req.part) (n:=y.req.name) (k:=y.req.kind) (t:=y.since) (r8.mono fun _ _=>trivial) (r9.mono fun _ _=>trivial) ((f3.ext a1).mono (ok':=AL) fun _ _=>trivial) (a5.mono fun _ _=>trivial));refine Aa (cs:=[AA y.req.part,AA y.req.name,iV y.req.kind,u0,u1,u2,u3,u4,iV y.since,v0,v1,v2,v3,v4,f,q,g,i,j,m,F,o,s,z]) rfl rfl rfl c5 d1 (by simp[a3.2]) (fun W9 Z=>?_);have g9:=Z.D;rw[FC Q _ (by rw[a3.2];rfl)]at g9;have b7:Ext w W9:=a1.E Z.E rE;have d3:w1.heap.size<w2.heap.size:=by omega
  refine go ?_;refine Ar rfl rfl rfl g9.cells ⟨_,rfl,b7,?_⟩;refine Yi ((r8.E Z.E ?_).mono ?_) ((r9.E Z.E ?_).mono ?_) (((f3.ext a1).E Z.E ?_).mono ?_) ((a5.lt.E Z.E ?_).mono ?_)
  ·intro b a r;rw[Bj]at r;rcases a with a|a<;>omega
  ·intro b a;rcases a with a|a
   ·exact .inl a.1
   ·exact .inr U
  ·intro b a r;rw[Bj]at r;rcases a with a|a<;>omega
  ·intro b a;rcases a with a|a
   ·exact .inl a.1
   ·exact .inr U
  ·intro b a r;rw[Bj]at r;omega
  ·exact fun b a=>.inl a.1
  ·intro b a r;rw[Bj]at r;have:=a.1.1;omega
  ·exact fun b a=>.inr (by have:=a.1.1;have:=T.size;omega)
 refine D_A rfl ?_ ?_
 ·refine AD (XB X sa sc S _ y.now x a9 a4 a6 a7 a8) rfl ?_;rintro u V⟨K,fV⟩;obtain⟨cs,rfl,a2, -⟩:=fV.cells;obtain⟨m,F,o,s,z,rfl⟩:=An a2;refine wNl K ?_;refine gE ?_;refine Ai (fun V2 R=>?_);refine wNl (K.Q R.E) ?_;have:=K.size;have:=T.size;exact b2 (V.heap.size,m,F,o,s,z) _ _ ag ⟨K.Q R.E,by simp only;omega,⟨_,R.D,rfl⟩,(fV.lt.ext R.E).mono fun b a=>⟨by have:=a.1.1;omega,by have:=a.2;simp only;omega⟩⟩
 ·refine D_E rfl ?_;refine Ai (fun V2 R=>?_);have z2:=R.size;refine wNl R.E ?_;refine D_E rfl ?_;refine AD (XB V2 sa sc S _ y.now x (a9.ext R.E) (a4.ext R.E) (a6.ext R.E) (a7.E R.E O) (Az a8 R.E.size)) rfl ?_;rintro u V⟨K,fV⟩;obtain⟨cs,rfl,a2, -⟩:=fV.cells;obtain⟨m,F,o,s,z,rfl⟩:=An a2;refine wNl (R.E.Q K) ?_;refine go ?_;have:=T.size;exact b2 (X.heap.size,m,F,o,s,z) _ _ ag ⟨R.E.Q K,AO _,⟨_,R.D.E K O,rfl⟩,fV.mono fun b a=>⟨by have:=a.1;omega,by have:=a.1;simp only;omega⟩⟩
def req8{ok:Nat->Prop}{w:World}{c:LV}{x:Rqm}(h:reqR.fits ok w c x):∃R v S l E,c=[AA x.part,AA x.name,iV x.kind,R,v,S,l,E]/\FAt ok w (.agg [R,v,S,l,E].toArray) x.formula:=by
 obtain⟨d,rfl,a,K⟩:=h;obtain⟨R,v,S,l,E,rfl⟩:=An a;exact⟨R,v,S,l,E,rfl,K⟩
def dM(w:World)(tb:Nat)(t:Int)(d:LV)(r:Rqm)(ok0:Nat->Prop)(V:reqR.fits ok0 w d r)(ht:Blk w tb 3 [iV t])(c0:szF r.formula<=1000000)(z:GF w)(G:KY w)(T:10<=w.heap.size):
  Fn Zp 51 [.agg d.toArray,pt tb] w fun u w'=>∃e:LV,u=.agg e.toArray/\Ext w w'/\dtyR.fits (fun b=>ok0 b\/w.heap.size<=b) w' e (TE t r):=by
 have V:=reqR.lt V;obtain⟨R,v,o,l,q,rfl,f1⟩:=req8 V;refine AM func51 rfl ntmps51 (go ?_);refine Ac (L:=[AA r.part,AA r.name,iV r.kind,R,v,o,l,q]) rfl (fun w1 D=>?_);refine Ai (fun K C=>?_);have z1:=D.size;have z2:=C.size;have m:Ext w K:=D.E.Q C.E;have X:=D.D.E C.E O;have B2:=C.D;obtain⟨M,c2,hzl⟩:∃M:LV,Blk K w1.heap.size 59 M/\M.length=19:=⟨_,B2,rfl⟩;clear B2;have cq:Cells K w.heap.size (0+3) [R,v,o,l,q]:=X.cells.part 3 5;have a9:=f1.ext m;refine go ?_;refine Al (L:=[R,v,o,l,q]) rfl rfl cq ?_;refine AD (Tx K _ r.formula (a9.mono fun _ _=>trivial) (z.ext m) (G.E m O) (Az T m.size)) rfl ?_;rintro u w3⟨cu,rfl,k3,fk⟩;obtain⟨N,rfl,b5,b8⟩:=fk.cells;obtain⟨y0,y1,y2,y3,y4,rfl⟩:=An b5;refine go ?_;refine CL (cs:=[y0,y1,y2,y3,y4]) rfl rfl rF b8 (fun w4 F=>?_);have z4:=F.size;have P:=k3.Q F.E;have e4:=m.Q P;have fk4:=fk.ext F.E;have B4:=F.D;have B14:=X.E P O;have a8:Cells w4 w.heap.size (0+3) [R,v,o,l,q]:=B14.cells.part 3 5;refine go ?_;refine Al (L:=[R,v,o,l,q]) rfl rfl a8 ?_;refine AD (Qb w4 _ r.formula _ (f1.ext e4) c0) rfl ?_;rintro u5 w5⟨i,r5⟩;obtain⟨c6,rfl,hc5,b6⟩:=r5.cells;obtain⟨g,H,I,A,a,rfl⟩:=An hc5;have a5:=B14.E i O;have e5:=e4.Q i;refine go ?_;refine Aa (cs:=[g,H,I,A,a]) rfl rfl rfl b6 a5 O (fun w6 c=>?_);have a6:Blk w6 w.heap.size 57 [AA r.part,AA r.name,iV r.kind,g,H,I,A,a]:=c.D;have e6:Ext w w6:=e5.E c.E O;have d1:=P.size;have z5:=i.size;have z6:=c.size;have z3:=k3.size;have a7:=(B4.E i O).E c.E rE;have c3:=((c2.E P O).E i O).E c.E rE;have r6:=r5.E c.E (fun b S f=>by rw[Bj]at f;rcases S with S|S<;>omega);have fk6:=(fk4.ext i).E c.E (fun b S f=>by rw[Bj]at f;omega);have b9:=ht.E e6 O;refine go ?_;refine Ab (rd 0 3 (.read 4 (.alt 3 (.alt 5 (.read 6 (.alt 7 .done .stop)) .stop) .stop))) AX rD (fun wd W ed=>⟨Keep [w1.heap.size] wd,?_,?_⟩)
 ·exact tK
 have c4:=a6.E W O;have c5:=a7.E W O;have c9:=b9.E W O;have d0:=ht.lt;refine go ?_;have y:=e6.Q W;have fkd:=(fk6.ext W).mono (ok':=AL) fun _ _=>trivial;refine D_E rfl ?_;refine AD (MR wd _ _ fkd (z.ext y) (G.E y O) (Az T y.size)) rfl ?_;rintro ua Va⟨Z,fa⟩;obtain⟨c7,rfl,hca, -⟩:=fa.cells;obtain⟨a0,a1,a2,a3,a4,rfl⟩:=An hca;refine wNl Z.any ?_;refine D_E rfl ?_;have s:=y.Q Z;refine AD (MR Va _ _ (fkd.ext Z) (z.ext s) (G.E s O) (Az T s.size)) rfl ?_;rintro ub Vb⟨j,Q⟩;obtain⟨c8,rfl,hcb, -⟩:=Q.cells;obtain⟨b0,b1,b2,b3,b4,rfl⟩:=An hcb;have eb:=s.Q j;have B:=Z.Q j;refine wNl B.any ?_;refine gE ?_;have c1:=(c3.E W O).E B O;have rb:=(r6.ext W).ext B;have fab:=fa.ext j;have zd:=W.size;have za:=Z.size;have b7:oneC [AA r.part,AA r.name,iV r.kind,g,H,I,A,a,iV t,a0,a1,a2,a3,a4,b0,b1,b2,b3,b4]:=dtyR.one (PL (p:=r.part) (n:=r.name) (k:=r.kind) (t:=t) (rb.mono (ok':=AL) fun _ _=>trivial) (fab.mono fun _ _=>trivial) (Q.mono fun _ _=>trivial));refine Aa (cs:=[AA r.part,AA r.name,iV r.kind,g,H,I,A,a,iV t,a0,a1,a2,a3,a4,b0,b1,b2,b3,b4]) rfl rfl rfl b7 c1 (by simp[hzl]) (fun W9 E=>?_);have g9:=E.D;rw[FC M _ (by rw[hzl];rfl)]at g9;have e9:Ext w W9:=eb.E E.E rE;refine wNl (B.any.Q E.E (fun x h _=>h)) ?_;refine go ?_;refine Ar rfl rfl rfl g9.cells ⟨_,rfl,e9,?_⟩;refine PL ((rb.E E.E ?_).mono ?_) ((fab.E E.E ?_).mono ?_) ((Q.E E.E ?_).mono ?_)
 ·intro b S f;rw[Bj]at f;rcases S with S|S<;>omega
 ·intro b S;rcases S with S|S
  ·exact .inl S.1
  ·exact .inr U
 ·intro b S f;rw[Bj]at f;omega
 ·exact fun b S=>.inr U
 ·intro b S f;rw[Bj]at f;omega
 ·exact fun b S=>.inr U
def lE(w:World)(o i:Nat)(H:Option Addr)(G:Nat)(S:List Sgn)(d:LV)(y:Dty)(x:Int)(T:Nat->Prop)(a:Blk w o 22 [.slice H S.length G])(P:Blk w i 3 [iV x])(E:SlAt sgnR AL w (.slice H S.length G) S)(n:dtyR.fits T w d y)(M:szF y.req.formula<=1000000)(N:szF y.first<=1000000)(z:GF w)(v:KY w)(C:10<=w.heap.size):
  Fn Zp 55 [.agg d.toArray,pt o,pt i] w fun u w'=>∃e:LV,u=.agg e.toArray/\Ext w w'/\wchR.fits (fun b=>T b\/w.heap.size<=b) w' e (y,FH S y.now x):=by
 have I:d.length=19:=dtyR.len n;have K:=dtyR.lt n;refine AM func55 rfl ntmps55 (go ?_);refine Ac (L:=d) rfl (fun Q D=>?_);refine Ai (fun m R=>?_);have j:=D.size;have X:=R.size;have c:Ext w m:=D.E.Q R.E;have l:=D.D.E R.E O;have s:=R.D;obtain⟨f,A,F⟩:∃f:LV,Blk m Q.heap.size 101 f/\f.length=24:=⟨_,s,rfl⟩;clear s;have h:=a.E c O;have V:=P.E c O;refine go ?_;refine Cu rfl l I ?_;refine gC (lK m H G S d y x _ (E.ext c) (dtyR.ext K c) M N (z.ext c) (v.E c O) (Az C c.size)) ?_;rintro u W⟨e,rfl,q,B⟩;have p:e.length=24:=wchR.len B;refine Aa (cs:=e) rfl rfl p (wchR.one B) (A.E q O) U (fun t g=>?_);have k:=g.D;rw[FC f _ U]at k;refine go ?_;refine Ar rfl rfl p k.cells ⟨_,rfl,(c.Q q).E g.E rE,wchR.mono (wchR.E B g.E ?_) ?_⟩
 ·intro b a r;rw[Bj]at r;rcases a with a|a<;>omega
 ·intro b a;rcases a with a|a
  ·exact .inl a.1
  ·exact .inr U
def mP(w:World)(d:LV)(y:Dty×Fml)(j:wchR.fits AL w d y):Fn Zp 58 [.agg d.toArray] w fun u w'=>u=.bool (decide (y.2.op=0))/\Ext w w':=by
 obtain⟨R,k,S,l,E,a,B,b,x,m,V,q,h,c,p,e,I,f,i,s,rfl, -, -, -,g⟩:=Yz j;obtain rfl:=g.op0;refine AM func58 rfl ntmps58 (go ?_);refine Ac (L:=[AA y.1.req.part,AA y.1.req.name,iV y.1.req.kind,R,k,S,l,E,iV y.1.since,a,B,b,x,m,V,q,h,c,p,iV y.2.op,I,f,i,s]) rfl (fun Q D=>go ?_);by_cases v:y.2.op=0
 ·rw[v]at D;refine gR ?_;exact⟨by rw[BE v];rfl,D.E⟩
 ·refine gR ?_;exact⟨by rw[BC v];rfl,D.E⟩
def aY(w:World)(d:LV)(y:Dty×Fml)(T:Nat->Prop)(j:wchR.fits T w d y):Fn Zp 60 [.agg d.toArray] w fun u w'=>∃e:LV,u=.agg e.toArray/\Ext w w'/\dtyR.fits (fun b=>T b\/w.heap.size<=b) w' e (y.1.to y.2):=by
 have j:=wchR.lt j;have a1:=wchR.one j;obtain⟨R,v,S,l,E,c,B,f,x,m,V,q,h,Z,b4,a,I,D,i,s,rfl,f1,f2, -,Q⟩:=Yz j;refine AM func60 rfl ntmps60 (go ?_);refine Ac (L:=[AA y.1.req.part,AA y.1.req.name,iV y.1.req.kind,R,v,S,l,E,iV y.1.since,c,B,f,x,m,V,q,h,Z,b4,a,I,D,i,s]) rfl (fun w1 A=>?_);refine Ai (fun C o=>?_);have z1:=A.size;have z2:=o.size;have e2:Ext w C:=A.E.Q o.E;have H:=A.D.E o.E O;have P:=o.D;obtain⟨z,a0,F⟩:∃z:LV,Blk C w1.heap.size 59 z/\z.length=19:=⟨_,P,rfl⟩;clear P;have cc:Cells C w.heap.size (0+19) [a,I,D,i,s]:=H.cells.part 19 5;refine go ?_;refine Al (L:=[a,I,D,i,s]) rfl rfl cc (go ?_);refine Aa (cs:=[a,I,D,i,s]) rfl rfl rfl (fmlR.one ⟨rfl,Q⟩) H O (fun G r=>?_);have M:Blk G w.heap.size 101 [AA y.1.req.part,AA y.1.req.name,iV y.1.req.kind,R,v,S,l,E,iV y.1.since,c,B,f,x,m,a,I,D,i,s,a,I,D,i,s]:=r.D;have ch:Cells G w.heap.size (0+0) [AA y.1.req.part,AA y.1.req.name,iV y.1.req.kind,R,v,S,l,E,iV y.1.since,c,B,f,x,m,a,I,D,i,s]:=M.cells.part 0 19;have z3:=r.size;have N:Ext w G:=e2.E r.E O;refine go ?_;refine Al (L:=[AA y.1.req.part,AA y.1.req.name,iV y.1.req.kind,R,v,S,l,E,iV y.1.since,c,B,f,x,m,a,I,D,i,s]) rfl rfl ch ?_;have K:=PL (p:=y.1.req.part) (n:=y.1.req.name) (k:=y.1.req.kind) (t:=y.1.since) (f1.ext N) (f2.ext N) (Q.ext N);refine Aa (cs:=[AA y.1.req.part,AA y.1.req.name,iV y.1.req.kind,R,v,S,l,E,iV y.1.since,c,B,f,x,m,a,I,D,i,s]) rfl rfl rfl (dtyR.one K) (a0.E r.E rE) (by simp[F]) (fun w4 g=>?_);have W:=g.D;rw[FC z _ (by rw[F];rfl)]at W;refine go ?_;refine Ar rfl rfl rfl W.cells ⟨_,rfl,N.E g.E rE,dtyR.mono (dtyR.E K g.E ?_) ?_⟩
 ·intro b X hm;rw[Bj]at hm;omega
 ·exact fun b X=>.inl X.1
def it{α:Type}{l:List α}{p:α->Bool}{k:Nat}{x:α}(V:l[k]?=some x)(a:p x=true)(C:∀(j:Nat)(y:α),j<k->l[j]?=some y->p y=false):l.findIdx? p=some k:=by
 have P:=(Ah.1 V).1;refine IX.2 ⟨P,?_,fun j m=>?_⟩
 ·have:=(Ah.1 V).2;rw[this];exact a
 ·rw[C j _ m (AU U)];simp
def eO{α:Type}{l:List α}{p:α->Bool}(C:∀(j:Nat)(y:α),j<l.length->l[j]?=some y->p y=false):l.findIdx? p=none:=by
 refine NU.2 fun x V=>?_;obtain⟨i,F⟩:=Cn V;exact C i x (Ah.1 F).1 F
def LI{α:Type}(l:List α)(p:α->Bool):Int:=match l.findIdx? p with|some j=>(j:Int)|none=> -1
def ir{α:Type}(l:List α)(p:α->Bool):decide (0<=LI l p)=l.any p:=by
 unfold LI;cases h:l.findIdx? p with
 |none=>
  have:=NU.1 h;simp only;rw[BC U]
  symm
  rw[Wv];exact fun x V=>by simpa using this x V
 |some j=>
  obtain⟨Z,W,_⟩:=IX.1 h;simp only;rw[BE U];exact(Ia.2 ⟨_,E9 Z,W⟩).symm
def mU(w:World)(a:Option Addr)(c:Nat)(l:List (Dty×Fml))(F:FuncId)[hF:AI Zp F](v1 v2:LV)(p:Dty×Fml->Bool)(N:SlAt wchR AL w (.slice a l.length c) l)(H:l.length<=100000)
  (q:∀(W:World)(d:LV)(x:Dty×Fml),x∈l->Ext w W->(wchR).fits AL W d x->Fn Zp F (v1++[.agg d.toArray]++v2) W fun u Z=>u=.bool (p x)/\Ext W Z):
  Fn Zp 116 [.slice a l.length c,.func (.func F) v1.toArray v2.toArray] w fun u w'=>u=iV (LI l p)/\Ext w w':=by
 refine AM func116 rfl ntmps116 (go ?_);refine Aj (α:=Nat) (fun k=>[(0,.slice a l.length c),(1,.func (.func F) v1.toArray v2.toArray),(7,iV (l.length:Int)),(8,iV (k:Int))]) (fun k W=>k<=l.length/\Ext w W/\∀(j:Nat)(y:Dty×Fml),j<k->l[j]?=some y->p y=false) (fun k=>l.length-k) 0 ag ⟨by omega,Ext.refl _,fun j y h=>by omega⟩ ?_;rintro k W Q⟨P,K,e⟩;refine go ?_;by_cases z:k<l.length
 ·obtain⟨x,V⟩:=gl z;obtain⟨b,o,d,rfl,r,f,S⟩:=N.at (sz:=24) rfl V;have m:=f.E K O;have T:=(wchR).E S K (fun _ _=>by simp);have n:d.length=24:=(wchR).len S;refine go ?_;refine Al (L:=d) rfl n m ?_;refine Bg (v1:=v1) (v2:=v2) (vs:=[.agg d.toArray]) rfl (q W d x (BA V) K T) rfl ?_;rintro _ s⟨rfl,g⟩;cases hp:p x with
  |true=>
   refine gR ?_;exact⟨by unfold LI;rw[it V hp e];rfl,K.Q g⟩
  |false=>
   refine go ?_;refine⟨k+1,⟨rfl,ag,⟨by omega,K.Q g,fun j y C I=>?_⟩⟩,by omega⟩;by_cases i:j=k
   ·subst i;rw[V]at I;cases I;exact hp
   ·exact e j y U I
 ·obtain rfl:k=l.length:=by omega
  refine gR ?_;exact⟨by unfold LI;rw[eO e];rfl,K⟩
def mS(w:World)(a:Option Addr)(c:Nat)(l:List (Dty×Fml))(F:FuncId)[hF:AI Zp F](v1 v2:LV)(p:Dty×Fml->Bool)(N:SlAt wchR AL w (.slice a l.length c) l)(H:l.length<=100000)
  (K:∀(W:World)(d:LV)(x:Dty×Fml),x∈l->Ext w W->(wchR).fits AL W d x->Fn Zp F (v1++[.agg d.toArray]++v2) W fun u Z=>u=.bool (p x)/\Ext W Z):
  Fn Zp 57 [.slice a l.length c,.func (.func F) v1.toArray v2.toArray] w fun u w'=>u=.bool (l.any p)/\Ext w w':=by
 have D:=ir l p;refine AM func57 rfl ntmps57 ?_;refine gC (mU w a c l F v1 v2 p N H K) ?_;rintro _ Q⟨rfl,b⟩;by_cases v:0<=LI l p
 ·rw[BE v]at D;refine gR ?_;exact⟨congrArg Value.bool D,b⟩
 ·rw[BC v]at D;refine gR ?_;exact⟨congrArg Value.bool D,b⟩
def RW(w:World)(H:Option Addr)(G:Nat)(S:List Sgn)(a:Option Addr)(c:Nat)(l:List Dty)(x:Int)(A:SlAt sgnR AL w (.slice H S.length G) S)(C:SlAt dtyR AL w (.slice a l.length c) l)(E:l.length<=1000)(m:∀y∈l,szF y.req.formula<=1000000/\szF y.first<=1000000)(z:GF w)(r:KY w)(v:10<=w.heap.size):
  Fn Zp 20 [.slice H S.length G,.slice a l.length c,iV x] w fun u w'=>Ext w w'/\SlAt dtyR AL w' u (Hs S l x):=by
 refine AM func20 rfl ntmps20 (go ?_);refine Ac (L:=[.slice H S.length G]) rfl (fun Q D=>?_);refine Ac (L:=[iV x]) rfl (fun K j=>?_);have h:=D.E.Q j.E;have o:=D.D.E j.E O;have q:=j.D;refine gC (bD K a c l 55 [] [pt w.heap.size,pt Q.heap.size] (fun y=>(y,FH S y.now x)) (C.ext h) E (fun W d y I e f=>?_)) ?_
 ·have s:=h.Q e;exact lE W w.heap.size Q.heap.size H G S d y x _ (o.E e O) (q.E e O) (A.ext s) f (m y I).1 (m y I).2 (z.ext s) (r.E s O) (Az v s.size)
 rintro u M⟨g,R⟩;have N:=h.Q g;obtain⟨k,i,rfl,_⟩:=R.len;refine gC (mS M k i _ 58 [] [] (fun p=>decide (p.2.op=0)) R (by rw[Es];omega) (fun W d y I e f=>mP W d y f)) ?_;rintro _ t⟨rfl,b⟩;have n:=N.Q b;have B:((l.map fun y=>(y,FH S y.now x)).any fun p=>decide (p.2.op=0))=l.any fun y=>decide ((FH S y.now x).op=0):=by rw[List.any_map];rfl
 rw[B];unfold Hs;cases hc:l.any fun y=>decide ((FH S y.now x).op=0)with
 |true=>
  rw[AJ rfl];refine gR ?_;exact⟨n,none,0,[],rfl,⟨none,0,rfl,AO _,by omega,fun _=>rfl,.inl rfl⟩,RsAt.nil⟩
 |false=>
  rw[AG O];refine gC (dL t k i _ 60 [] [] (fun p=>p.1.to p.2) (R.ext b) (by rw[Es];omega) (fun W d y I e f=>aY W d y _ f)) ?_;rintro u P⟨F,Z⟩;refine go ?_;refine AC rfl ⟨n.Q F,?_⟩;rw[HF]at Z;exact Z
def Q1(w:World)(H:Option Addr)(G:Nat)(C:Option Addr)(a:Nat)(s:Spc)(t:Int)(ht:0<=t)(i:SlAt sgnR AL w (.slice H s.sigs.length G) s.sigs)(B:SlAt reqR AL w (.slice C s.reqs.length a) s.reqs)(hz:∀r∈s.reqs,szF r.formula<=1000000)(z:GF w)(p:KY w)(q:10<=w.heap.size):
  Fn Zp 19 [.agg #[.slice H s.sigs.length G,.slice C s.reqs.length a],iV t] w fun u w'=>∃(v:Value)(e:Int),u=.tuple #[v,iV e]/\Ext w w'/\(e=0↔Dx s=true)/\(Dx s=true->SlAt dtyR AL w' v (GS s t)):=by
 refine AM func19 rfl ntmps19 (go ?_);refine Ac (L:=[.slice H s.sigs.length G,.slice C s.reqs.length a]) rfl (fun Q D=>?_);refine Ac (L:=[iV t]) rfl (fun w2 R=>?_);have c:=D.E.Q R.E;have l:=D.D.E R.E O;have I:=R.D;refine gC (ig w2 H G C a s (i.ext c) (B.ext c) (z.ext c) (p.E c O) (Az q c.size)) ?_;rintro v F⟨g,n,xs,ho,a5,a9,j,a0⟩;have N:=c.Q g;have a3:=l.E g O;have K:=I.E g O;have hs:Sl AL F v n xs:=BG ho fun _ _=>trivial;obtain⟨va,vc,rfl,a6,a7,a8,a1⟩:=hs;refine go ?_;by_cases A:n=0;rotate_left
 ·have T:¬Dx s=true:=fun h=>A (j.2 h);obtain⟨e,Z,a2⟩:=a0 A;obtain⟨b,o,rfl, -,S⟩:=a1.resolve_left A;have P:=S 1 _ a2;refine go ?_;refine Ab (rd 0 6 .done) AX rD (fun X E ed=>⟨Ext X,?_,?_⟩)
  ·exact sY
  have q1:∀V,Ext X V->V.cell? ⟨b,o+0*2+1,none⟩=some (iV e):=fun V k=>k.cell (E.cell (by simpa using P) O) O;refine go ?_;exact DF rfl ⟨_,e,rfl,N.Q E,by simp[Z,T],fun h=>absurd h T⟩
 ·have T:=j.1 A;have a4:s.reqs.length<=16:=by simp[Dx]at T;omega
  subst A;refine gC (bC F C a s.reqs 51 [] [pt Q.heap.size] (TE t) (B.ext N) U (fun W d y hy m x=>?_)) ?_
  ·have f:=N.Q m;exact dM W Q.heap.size t d y _ x (K.E m O) (hz y hy) (z.ext f) (p.E f O) (Az q f.size)
  rintro u w4⟨k4,M⟩;refine go ?_;exact DF rfl ⟨_,0,rfl,N.Q k4,by simp[T],fun _=>M⟩
section
variable {mk:Prop}[MK mk]
end

section
variable {mk:Prop}[MK mk]
end

def GP.size{w:World}(h:GP w):10<=w.heap.size:=h.gk.gv.size
def hdA:Fml:=isF [97] 1
def hdB:Fml:=isF [98] 1
def hd1:Fml:=⟨9,[],0,0,[⟨9,[],0,0,[hdA,isF [98] 0]⟩,⟨4,[],0,0,[isF [99] 2]⟩]⟩
def hd2:Fml:=⟨5,[],0,0,[hdA,⟨5,[],0,0,[hdB,isF [99] 1]⟩,⟨6,[],0,0,[hdA,hdB]⟩]⟩
def hd3:Fml:=⟨16,[],1,0,[⟨15,[],1,0,[hdA]⟩,⟨17,[],0,0,[hdA,hdB]⟩]⟩
def hd4:Fml:=⟨7,[],0,0,[⟨7,[],0,0,[hdA,hdB]⟩,⟨7,[],0,0,[hdA,hdB]⟩]⟩
def ku{s:Spc}(h:EO s=true):(E8 s).length<=44*szS s:=by
 simp only[EO,AZ]at h;have Z:=Ok _ h.1;have W:=SG s.reqs s.reqs.length (AO _) (by rw[Co];exact h.2);rw[Co]at W;unfold E8 NR szS;rw[A9];omega
def jt{f:Fml}(h:okF f=true):(prF 0 f).length<=44*szF f:=by have:=R9 _ f (AO _) h 0;omega
def fT(f:Fml):LU:=if okF f then prF 0 f else[]
def sT(s:Spc):LU:=if EO s then E8 s else[]
def SA(w:World)(v:Value)(f:Fml)(K:FAt AL w v f)(z:GP w)(p:szF f<=1000000):Fn Zp 13 [v] w fun u w'=>u=AA (fT f)/\Ext w w':=by
 obtain⟨c,rfl,T,_⟩:=K.cells;exact nQ w f c ⟨T,K⟩ z p z.size fun h=>by have:=jt h;omega
def SB(w:World)(c:LV)(s:Spc)(E:spcR.fits AL w c s)(z:GP w)(p:szS s<=1000000):Fn Zp 8 [.agg c.toArray] w fun u w'=>u=AA (sT s)/\Ext w w':=
 nR w s c E z p z.size fun h=>by have:=ku h;omega
def bQ{op v b:Int}{l:LU}{n:Nat}(h:CN op l v b n=true)(H:n<=Ps):E4 op l v b n=true:=by
 simp only[CN,AZ,BD]at h;obtain⟨⟨⟨⟨⟨⟨⟨a,W⟩,R⟩,c⟩,Z⟩,p⟩,A⟩,M⟩:=h;have:op=1\/op=2\/op=3\/op=4\/op=5\/op=6\/op=7\/op=8\/op=9\/op=10\/op=11\/op=12\/op=13\/op=14\/op=15\/op=16\/op=17\/op=18\/op=19:=by omega
 rcases this with rfl|rfl|rfl|rfl|rfl|rfl|rfl|rfl|rfl|rfl|rfl|rfl|rfl|rfl|rfl|rfl|rfl|rfl|rfl<;>
  (simp only[Am]at R;simp at R Z A M;simp[E4,Bh,styL,List.lookup,M];omega)
def Xd:∀{l:LF},(∀a∈l,okF a=true)->okL l=true
 | [],_=>rfl
 |a::l,h=>by rw[okL,h a O,Xd fun c T=>h c rR];rfl
def YV{op v b:Int}{l:LU}{args:LF}(h:CN op l v b args.length=true)(p:args.length<=1000000)(G:∀a∈args,okF a=true):okF (.mk op l v b args)=true:=by
 rw[okF,bQ h (by unfold Ps;omega),Xd G];rfl
def VV:∀(n:Nat)(f:Fml)(i:Bool),szF f<=n->n<=1000000->BQ i f=true->okF f=true
 |0,f,i,hz,_,_=>by rw[Bn]at hz;omega
 |n+1,.mk op nm v b args,i,hz,hn,h=>by
  rw[Bn]at hz;have j:szL args+1<=n+1:=hz;obtain⟨_,W,_,A⟩:=HI h;have:=D8 args;refine YV W U fun a G=>?_;have:=Ci G;exact VV n a _ U U (A a G)
def Xk:∀(n:Nat)(f:Fml)(i:Bool),szF f<=n->n<=1000000->(CW i f).all (fun x=>Ej x.1)=true->okF f=true
 |0,f,i,hz,_,_=>by rw[Bn]at hz;omega
 |n+1,.mk op nm v b args,i,hz,hn,h=>by
  rw[Bn]at hz;have d:szL args+1<=n+1:=hz
  have N:∀(l:LF)(j:Bool),(∀a∈l,a∈args)->(B9 j l).all (fun x=>Ej x.1)=true->∀a∈l,okF a=true:=by
   intro l
   induction l with
   |nil=>intro j _ _ a G;cases G
   |cons a l ih=>
    intro j r h;have Z:=Ci (r a O);rw[B9,HC,AZ]at h;intro c T;rcases BI.1 T with rfl|T
    ·exact Xk n c j U U h.1
    ·exact ih j (fun c T=>r c rR) h.2 c T
  rw[CW,Gc,AZ]at h;have Z:=h.1;have:=D8 args;simp only at Z;rw[MQ _ (by simp only[Fml.args];omega)]at Z;exact YV Z U (N args _ (fun a h=>h) h.2)
def iG{f:Fml}(h:Fy f=true):okF f=true:=by
 simp only[Fy,AZ,BD]at h;exact Xk _ f false (AO _) U h.2
def fZ{f:Fml}(h:DP f=true):okF f=true:=by
 obtain⟨Z,_,R,_⟩:=Ur h;exact VV _ f false (AO _) U R
def MG{s:Spc}(h:Dx s=true):Bo s.sigs=true/\s.reqs.length<=16/\∀r∈s.reqs,Hn r=true/\GD s.sigs r.formula=true:=by
 simp only[Dx,AZ,BD,Bu,HZ]at h;refine⟨h.1.1,h.1.2,fun r B=>?_⟩;obtain⟨i,F⟩:=Cn B;have:=h.2 i (Ah.1 F).1;unfold Hx at this;rw[F]at this;simp only[AZ]at this;exact⟨this.1.1,this.2⟩
def cd{S:List Sgn}{f:Fml}(h:GD S f=true):Fy f=true:=by
 simp only[GD,AZ]at h;exact h.1.1.2
def ks{l:List Sgn}(h:Bo l=true):l.all okS=true:=by
 obtain⟨_,_,R,_⟩:=If h;refine Bu.2 fun x V=>?_;obtain⟨i,F⟩:=Cn V;obtain⟨Z,W,A,_⟩:=(HP F).1 (R i (Ah.1 F).1);simp only[okS,Gx,AZ,BD];exact⟨Z,by omega,by omega⟩
def XJ{s:Spc}(h:Dx s=true):EO s=true:=by
 obtain⟨Z,_,R⟩:=MG h;rw[EO,ks Z,HE];refine Bu.2 fun r B=>?_;obtain⟨A,a⟩:=R r B;simp only[Hn,AZ]at A;simp only[EQ,okR,AZ];exact⟨A.1.2,⟨A.1.1,A.2⟩,iG (cd a)⟩
abbrev TG:LU:=[105,110,112,117,116,32,114,59,10,111,117,116,112,117,116,32,103,59,10,112,97,114,116,32,112,32,123,10,32,32,97,115,115,117,109,101,32,97,58,32,71,32,70,32,114,59,10,32,32,103,117,97,114,97,110,116,101,101,32,98,58,32,71,32,40,114,32,45,62,32,70,91,50,93,32,103,41,59,10,125,10,112,97,114,116,32,113,32,123,10,32,32,103,117,97,114,97,110,116,101,101,32,99,58,32,72,32,103,32,124,32,89,32,114,59,10,125,10]
def spcX:Spc:=⟨[⟨[114],true,2⟩,⟨[103],false,2⟩],[⟨[112],[97],1,⟨12,[],0,0,[⟨11,[],0,0,[isF [114] 1]⟩]⟩⟩,⟨[112],[98],2,⟨12,[],0,0,[⟨7,[],0,0,[isF [114] 1,⟨13,[],0,2,[isF [103] 1]⟩]⟩]⟩⟩,
 ⟨[113],[99],2,⟨6,[],0,0,[⟨19,[],0,0,[isF [103] 1]⟩,⟨15,[],0,0,[isF [114] 1]⟩]⟩⟩]⟩
def nM:PRes .spec TG (.ok spcX):=PRes.ofE (n:=100) rD
def Yn:Dx spcX=true:=by kernel_rfl
def dusX:List Dty:=Hs spcX.sigs (GS spcX 0) 1
def Yo:dusX.length=3:=by kernel_rfl
def Jh(i:Nat):Fml:=match dusX[i]? with|some d=>d.now|none=>Ad
def Y4{i:Nat}(h:i<3):∃d,dusX[i]?=some d/\d.now=Jh i:=by
 obtain⟨d,x⟩:∃d,dusX[i]?=some d:=⟨_,AU (by rw[Yo];exact h)⟩;exact⟨d,x,by unfold Jh;rw[x]⟩
def qQ:sT spcX=TG:=by kernel_rfl
def X_t1:fT (Jh 1)=[40,103,32,124,32,88,32,103,41,32,38,32,102,97,108,115,101,32,82,32,40,103,32,124,32,33,114,32,124,32,88,32,40,103,32,124,32,88,32,103,41,41]:=by kernel_rfl
def X_t2:fT (Jh 2)=[102,97,108,115,101]:=by kernel_rfl
def X_sz:szF (Jh 1)<=1000/\szF (Jh 2)<=1000/\szS spcX<=1000:=⟨FO rD,FO rD,FO rD⟩
def pC:(spcX.reqs.all fun r=>decide (szF r.formula<=1000))=true:=by kernel_rfl
def iW:((GS spcX 0).all fun y=>decide (szF y.req.formula<=1000)&&decide (szF y.first<=1000))=true:=by kernel_rfl
def xtN(op b:Int)(r:Int×Int):Int×Int:=
 (min (if op=4 then r.1 else if DI op then r.1+2 else if op=13\/op=14 then r.1*(b+1)+2*b else r.1+1) 1000,
  if op=4 then r.2 else if op=13\/op=14 then r.2+2*b else r.2+1)
mutual
def xtF:Fml->Bool->Int×Int
 | .mk op _ _ b args,neg=>if op=3/\neg=true then(2,2)else xtN op b (xtL (op==4||op==7) args neg)
def xtL:Bool->LF->Bool->Int×Int
 |_,[],_=>(0,0)
 |t,a::l,neg=>((xtF a (neg !=t)).1+(xtL false l neg).1,max (xtF a (neg !=t)).2 (xtL false l neg).2)
end
def XtQ(r:BS)(l d:Int)(x:Int×Int):Prop:=(r.2=true↔l<x.1\/d<x.2)/\(r.2=false->r.1=l-x.1)
def KF(l d:Int):tkB (l,false) d=(l-1,decide (l<1)||decide (d<1)):=by
 unfold tkB;simp only[Ha,JB,true_and]
 congr 1
 exact decide_eq_decide.2 U
def VL(f:Fml)(neg:Bool)(d l:Int):fmB f neg d (l,true)=(Ad,(l,true)):=by
 obtain⟨M,a,v,b,e⟩:=f;rw[fmB];simp
def iK:∀(L:LF)(neg:Bool)(d l:Int),fm0 L neg d (l,true)=(Ad,(l,true))
 | [],_,_,_=>by rw[fm0]
 |a::_,_,_,_=>by rw[fm0,VL]
def RE:∀(L:LF)(t neg:Bool)(d l:Int),(fmL t L neg d (l,true)).2=(l,true)
 | [],_,_,_,_=>by rw[fmL]
 |a::L,_,_,_,_=>by rw[fmL];simp only[VL];exact RE L _ _ _ _
def Ys{op:Int}{neg:Bool}{g:Int->BS->Fml×BS}{x:Int×Int}(V:1<=x.1/\1<=x.2)(b:∀d l,0<=l->l<1000->XtQ (g d (l,false)).2 l d x)(a:∀d l,(g d (l,true)).2=(l,true)):
  ∀(n:Nat)(d l:Int),0<=l->l<1000->XtQ (bdB op neg g n d (l,false)).2 l d (x.1*((n:Int)+1)+2*n,x.2+2*n)
 |0,d,l,v,Z=>by
  rw[bdB];simpa using b d l v Z
 |n+1,d,l,v,Z=>by
  have e:x.1*(((n+1:Nat):Int)+1)=x.1*((n:Int)+1)+x.1:=by
   rw[show(((n+1:Nat):Int)+1)=((n:Int)+1)+1 by omega,Int.mul_add,Int.mul_one]
  have C:1<=x.1*((n:Int)+1):=by
   have:=H2 V.1 (show(1:Int)<=(n:Int)+1 by omega) U U;omega
  have f:=fun d l v Z=>Ys (op:=op) (neg:=neg) V b a n d l v Z;rw[e,bdB];simp only[D6,Dh,KF];generalize x.1*((n:Int)+1)=y at C f⊢;by_cases I:l<1\/d<1
  ·have:(decide (l<1)||decide (d<1))=true:=by simpa using I
   simp only[this,DN];exact tB
  have c:(decide (l<1)||decide (d<1))=false:=by simpa using I
  simp only[c,D6,Dh,KF];by_cases D:l-1<1\/d-1<1
  ·have:(decide (l-1<1)||decide (d-1<1))=true:=by simpa using D
   simp only[this,DN];exact tB
  have j:(decide (l-1<1)||decide (d-1<1))=false:=by simpa using D
  simp only[j,D6,Dh];obtain⟨X,P⟩:=b (d-1) (l-1-1) U U;obtain⟨r,B⟩:∃r,r=g (d-1) (l-1-1,false):=⟨_,rfl⟩;rw[<-B]at X P⊢;obtain⟨m,k,o⟩:=r;cases o with
  |true=>
   have:=X.1 rfl
   have q:(bdB op neg g n (d-2) (k,true)).2=(k,true):=by
    cases n with
    |zero=>rw[bdB];exact a _ _
    |succ n=>rw[bdB];simp
   simp only[q];exact tB
  |false=>
   have L:¬(l-1-1<x.1\/d-1<x.2):=fun h=>by have:=X.2 h;cases this
   obtain rfl:=P rfl;obtain⟨i,T⟩:=f (d-2) (l-1-1-x.1) U U;refine⟨i.Q ?_,fun h=>(T h).Q ?_⟩
   ·simp only;omega
   ·simp only;omega
def PQ{f:Fml}(h:BU shQ f):∀a∈f.args,BU shQ a:=(allF_iff.1 h).2
mutual
def Gl:∀(f:Fml)(neg:Bool),BU shQ f->1<=(xtF f neg).1/\1<=(xtF f neg).2
 | .mk op nm v b args,neg,h=>by
  have hs:=(allF_iff.1 h).1;obtain⟨q1,q2⟩:=K2 args (op==4||op==7) neg (PQ h);rw[xtF]
  split
  ·exact⟨by decide,by decide⟩
  simp only[shQ,CN,Fml.op,Fml.bound,Fml.args,Fml.val,Fml.name,AZ]at hs;have hb:0<=b:=FO hs.1.1.2;have ha:=hs.1.1.1.1.1.2
  have hn:op=4\/op=13\/op=14->args.length=1:=fun e=>by
   unfold Am at ha;rw[AG U,AG U,AG U]at ha;simpa using ha
  unfold xtN;generalize xtL (op==4||op==7) args neg=r at q1 q2⊢;simp only;by_cases e4:op=4
  ·rw[AJ e4,AJ e4];have:=q2 (by have:=hn (Or.inl e4);omega);omega
  rw[AG e4,AG e4];by_cases el:DI op=true
  ·rw[AJ el,AG (by intro h;simp[DI]at el;omega)];omega
  rw[AG el];by_cases eb:op=13\/op=14
  ·rw[AJ eb,AJ eb];have:=q2 (by have:=hn (Or.inr eb);omega);have hp:=H2 this.1 (show(1:Int)<=b+1 by omega) U U;omega
  rw[AG eb,AG eb];omega
def K2:∀(L:LF)(t neg:Bool),(∀a∈L,BU shQ a)->(0<=(xtL t L neg).1/\0<=(xtL t L neg).2)/\(1<=L.length->1<=(xtL t L neg).1/\1<=(xtL t L neg).2)
 | [],_,_,_=>by rw[xtL];exact⟨⟨by decide,by decide⟩,fun h=>by simp at h⟩
 |a::L,t,neg,h=>by
  obtain⟨h1,h2⟩:=Gl a (neg !=t) (h a O);obtain⟨⟨h3,h4⟩,_⟩:=K2 L false neg (fun x hx=>h x (by simp[hx]));rw[xtL];simp only;omega
end
mutual
def PN:∀(f:Fml)(neg:Bool)(d l:Int),BU shQ f->0<=l->l<1000->XtQ (fmB f neg d (l,false)).2 l d (xtF f neg)
 | .mk op nm v b args,neg,d,l,h,h0,h1=>by
  have hs:=(allF_iff.1 h).1;have hk:=PQ h;simp only[shQ,CN,Fml.op,Fml.bound,Fml.args,Fml.val,Fml.name,AZ]at hs hk;have hb:0<=b:=FO hs.1.1.2;have ha:=hs.1.1.1.1.1.2
  have hn:op=4\/op=13\/op=14\/DI op=true->∃a,args=[a]:=fun e=>by
   unfold Am at ha;rw[AG (by simp[DI]at e;omega),AG (by simp[DI]at e;omega),AG (by simp[DI]at e;omega)]at ha;simp only[BD]at ha
   match args,ha with
   | [a],_=>exact⟨a,rfl⟩
  rw[fmB,xtF];simp only[D6,Dh];by_cases e4:op=4
  ·obtain⟨a,rfl⟩:=hn (Or.inl e4);have:=PN a (!neg) d l (hk a O) h0 h1;have hp:=Gl a (!neg) (hk a O);rw[AJ e4,AG U,fm0,show(op==4||op==7)=true by simp[e4],xtL,xtL,show(neg !=true)= !neg by simp];unfold xtN XtQ;rw[AJ e4,AJ e4];obtain⟨t1,t2⟩:=this;refine⟨t1.Q ?_,fun h=>(t2 h).Q ?_⟩
   ·simp only;omega
   ·have:=mt t1.2 (by rw[h];exact CX);simp only;omega
  rw[AG e4];by_cases e3:op=3/\neg=true
  ·rw[AJ e3,AJ e3];simp only[KF];by_cases c1:l<1\/d<1
   ·have:(decide (l<1)||decide (d<1))=true:=by simpa using c1
    simp only[this,DN];exact tB
   have c1':(decide (l<1)||decide (d<1))=false:=by simpa using c1
   simp only[c1',D6,Dh,KF];by_cases c2:l-1<1\/d-1<1
   ·have:(decide (l-1<1)||decide (d-1<1))=true:=by simpa using c2
    simp only[this,DN];exact tB
   have c2':(decide (l-1<1)||decide (d-1<1))=false:=by simpa using c2
   simp only[c2',D6,Dh];exact⟨⟨fun h=>(by cases h),fun h=>by simp only at h;omega⟩,fun _=>by simp only;omega⟩
  rw[AG e3,AG e3];by_cases eb:op=13\/op=14
  ·obtain⟨a,rfl⟩:=hn U;have ih:=fun d l h0 h1=>PN a neg d l (hk a O) h0 h1;have hp:=Gl a neg (hk a O);rw[AJ eb,show(op==4||op==7)=false by simp;omega,xtL,xtL,show(neg !=false)=neg by simp];have:=Ys (op:=op) (neg:=neg) (g:=fm0 [a] neg) hp (fun d l h0 h1=>by rw[fm0];exact ih d l h0 h1) (fun d l=>by rw[iK]) b.toNat d l h0 h1;have eb0:((b.toNat:Nat):Int)=b:=Int.toNat_of_nonneg hb;rw[eb0]at this;unfold xtN XtQ;have el:DI op=false:=by simp[DI];omega
   rw[AG e4,el,AG CX,AJ eb,AG e4,AJ eb];obtain⟨t1,t2⟩:=this;have z1:(xtF a neg).1+0=(xtF a neg).1:=Int.add_zero _;have z2:max (xtF a neg).2 0=(xtF a neg).2:=by omega
   simp only[z1,z2]at t1 t2⊢;generalize (xtF a neg).1*(b+1)=y at t1 t2⊢;refine⟨t1.Q ?_,fun h=>(t2 h).Q ?_⟩
   ·omega
   ·have:=mt t1.2 (by rw[h];exact CX);omega
  rw[AG eb];simp only[KF];by_cases c1:l<1\/d<1
  ·have:(decide (l<1)||decide (d<1))=true:=by simpa using c1
   simp only[this,DN];refine⟨⟨fun _=>?_,fun _=>rfl⟩,fun h=>by cases h⟩;have:=Gl (.mk op nm v b args) neg h;rw[xtF,AG e3]at this;omega
  have c1':(decide (l<1)||decide (d<1))=false:=by simpa using c1
  simp only[c1',D6,Dh];have e47:(op==4||op==7)=(op==7):=by simp[e4]
  have hq:=K2 args (op==7) neg hk;rw[e47];unfold xtN XtQ;rw[AG e4,AG e4,AG eb,AG eb];by_cases el:DI op=true
  ·obtain⟨a,rfl⟩:=hn (Or.inr (Or.inr (Or.inr el)));have hq:=hq.2 O;rw[AJ el,AJ el];unfold lnB;simp only[KF];by_cases c2:l-1<1\/d-1<1
   ·have:(decide (l-1<1)||decide (d-1<1))=true:=by simpa using c2
    simp only[this,DN,RE];exact⟨⟨fun _=>by omega,fun _=>trivial⟩,fun h=>by cases h⟩
   have c2':(decide (l-1<1)||decide (d-1<1))=false:=by simpa using c2
   simp only[c2',D6,Dh];obtain⟨t1,t2⟩:=Sb [a] (op==7) neg (d-1) (l-1-1) hk U U U;refine⟨t1.Q ?_,fun h=>(t2 h).Q ?_⟩
   ·omega
   ·have:=mt t1.2 (by rw[h];exact CX);omega
  ·rw[AG el,AG el];simp only;obtain⟨t1,t2⟩:=Sb args (op==7) neg (d-1) (l-1) hk U U U;refine⟨t1.Q ?_,fun h=>(t2 h).Q ?_⟩
   ·omega
   ·have:=mt t1.2 (by rw[h];exact CX);omega
def Sb:∀(L:LF)(t neg:Bool)(d l:Int),(∀a∈L,BU shQ a)->0<=d->0<=l->l<1000->XtQ (fmL t L neg d (l,false)).2 l d (xtL t L neg)
 | [],_,_,d,l,_,hd,h0,_=>by
  rw[fmL,xtL];exact⟨⟨fun h=>(by cases h),fun h=>by simp only at h;omega⟩,fun _=>by simp only;omega⟩
 |a::L,t,neg,d,l,h,hd,h0,h1=>by
  obtain⟨t1,t2⟩:=PN a (neg !=t) d l (h a O) h0 h1;obtain⟨p1,p2⟩:=Gl a (neg !=t) (h a O);have⟨⟨q1,q2⟩,_⟩:=K2 L false neg (fun x hx=>h x (by simp[hx]));have ih:=fun l h0 h1=>Sb L false neg d l (fun x hx=>h x (by simp[hx])) hd h0 h1;rw[fmL,xtL];simp only;generalize fmB a (neg !=t) d (l,false)=r at t1 t2⊢;generalize xtF a (neg !=t)=x at t1 t2 p1 p2⊢;obtain⟨r1,k,o⟩:=r;cases o with
  |true=>
   have:=t1.1 rfl;simp only[RE];exact tB
  |false=>
   have g3:¬(l<x.1\/d<x.2):=fun h=>by have:=t1.2 h;cases this
   obtain rfl:=t2 rfl;obtain⟨i1,i2⟩:=ih (l-x.1) U U;refine⟨i1.Q ?_,fun h=>(i2 h).Q ?_⟩
   ·simp only;omega
   ·simp only;omega
end
def qH(f:Fml)(neg:Bool):xtF f neg=if f.op=3/\neg=true then(2,2)else xtN f.op f.bound (xtL (f.op==4||f.op==7) f.args neg):=by
 cases f;rw[xtF];rfl
def Rq:∀(args:LF)(k:Nat)(x:Fml)(t neg:Bool),args[k]?=some x->
  xtL t (args.take (k+1)) neg=((xtL t (args.take k) neg).1+(xtF x (neg !=(t&&k==0))).1,max (xtL t (args.take k) neg).2 (xtF x (neg !=(t&&k==0))).2)
 | [],k,x,t,neg,h=>by cases h
 |a::l,0,x,t,neg,h=>by
  cases h;simp only[Ln,Ke,xtL,JB];simp only[beq_self_eq_true,Rs];constructor<;>omega
 |a::l,k+1,x,t,neg,h=>by
  have n:=Rq l k x false neg rT;have e:(t&&(k+1==0))=(false&&k==0):=by simp
  simp only[Ln,xtL,n,e,JB];constructor<;>omega
mutual
def Iu:∀(f:Fml)(neg:Bool),BU shQ f->(xtF f neg).1<=1000/\(xtF f neg).2<=20*(szF f:Int)
 | .mk op nm v b args,neg,h=>by
  have hs:=(allF_iff.1 h).1;obtain⟨q1,q2⟩:=PY args (op==4||op==7) neg (PQ h);obtain⟨⟨q3,q4⟩,_⟩:=K2 args (op==4||op==7) neg (PQ h);simp only[shQ,CN,Fml.op,Fml.bound,Fml.args,Fml.val,Fml.name,AZ]at hs;have hb:0<=b:=FO hs.1.1.2;have hb9:b<=9:=by have:=FO hs.1.2;split at this<;>omega
  rw[xtF,szF]
  split
  ·exact⟨by decide,by simp only;omega⟩
  unfold xtN;simp only;refine⟨by omega,?_⟩
  split
  ·omega
  ·split<;>omega
def PY:∀(L:LF)(t neg:Bool),(∀a∈L,BU shQ a)->(xtL t L neg).1<=1000*(L.length:Int)/\(xtL t L neg).2<=20*(szL L:Int)
 | [],_,_,_=>by rw[xtL];simp[szL]
 |a::L,t,neg,h=>by
  obtain⟨h1,h2⟩:=Iu a (neg !=t) (h a O);obtain⟨h3,h4⟩:=PY L false neg (fun x hx=>h x (by simp[hx]));rw[xtL,szL,C9];simp only;omega
end
def mn{f:Fml}(s:Fy f=true)(N:KQ f=true)(E:BU shQ f):(Fc f).2=0↔(xtF f false).1<=60/\(xtF f false).2<=20:=by
 obtain⟨Z, -⟩:=PN f false 20 60 E U U;unfold Fc;rw[s,N];simp only[OS,DN];by_cases h:(fmB f false 20 (60,false)).2.2=true
 ·rw[AJ h];have:=Z.1 h;exact⟨fun h=>absurd h rI,fun h=>by omega⟩
 ·rw[AG h];have:=mt Z.2 h;exact⟨fun _=>by omega,fun _=>rfl⟩
end Go.Proofs.YtjbocjodncbogaaGreatDoor
