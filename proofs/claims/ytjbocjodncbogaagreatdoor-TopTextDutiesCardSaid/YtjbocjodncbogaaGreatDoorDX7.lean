/- TopTextDuties, part 7 of 15: lemmas. Conditions: none. -/
import Derived.Test.YtjbocjodncbogaaGreatDoorDX6
import Derived.Test.YtjbocjodncbogaaGreatDoorShq
namespace Go.Proofs.YtjbocjodncbogaaGreatDoor
open Go.RowKit Go.Proofs.Tryz
set_option linter.unusedVariables false
set_option linter.defProp false
section
variable {mk:Prop}[MK mk]
def Xw:∀l m:LF,szL (l++m)=szL l+szL m
 | [],m=>by simp[szL]
 |a::l,m=>by rw[Ee,szL,szL,Xw l m];omega
def Yh(a:Fml):∀l:LF,szL (Gw a l)<=szF a+szL l
 | []=>by simp[Gw,szL]
 |c::l=>by
  have:=Yh a l;unfold Gw
  split
  ·simp only[szL];omega
  ·split
   ·simp only[szL];omega
   ·simp only[szL];omega
def SJ:∀l:LF,szL (Dl l)<=szL l
 | []=>AO _
 |a::l=>by
  have Z:=Yh a (Dl l);have W:=SJ l;show szL (Gw a (Dl l))<=szF a+szL l;omega
def O8(op:Int):∀l:LF,szL (l.flatMap (Fl op))<=szL l
 | []=>AO _
 |a::l=>by
  have W:=O8 op l;rw[GZ,Xw]
  have Z:szL (Fl op a)<=szF a:=by
   unfold Fl
   split
   ·rw[Bn];omega
   ·split
    ·simp[szL]
    ·simp[szL]
  simp only[szL];omega
def oL{op:Int}(h:op=5\/op=6)(l:LF):szF (GT op l)<=szL l+1:=by
 rw[In h];have Z:=SJ (l.flatMap (Fl op));have W:=O8 op l;cases DL op l with
 |true=>simp[En,szF,szL]
 |false=>
  simp only[D6,Dh];rw[J1];generalize Dl (l.flatMap (Fl op))=d at Z;cases Fg d with
  |true=>simp[En,szF,szL]
  |false=>
   match d,Z with
   | [],_=>simp[En,szF,szL]
   | [a],Z=>simp only[szL]at Z;simp only[D6,Dh];omega
   |a::c::d,Z=>show szL (a::c::d)+1<=_;omega
def SK{l:LF}{k:Nat}(h:k<l.length):szF (l.getD k Ad)<=szL l:=by
 rw[Ce,AU h];exact Ci (E9 h)
def cO{op v:Int}{b:LU}{l:LF}(G:Am op l.length=true):szF (Dr op b v l)<=szL l+1:=by
 by_cases a:op=5\/op=6
 ·unfold Dr;rw[AJ a];exact oL a l
 have H:szF (.mk op b v 0 l)<=szL l+1:=AO _;by_cases B:op=8
 ·subst B;have N:l.length=1:=by simpa[Am]using G
  have:=@SK l 0 U;rw[Kk];split
  ·omega
  ·exact H
 by_cases k:op=9
 ·subst k;have N:l.length=2:=by simpa[Am]using G
  have:=@SK l 1 U;rw[Kl];split
  ·omega
  ·exact H
 by_cases F:op=10
 ·subst F;have N:l.length=2:=by simpa[Am]using G
  have:=@SK l 1 U;rw[Kf];split
  ·omega
  ·exact H
 rw[Km a B k F];exact H
def SI(g:Fml->Fml):∀l:LF,(∀a∈l,szF (g a)<=szF a)->szL (l.map g)<=szL l
 | [],_=>AO _
 |a::l,h=>by
  have Z:=h a O;have W:=SI g l fun c T=>h c rR;simp only[EG,szL];omega
def RP:∀{f:Fml},Sh f->szF (Ba f)<=szF f
 | .mk op nm v b args,h=>by
  obtain⟨_,W,R⟩:=sh_iff.1 h;rw[Im];refine Az (cO (by rw[Es];exact W.2.1)) ?_;have:=SI Ba args fun a G=>RP (R a G);show _<=szL args+1;omega
def lZ(x:Vl):∀f:Fml,szF (C4 x f)=szF f
 | .mk op nm v b args=>by
  rw[Rw]
  have:∀l:LF,(∀a∈l,szF (C4 x a)=szF a)->szL (l.map (C4 x))=szL l:=by
   intro l
   induction l with
   |nil=>intro _;rfl
   |cons a l ih=>intro N;rw[EG,szL,szL,N a O,ih fun c T=>N c rR]
  show szL (args.map (C4 x))+1=szL args+1;rw[this args fun a _=>lZ x a]
def Pf:∀f:Fml,dpF f<=szF f
 | .mk op nm v b args=>by
  have:dpL args<=szL args:=dpL_le.2 fun a G=>Az (Pf a) (Ci G);show dpL args+1<=szL args+1;omega
mutual
def isB(k:LU->Int->Bool):Fml->Bool
 | .mk op nm v _ args=>(if op=3 then k nm v else true)&&isL k args
def isL(k:LU->Int->Bool):LF->Bool
 | []=>true
 |a::l=>isB k a&&isL k l
end
def XU{k:LU->Int->Bool}:∀{l:LF},isL k l=true↔∀a∈l,isB k a=true
 | []=>by simp[isL]
 |a::l=>by rw[isL,AZ,XU];simp
def is_iff{k:LU->Int->Bool}{op v b:Int}{l:LU}{args:LF}:isB k (.mk op l v b args)=true↔(op=3->k l v=true)/\∀a∈args,isB k a=true:=by
 rw[isB,AZ,XU];by_cases h:op=3
 ·rw[AJ h];simp[h]
 ·rw[AG h];simp[h]
def Sd(k:LU->Int->Bool){op:Int}(h:op=1\/op=2):isB k (En op)=true:=by rcases h with rfl|rfl<;>rfl
def mX{k:LU->Int->Bool}{op:Int}(h:op=5\/op=6){l:LF}(N:∀c∈l,isB k c=true):isB k (GT op l)=true:=by
 obtain⟨H,y,A,f,g⟩:=Ja h;rw[In h];cases DL op l with
 |true=>exact Sd k f
 |false=>
  simp only[D6,Dh];rw[J1]
  have x:∀a∈Dl (l.flatMap (Fl op)),isB k a=true:=by
   intro a G;rw[mem_dist,Ib]at G;obtain⟨c,T,G⟩:=G;have L:=N c T;unfold Fl at G
   split at G
   ·obtain⟨o,j,v,b,i⟩:=c;exact(is_iff.1 L).2 a G
   ·split at G
    ·cases G
    ·have:a=c:=by simpa using G
     subst this;exact L
  generalize Dl (l.flatMap (Fl op))=d at x;cases Fg d with
  |true=>exact Sd k f
  |false=>
   match d,x with
   | [],_=>exact Sd k g
   | [a],x=>exact x a O
   |a::c::d,x=>exact is_iff.2 ⟨fun e=>by omega,x⟩
def Vu{k:LU->Int->Bool}:∀{f:Fml},Sh f->isB k f=true->isB k (Ba f)=true
 | .mk op nm v b args,h,hk=>by
  obtain⟨_,W,R⟩:=sh_iff.1 h;obtain⟨d,m⟩:=is_iff.1 hk
  have n:∀a∈args.map Ba,isB k a=true:=fun a G=>by
   obtain⟨c,T,rfl⟩:=By.1 G;exact Vu (R c T) (m c T)
  rw[Im];by_cases l:op=5\/op=6
  ·unfold Dr;rw[AJ l];exact mX l n
  have H:isB k (.mk op nm v 0 (args.map Ba))=true:=is_iff.2 ⟨d,n⟩
  have y:∀i,i<args.length->isB k ((args.map Ba).getD i Ad)=true:=fun i g=>by
   have X:i<(args.map Ba).length:=by rw[Es];exact g
   rw[Ce,AU X];exact n _ (E9 X)
  have G:=W.2.1;by_cases B:op=8
  ·subst B;have N:args.length=1:=by simpa[Am]using G
   rw[Kk];split
   ·exact y 0 U
   ·exact H
  by_cases e:op=9
  ·subst e;have N:args.length=2:=by simpa[Am]using G
   rw[Kl];split
   ·exact y 1 U
   ·exact H
  by_cases F:op=10
  ·subst F;have N:args.length=2:=by simpa[Am]using G
   rw[Kf];split
   ·exact y 1 U
   ·exact H
  rw[Km l B e F];exact H
def R3{k:LU->Int->Bool}(x:Vl):∀{f:Fml},isB k f=true->isB k (C4 x f)=true
 | .mk op nm v b args,hk=>by
  obtain⟨d,m⟩:=is_iff.1 hk;rw[Rw];refine is_iff.2 ⟨fun e=>?_,fun a G=>?_⟩
  ·rw[To x v _ _ U];exact d e
  ·obtain⟨c,T,rfl⟩:=By.1 G;exact R3 x (m c T)
end
section
variable {mk:Prop}[MK mk]
end
section
variable {mk:Prop}[MK mk]
def SlAt.pf{ok:Nat->Prop}{w:World}{a:Option Addr}{n c:Nat}{l:LF}{k:Nat}{x:Fml}(h:SlAt fmlR ok w (.slice a n c) l)(V:l[k]?=some x):∃b o,a=some ⟨b,o,none⟩/\PF ok w b (o+k*5) x:=by
 obtain⟨Z,g,L,e,i,j⟩:=h;cases e;have C:=(Ah.1 V).1;obtain⟨d,f⟩:∃d,L[k]?=some d:=⟨_,AU (by rw[j.1];exact C)⟩;obtain⟨b,o,rfl,S,T⟩:=i.recs j (sz:=5) rfl f C;have K:=j.2 k d x f V;exact⟨b,o,rfl,S,d,K.1,T,K.2⟩
def Gq(f:Fml):Bool:=match f.args with
 |a::_=>decide (a.op=3)
 | []=>false
def JX(x:Nd):Bool:=((Be x.1.op).loose&&Ej x.1&& !((Be x.1.op).future&&x.2))&&(if x.1.op=4 then Gq x.1 else true)
def M9(f:Fml):Bool:=(CW false f).all JX
def XF(w:World)(b o:Nat)(f:Fml)(hf:PF AL w b o f)(z:GF w)(hK:KY w)(hN:10<=w.heap.size)(hd:dpF f<=5000)(hz:szF f<=1000000):Fn Zp 153 [.pointer (sn b o)] w fun u w'=>u=.bool (M9 f)/\Ext w w':=by
 have a1:=hf.lt;refine HN func153 rfl ntmps153 nlr rD (go ?_);refine Ai (fun L R=>go ?_);have z2:=R.size;have X:Blk L w.heap.size 4 [.bool false]:=R.D;have m:=R.E;have a0:PF (fun b=>b≠w.heap.size) L b o f:=(a1.E m (fun _ _=>by simp)).mono fun x V=>by have:=V.2;omega
 refine gC (Of L b o) ?_;rintro _ w4⟨rfl,c⟩;refine go ?_;refine Np JX rfl rD rfl (X.E c.E O) c.D (a0.E c.E (fun _ _=>by simp)) (z.ext (m.Q c.E)) U hd (fun l q o' x i W b1=>?_) (fun W kW p F=>?_)
 ·refine go ?_;refine⟨rfl,fun H Z V S=>?_⟩;have B:=(m.Q c.E).Q Z;have Q:=z.ext B;refine go ?_;have c0:=V.opc;refine gC (MJ H x.op Q) ?_;rintro _ W3⟨rfl,e3⟩;refine go ?_;refine CL (cs:=DO (Be x.op)) rfl rfl rF (Jw _) (fun P I=>go ?_);have j:=I.D;have n:=e3.Q I.E;have C:JX (x,i)=(((Be x.op).loose&&Ej x&& !((Be x.op).future&&i))&&(if x.op=4 then Gq x else true)):=rfl;have a8:=D8 x.args;have b0:=Bn x;have a4:=U5 P q o' x ((V.E n (fun _ _=>by simp)).mono fun _ _=>trivial) (Q.ext n) (hK.E (B.Q n) O) U
  have a5:x.op=4->Ej x=true->x.args.length=1:=fun A d=>by
   unfold Ej at d;rw[A]at d;simp[Be,F0,formsL,HT]at d;omega
  rw[C];clear C;generalize Be x.op=y at j⊢;obtain⟨xl,xm,xv,xb,xn,xp,K,xo⟩:=y;cases xo with
  |false=>
   refine go ?_;refine AW (v:=.bool false) rfl rfl rfl (S.E n O) O (fun g E=>go ?_);exact⟨rfl,(n).any.Q E.E (fun _ h _=>h),E.D⟩
  |true=>
   refine go ?_;refine AD a4 rfl ?_;rintro _ N⟨rfl,s⟩;have k:=n.Q s;cases d:Ej x with
   |false=>
    exact uE
   |true=>
   replace j:=j.E s O;by_cases T:K=true/\i=true
   ·obtain⟨rfl,rfl⟩:=T;exact uE
   have a9:(!(K&&i))=true:=by cases K<;>cases i<;>simp_all
   have a6:=V.E k (fun _ _=>by simp);obtain⟨aa,cc,_,q0,_,_,_,q4,qa⟩:=a6.all;cases K<;>cases i
   case true.true=>simp at T
   all_goals
    refine go ?_;by_cases A:x.op=4
    ·have a2:=a5 A d
     obtain⟨a,G⟩:∃a,x.args=[a]:=by
      match hxa:x.args,a2 with
      | [a],_=>exact⟨a,rfl⟩
     obtain⟨a7,b2,rfl,a3⟩:=qa 0 a (by rw[G];rfl);have q5:=a3.opc;have M:Gq x=decide (a.op=3):=by unfold Gq;rw[G]
     by_cases D:a.op=3
     ·rw[AJ A,M,BE D];refine go ?_;exact⟨rfl,k⟩
     ·rw[AJ A,M,BC D];refine go ?_;refine AW (v:=.bool false) rfl rfl rfl (S.E k O) O (fun g E=>go ?_);exact⟨rfl,k.any.Q E.E (fun _ h _=>h),E.D⟩
    ·rw[AG A];refine go ?_;exact⟨rfl,k⟩
 ·have z4:=c.size;unfold M9;have t:Ext w W:=(m.Q c.E).E kW (fun x V=>by simp at V;omega);cases C:(CW false f).all JX with
  |true=>
   rw[AJ rfl];refine go ?_;refine AW (v:=.bool true) rfl rfl rfl p O (fun N r=>go ?_);refine GI ((r.E.block _ (FM.1 F).1 rE).Q F) fun w9 e s9=>?_;exact Et (CV rfl ((r.D.E e rE).cell (o:=0) rfl) ⟨rfl,(t.E r.E (fun x V=>by simp at V;omega)).E e (fun x V=>by simp at V;omega)⟩)
  |false=>
   rw[AG O];refine go ?_;refine GI F fun w9 e s9=>?_;exact Et (CV rfl ((p.E e rE).cell (o:=0) rfl) ⟨rfl,t.E e (fun x V=>by simp at V;omega)⟩)
def DP(f:Fml):Bool:=decide (szF f<=400)&&decide (dpF f<=60)&&M9 f
def ND(f:Fml):Bool:=decide (szF f<=60)&&decide (dpF f<=20)&&M9 f
def Vz(w:World)(b o:Nat)(f:Fml)(K:PF AL w b o f)(z:GF w)(G:KY w)(L:10<=w.heap.size):Fn Zp 99 [.pointer (sn b o)] w fun u w'=>u=.bool (DP f)/\Ext w w':=by
 refine AM func99 rfl ntmps99 ?_;refine gC (RD w b o f 400 60 U U (K.lt.mono fun _ h=>h.2)) ?_;rintro _ Q⟨rfl,d⟩;unfold DP;cases hsz:(decide (szF f<=400)&&decide (dpF f<=60))with
 |false=>
  exact tR
 |true=>
  simp at hsz;refine gC (XF Q b o f (K.E d (fun _ _=>by simp)) (z.ext d) (G.E d O) (Az L d.size) U U) ?_;rintro _ a⟨rfl,m⟩;exact uL
def aq(w:World)(v:Value)(f:Fml)(K:FAt AL w v f)(z:GF w)(G:KY w)(c:10<=w.heap.size):Fn Zp 295 [v] w fun u w'=>u=.bool (ND f)/\Ext w w':=by
 obtain⟨k,rfl,e,b⟩:=K.cells;refine AM func295 rfl ntmps295 (go ?_);refine Ac (L:=k) rfl (fun o I=>go ?_);have a:=I.E;have t:PF AL o w.heap.size 0 f:=⟨trivial,k,e,I.D.cells,K.ext a⟩;refine gC (RD o w.heap.size 0 f 60 20 U U (t.lt.mono fun _ h=>h.2)) ?_;rintro _ Q⟨rfl,d⟩;unfold ND;cases hsz:(decide (szF f<=60)&&decide (dpF f<=20))with
 |false=>
  refine gR ?_;exact⟨rfl,a.Q d⟩
 |true=>
  simp at hsz;refine gC (XF Q w.heap.size 0 f (t.E d (fun _ _=>by simp)) (z.ext (a.Q d)) (G.E (a.Q d) O) (Az c (a.Q d).size) U U) ?_;rintro _ g⟨rfl,m⟩;refine gR ?_;exact⟨rfl,(a.Q d).Q m⟩
end
section
variable {mk:Prop}[MK mk]
end
section
variable {mk:Prop}[MK mk]
end
section
variable {mk:Prop}[MK mk]
end
section
variable {mk:Prop}[MK mk]
end
section
variable {mk:Prop}[MK mk]
end
section
variable {mk:Prop}[MK mk]
def Ei(l:List Sgn):Int:=if Bo l then BR l else 0
def az(w:World)(c:LV):Fn Zp 183 [.agg c.toArray] w fun v w'=>v=.bool true/\Ext w w':=by
 refine AM func183 rfl ntmps183 (go ?_);refine Ac (L:=c) rfl (fun Q D=>?_);refine gR ?_;exact⟨rfl,D.E⟩
set_option maxHeartbeats 800000 in
def ik(w:World)(v:Value)(l:List Sgn)(h:SlAt sgnR AL w v l)(hK:KY w)(hN:10<=w.heap.size):Fn Zp 182 [v,.func (.func 183) #[] #[]] w fun u w'=>u=iV (Ei l)/\Ext w w':=by
 have a3:=h.lt (show(0:Nat)<3 by omega);obtain⟨a,c,rfl,b0⟩:=h.len;refine HN func182 rfl ntmps182 nlr rD (go ?_);refine Ac (L:=[.slice a l.length c]) rfl (fun w1 n1=>?_);refine Ac (L:=[.func (.func 183) #[] #[]]) rfl (fun w2 n2=>go ?_);have z1:=n1.size;have z2:=n2.size;have k2:Ext w w2:=n1.E.Q n2.E;have q:=n1.D.E n2.E O;have p:=n2.D;refine gC (Lu w2 _ l (h.ext k2) (hK.E k2 O)) ?_;rintro _ i⟨rfl,k3⟩;have G:Ei l=if Bo l then BR l else 0:=rfl;cases hv:Bo l with
 |false=>
  rw[hv]at G;refine go ?_;exact Qw rfl ⟨by rw[G];rfl,k2.Q k3⟩
 |true=>
 rw[hv]at G;refine go ?_;refine Ai (fun w4 n4=>?_);refine AW (v:=iV 1) rfl rfl rfl n4.D O (fun Z p5=>go ?_);have z3:=k3.size;have z4:=n4.size;have z5:=p5.size;have a6:Ext i Z:=n4.E.E p5.E O;have a1:=k3.Q a6;replace q:=q.E a1 O;replace p:=p.E a1 O;have M:Blk Z i.heap.size 3 [iV 1]:=p5.D;have k5:=k2.Q a1;refine gC (UJ Z _ rfl) ?_;rintro _ y⟨rfl,E⟩;refine go ?_;have z6:=E.size;replace q:=q.E E.E O;replace p:=p.E E.E O;replace M:=M.E E.E O;have m:=E.D;have k6:=k5.Q E.E;refine Me [] [pt Z.heap.size] rfl rD fun a4 a8 a9 w7 I T s7 m7 r7=>?_;replace q:=q.E T O;replace p:=p.E T O;replace M:=M.E T O;replace m:=m.E T O;have e7:=k6.Q T;obtain⟨a0,s⟩:∃a0:Nat->World->Prop,∀k W,a0 k W↔(Ext w W/\Blk W i.heap.size 3 [iV (BR (l.take k))]/\Blk W w.heap.size 22 [.slice a l.length c]/\Blk W w1.heap.size 237 [.func (.func 183) #[] #[]]/\a4 W/\W.heap[y.heap.size]?=some (.deferred (some []))/\w7.heap.size<=W.heap.size):=⟨_,fun _ _=>Ho⟩
 have H:S0 (.func (.yield (y.heap.size+1)) #[] #[]) [i.heap.size,y.heap.size+1] w7.heap.size l a0 (fun _=>False):=by
  refine⟨⟨_,rfl⟩,fun C k S=>?_,fun{k W x}C d=>?_⟩
  ·obtain⟨P,g,j,Q,n,r,j7⟩:=(s _ _).1 C;exact(s _ _).2 ⟨P.E k (fun x d=>by have:=S x d;omega),g.E k (fun h=>by have:=S _ h;omega),j.E k (fun h=>by have:=S _ h;omega),Q.E k (fun h=>by have:=S _ h;omega),I.rdy n k (fun h=>by have:=S _ h;omega),(k.block _ (by have:=I.lt n;omega) (fun h=>by have:=S _ h;omega)).Q r,Az j7 k.size⟩
  ·obtain⟨P,g,j,Q,n,r,j7⟩:=(s _ _).1 C;have b2:=I.lt n;have a2:=(Ah.1 d).1;obtain⟨p1,p2,p3,p4,p5,p6⟩:=Qd hv d;refine YldP.mono (R:=fun v W'=>v=.bool true/\Keep [i.heap.size,y.heap.size+1] W W'/\a0 (k+1) W') (Y:=fun _ _=>False) (I.round n rfl ?_) (fun v W' h=>⟨h.2.1,.inl ⟨h.1,h.2.2⟩⟩) (fun _ _ h=>h);refine go ?_;refine⟨n,fun W2 F b7 y2=>?_⟩;replace g:=g.E F rE;replace j:=j.E F rE;replace Q:=Q.E F rE;replace r:=(F.block _ U O).Q r;have z:=P.E F rE;have a7:Keep [i.heap.size,y.heap.size+1] W W2:=F.mono (fun x d=>by simp at d;simp[d]);obtain⟨_,b,o,rfl,hb,B⟩:=(a3.ext z).sig d;refine go ?_;refine Ab (rd 0 5 (.alt 5 .done .stop)) AX rD (fun X f ed=>⟨Ext X,?_,?_⟩)
   ·exact sY
   have f1:∀V,Ext X V->CC V w1.heap.size 0 (.func (.func 183) #[] #[]):=fun V e=>(Q.E (f.Q e) O).cell rfl;have D:∀V,Ext X V->CC V w.heap.size 0 (.slice (sn b o) l.length c):=fun V e=>(j.E (f.Q e) O).cell rfl;have f3:∀V,Ext X V->Cells V b (o+k*3) (Fh x):=fun V e=>(B.E (f.Q e) O);refine D_R rfl rfl (fun W t=>AQ rfl (f1 W t) Z3) (D_R rfl rfl (fun W t=>AQ rfl (D W t) Z3) (D_R rfl rfl (fun W t=>AS rfl Z3) ?_));refine D_R rfl rfl (fun V hV=>by refine DZ (k:=k) rfl rfl rfl a2 ?_;exact AB ⟨rfl,rfl,rfl⟩) ?_;refine D_R (v:=.agg (Fh x).toArray) rfl rfl (fun V hV=>by refine Al (L:=Fh x) rfl rfl (f3 V hV) ?_;exact AB ⟨rfl,rfl,rfl⟩) ?_;refine D_E rfl ?_;refine Bg (v1:=[]) (v2:=[]) (vs:=[.agg (Fh x).toArray]) rfl (az X (Fh x)) rfl ?_;rintro _ W3⟨rfl,N⟩;refine AB ⟨Ext X,fun _ e=>e,N,?_⟩;refine go ?_;have q3:=a7.Q (f.Q N) (fun x d=>by cases d);replace g:=g.E (f.Q N) O;replace j:=j.E (f.Q N) O;replace Q:=Q.E (f.Q N) O;replace r:=((f.Q N).block _ U O).Q r;replace z:=z.Q (f.Q N);replace y2:=I.bsy y2 (f.Q N) O;replace B:=B.E (f.Q N) O;clear f1 D f3 N f;refine Ab (rd 1 5 (.alt 0 (.read 6 (.alt 7 .done .stop)) .stop)) AX rD (fun X f ed=>⟨Keep [i.heap.size] X,?_,?_⟩)
   ·exact tK
   have D:∀V,Keep [i.heap.size] X V->CC V w.heap.size 0 (.slice (sn b o) l.length c):=fun V e=>((j.E f O).E e rE).cell rfl;have f3:∀V,Keep [i.heap.size] X V->V.cell? ⟨b,o+k*3+2,none⟩=some (iV x.size):=fun V e=>((B.E f O).E e (by have:=hb.2;simp;omega)) 2 _ rfl;refine D_R rfl rfl (fun W t=>AQ rfl (D W t) Z3) (D_R rfl rfl (fun W t=>AS rfl Z3) ?_);refine D_R rfl rfl (fun V hV=>by refine DZ (k:=k) rfl rfl rfl a2 ?_;exact AB ⟨rfl,rfl,rfl⟩) ?_;refine gE ?_;refine AQ rfl ((g.E f O).cell rfl) ?_;refine AB ⟨Keep [i.heap.size] X,fun _ e=>e,Keep.refl _ _,?_⟩;refine gE ?_;refine AW (v:=iV (BR (l.take k)*x.size)) rfl rfl rfl (g.E f O) O (fun W5 pp=>?_);refine AB ⟨Keep [i.heap.size] X,fun _ e=>e,pp.E,?_⟩;refine go ?_;have A:Keep [i.heap.size] W3 W5:=f.any.Q pp.E (fun x d _=>d);have y3:=I.bsy y2 A rE;have q5:Keep [i.heap.size,y.heap.size+1] W W5:=q3.Q A (fun x d _=>by simp at d;simp[d]);replace j:=j.E A rE;replace Q:=Q.E A rE;replace r:=(A.block _ (by have:=q3.size;omega) rE).Q r;replace z:=z.E A rE;have g:Blk W5 i.heap.size 3 [iV (BR (l.take k)*x.size)]:=pp.D;have b3:=q5.size;refine go ?_;refine M4 y3 fun W6 K z6 y6=>⟨rfl,q5.Q K (fun x d _=>by simp at d;simp[d]),(s _ _).2 ⟨z.E K rE,?_,j.E K rE,Q.E K rE,y6,(K.block _ U O).Q r,by omega⟩⟩;rw[Nz d];exact g.E K rE
 have b4:w7.heap.size=y.heap.size+2:=s7;refine Fn.mono (TQ w7 Z.heap.size (.slice a l.length c) l H m (((a3.ext e7)).mono fun x d=>by have:=d.2;simp;omega) hv ((s _ _).2 ⟨e7,M,q,p,r7,m7,AO _⟩) rE) ?_;rintro v w8⟨_,C|hh⟩
 case inr=>exact hh.elim
 obtain⟨P,g,j,Q,n,r,j7⟩:=(s _ _).1 C;have b1:=I.lt n;refine .inl ⟨n,fun w9 k9 s9=>?_⟩;clear s H C I r7 m7 m;rw[Co]at g;replace g:=g.E k9 rE;replace r:=(k9.block _ U O).Q r;have e9:=P.E k9 rE;refine go ?_;refine GI r fun b6 a5 b5=>?_;exact Qw rfl ⟨by rw[G];rfl,e9.E a5 rE⟩
def Qa(w:World)(v:Value)(l:List Sgn)(h:SlAt sgnR AL w v l)(G:KY w)(L:10<=w.heap.size):Fn Zp 122 [v] w fun u w'=>u=iV (Ei l)/\Ext w w':=by
 obtain⟨a,c,rfl,A⟩:=h.len;refine AM func122 rfl ntmps122 ?_;refine gC (ik w _ l h G L) ?_;rintro _ Q⟨rfl,d⟩;exact tR
def D0(l:List Sgn)(x:Int)(i:Nat):Int:=match l[i]? with
 |some s=>x/BR (l.take i)%s.size
 |none=>0
def MM{l:List Sgn}(h:Bo l=true):Ei l=BR l/\BR l<=64:=by
 unfold Ei;rw[AJ h];exact⟨rfl,(If h).2.2.2⟩
set_option maxHeartbeats 1600000 in
def Rn(w:World)(v:Value)(l:List Sgn)(x:Int)(i:Nat)(h:SlAt sgnR AL w v l)(hK:KY w)(hN:10<=w.heap.size)(hv:Bo l=true)(a2:0<=x)(b7:x<Ei l)(hi:i<l.length):
  Fn Zp 185 [v,iV x,iV (i:Int)] w fun u w'=>u=iV (D0 l x i)/\Ext w w':=by
 have a1:=h.lt (show(0:Nat)<3 by omega);obtain⟨a,c,rfl,b4⟩:=h.len;obtain⟨s,hs⟩:∃s,l[i]?=some s:=⟨_,AU hi⟩;have b1:D0 l x i=x/BR (l.take i)%s.size:=by unfold D0;rw[hs]
 obtain⟨b9,c0⟩:=MM hv;refine HN func185 rfl ntmps185 nlr rD (go ?_);refine Ac (L:=[.slice a l.length c]) rfl (fun w1 n1=>?_);refine Ac (L:=[iV x]) rfl (fun w2 n2=>?_);refine Ac (L:=[iV (i:Int)]) rfl (fun f n3=>?_);refine Ai (fun w4 Z=>go ?_);have z1:=n1.size;have z2:=n2.size;have z3:=n3.size;have z4:=Z.size;have q:=n1.D.E (n2.E.Q (n3.E.Q Z.E)) O;have m:=n2.D.E (n3.E.Q Z.E) O;have t:=n3.D.E Z.E O;have p:Blk w4 f.heap.size 3 [iV 0]:=Z.D;have k4:Ext w w4:=((n1.E.Q n2.E).Q n3.E).Q Z.E;refine Ab (rd 0 5 (.alt 5 (rd 6 12 .done) .stop)) AX rD (fun X g ed=>⟨Ext X,?_,?_⟩)
 ·exact sY
 have f1:∀V,Ext X V->CC V w.heap.size 0 (.slice a l.length c):=fun V e=>(q.E (g.Q e) O).cell rfl;have f2:∀V,Ext X V->CC V w1.heap.size 0 (iV x):=fun V e=>(m.E (g.Q e) O).cell rfl;have f3:∀V,Ext X V->CC V w2.heap.size 0 (iV (i:Int)):=fun V e=>(t.E (g.Q e) O).cell rfl;refine D_R rfl rfl (fun W I=>AQ rfl (f2 W I) Z3) ?_;refine gE ?_;refine gC (Qa X _ l (h.ext (k4.Q g)) (hK.E (k4.Q g) O) (Az hN (k4.Q g).size)) ?_;rintro _ w5⟨rfl,k5⟩;refine AB ⟨Ext X,fun _ e=>e,k5,?_⟩;refine go ?_;have z:=g.Q k5;clear f1 f2 f3;replace q:=q.E z O;replace m:=m.E z O;replace t:=t.E z O;replace p:=p.E z O;have e5:=k4.Q z;refine gC (UJ w5 _ rfl) ?_;rintro _ B⟨rfl,K⟩;refine go ?_;have z5:=z.size;have z6:=K.size;replace q:=q.E K.E O;replace m:=m.E K.E O;replace t:=t.E K.E O;replace p:=p.E K.E O;have b6:=K.D;have e6:=e5.Q K.E;refine Me [] [pt w5.heap.size] rfl rD fun a6 b2 a5 A N T s7 m7 r7=>?_;replace q:=q.E T O;replace m:=m.E T O;replace t:=t.E T O;replace p:=p.E T O;replace b6:=b6.E T O;have e7:=e6.Q T;obtain⟨a0,E⟩:∃a0:Nat->World->Prop,∀k W,a0 k W↔(k<=i/\Ext w W/\Blk W f.heap.size 3 [iV 0]/\Blk W w.heap.size 22 [.slice a l.length c]/\Blk W w1.heap.size 3 [iV x]/\Blk W w2.heap.size 3 [iV (i:Int)]/\a6 W/\W.heap[B.heap.size]?=some (.deferred (some []))/\A.heap.size<=W.heap.size):=⟨_,fun _ _=>Ho⟩;obtain⟨D,hD⟩:∃D:World->Prop,∀W,D W↔(Ext w W/\Blk W f.heap.size 3 [iV (D0 l x i)]/\a5 .ret W/\W.heap[B.heap.size]?=some (.deferred (some []))/\A.heap.size<=W.heap.size):=⟨_,fun _=>Ho⟩
 have H:S0 (.func (.yield (B.heap.size+1)) #[] #[]) [f.heap.size,B.heap.size+1] A.heap.size l a0 D:=by
  refine⟨⟨_,rfl⟩,fun C k F=>?_,fun{k W y}C hy=>?_⟩
  ·obtain⟨j0,j1,j,P,Q,G,n,r,j7⟩:=(E _ _).1 C;exact(E _ _).2 ⟨j0,j1.E k (fun x d=>by have:=F x d;omega),j.E k (fun h=>by have:=F _ h;omega),P.E k (fun h=>by have:=F _ h;omega),Q.E k (fun h=>by have:=F _ h;omega),G.E k (fun h=>by have:=F _ h;omega),N.rdy n k (fun h=>by have:=F _ h;omega),(k.block _ (by have:=N.lt n;omega) (fun h=>by have:=F _ h;omega)).Q r,Az j7 k.size⟩
  ·obtain⟨j0,j1,j,P,Q,G,n,r,j7⟩:=(E _ _).1 C;have b5:=N.lt n;have b0:=(Ah.1 hy).1;obtain⟨p1,p2,p3,p4,p5,p6⟩:=Qd hv hy;refine YldP.mono (R:=fun v W'=>Keep [f.heap.size,B.heap.size+1] W W'/\((v=.bool true/\a0 (k+1) W')\/(v=.bool false/\D W'))) (Y:=fun _ _=>False) (N.round n rfl ?_) (fun v W' h=>h) (fun _ _ h=>h);refine go ?_;refine⟨n,fun W2 M c3 y2=>?_⟩;replace j:=j.E M rE;replace P:=P.E M rE;replace Q:=Q.E M rE;replace G:=G.E M rE;replace r:=(M.block _ U O).Q r;have e2:=j1.E M rE;have a4:Keep [f.heap.size,B.heap.size+1] W W2:=M.mono (fun x d=>by simp at d;simp[d]);refine go ?_;have ci:=G.cell (o:=0) rfl;by_cases a9:k=i
   ·subst a9;rw[hs]at hy;cases hy;refine go ?_;obtain⟨_,b,o,rfl,hb,a8⟩:=(a1.ext e2).sig hs;have b3:0<=x/BR (l.take k)/\x/BR (l.take k)<=x:=⟨Int.ediv_nonneg a2 U,Int.ediv_le_self _ a2⟩;refine Ab (rd 0 9 (.alt 9 .done .stop)) AX rD (fun X g ed=>⟨Keep [f.heap.size] X,?_,?_⟩)
    ·exact tK
    have g1:∀V,Keep [f.heap.size] X V->CC V w.heap.size 0 (.slice (sn b o) l.length c):=fun V e=>((P.E g O).E e rE).cell rfl;have g2:∀V,Keep [f.heap.size] X V->CC V w1.heap.size 0 (iV x):=fun V e=>((Q.E g O).E e rE).cell rfl;have g3:∀V,Keep [f.heap.size] X V->CC V w2.heap.size 0 (iV (k:Int)):=fun V e=>((G.E g O).E e rE).cell rfl;have g4:∀V,Keep [f.heap.size] X V->V.cell? ⟨b,o+k*3+2,none⟩=some (iV s.size):=fun V e=>((a8.E g O).E e (by have:=hb.2;simp;omega)) 2 _ rfl;(refine D_R rfl rfl (fun W I=>AQ rfl (g2 W I) Z3) (D_R rfl rfl (fun W I=>AS rfl Z3) ?_)<;>(apply D_R rfl rfl;(intro W I;refine Ym rfl rfl U U rQ ?_;exact Z3))<;>refine D_R rfl rfl (fun W I=>AQ rfl (g1 W I) Z3) (D_R rfl rfl (fun W I=>AQ rfl (g3 W I) Z3) ?_))
    refine D_R rfl rfl (fun V hV=>by refine DZ (k:=k) rfl rfl rfl b0 ?_;exact AB ⟨rfl,rfl,rfl⟩) ?_;refine go ?_;refine gE ?_;refine AW (v:=iV (x/BR (l.take k)%s.size)) rfl rfl rfl (j.E g O) O (fun W5 pp=>?_);refine AB ⟨Keep [f.heap.size] X,fun _ e=>e,pp.E,?_⟩;refine go ?_;have kk:Keep [f.heap.size] W2 W5:=g.any.Q pp.E (fun x d _=>d);have y3:=N.bsy y2 kk rE;have q5:Keep [f.heap.size,B.heap.size+1] W W5:=a4.Q kk (fun x d _=>by simp at d;simp[d]);replace r:=(kk.block _ U rE).Q r;replace e2:=e2.E kk rE;have j:Blk W5 f.heap.size 3 [iV (x/BR (l.take k)%s.size)]:=pp.D;have hs5:=q5.size;refine go ?_;refine Qn y3 fun W6 S z6 y6=>⟨q5.Q S (fun x d _=>by simp at d;simp[d]),.inr ⟨rfl,(hD _).2 ⟨e2.E S rE,?_,y6,(S.block _ U O).Q r,by omega⟩⟩⟩;rw[b1];exact j.E S rE
   ·refine go ?_;refine M4 y2 fun W6 S z6 y6=>⟨a4.Q S (fun x d _=>by simp at d;simp[d]),.inl ⟨rfl,(E _ _).2 ⟨by omega,e2.E S rE,j.E S rE,P.E S rE,Q.E S rE,G.E S rE,y6,(S.block _ U O).Q r,by omega⟩⟩⟩
 have b8:A.heap.size=B.heap.size+2:=s7;refine Fn.mono (TQ A w5.heap.size (.slice a l.length c) l H b6 (((a1.ext e7)).mono fun x d=>by have:=d.2;simp;omega) hv ((E _ _).2 ⟨by omega,e7,p,q,m,t,r7,m7,AO _⟩) rE) ?_;rintro v w8⟨_,C|hd⟩
 ·obtain⟨j0,_⟩:=(E _ _).1 C;omega
 obtain⟨j1,j,n,r,j7⟩:=(hD _).1 hd;refine .inr ⟨.ret,n,fun w9 k9 s9=>?_⟩;clear E H hD hd N r7 m7 b6;replace j:=j.E k9 rE;replace r:=(k9.block _ U O).Q r;have e9:=j1.E k9 rE;unfold LC;simp only;refine go ?_;refine GI r fun c2 a3 c1=>?_;have a7:=(j.E a3 rE).cell (o:=0) rfl;exact Et (CV rfl a7 ⟨rfl,e9.E a3 rE⟩)
end
def RH:=@List.range_succ
section
variable {mk:Prop}[MK mk]
def IQ(S:List Sgn)(x:Int)(n:Nat):LV:=(List.range n).map fun i=>iV (D0 S x i)
def N1(S:List Sgn)(x:Int)(n:Nat):IQ S x (n+1)=IQ S x n++[iV (D0 S x n)]:=by
 unfold IQ;rw[RH,FB];rfl
def VJ(S:List Sgn)(x:Int)(n:Nat):(IQ S x n).length=n:=by simp[IQ]
def O3:(madeCells (iV 0).cells (1*1)).toList=[iV 0]:=by kernel_rfl
def MN{w:World}{B e size n:Nat}{v:Value}{xs:LV}(h:w.ownsRow B e size v n xs):v.oneCell'=true:=by
 rcases h.2 with⟨rfl,_⟩|⟨g,u,C,rfl,_⟩<;>rfl
end
section
variable {mk:Prop}[MK mk]
end
section
variable {mk:Prop}[MK mk]
end
section
variable {mk:Prop}[MK mk]
def vlS(S:List Sgn)(x:Int):Vl:=fun l=>match S.findIdx? (fun y=>decide (y.name=l))with
 |some i=>D0 S x i
 |none=>0
def knS(S:List Sgn)(l:LU)(v:Int):Bool:=match S.findIdx? (fun y=>decide (y.name=l))with
 |some i=>match S[i]? with
  |some s=>decide (v<s.size)
  |none=>false
 |none=>false
def XY{S:List Sgn}{l:LU}{v:Int}(h:knS S l v=true):∃i s,S.findIdx? (fun y=>decide (y.name=l))=some i/\S[i]?=some s/\v<s.size:=by
 unfold knS at h
 split at h
 ·rename_i i hi
  split at h
  ·rename_i s hs;exact⟨i,s,hi,hs,by simpa using h⟩
  ·cases h
 ·cases h
def Kv{w:World}{B e n:Nat}{v:Value}{L:LV}(h:w.ownsRow B e 1 v n L):∃a c,v=.slice a n c/\∀i u,L[i]?=some u->∃g o,a=some ⟨g,o,none⟩/\CC w g (o+i) u:=by
 obtain⟨a,c,rfl,_,_,_,A⟩:=BG (ok:=AL) h fun _ _=>trivial;refine⟨a,c,rfl,fun i u d=>?_⟩;rcases A with f|⟨b,o,e,_,T⟩
 ·have:=(Ah.1 d).1;have:=h.1;omega
 ·exact⟨b,o,e,T i u d⟩
end
def HC:=@List.all_append
section
variable {mk:Prop}[MK mk]
def Kg(op:Int):(Be op).past=CR op/\(Be op).future=FJ op/\(Be op).loose=E0 op:=by
 by_cases h:F0 op=true
 ·have Z:1<=op/\op<20:=by simpa[F0]using h
  have r:Be op=formsL.getD op.toNat Io:=by unfold Be;rw[AJ h]
  rw[r];have:op=1\/op=2\/op=3\/op=4\/op=5\/op=6\/op=7\/op=8\/op=9\/op=10\/op=11\/op=12\/op=13\/op=14\/op=15\/op=16\/op=17\/op=18\/op=19:=by omega
  rcases this with rfl|rfl|rfl|rfl|rfl|rfl|rfl|rfl|rfl|rfl|rfl|rfl|rfl|rfl|rfl|rfl|rfl|rfl|rfl<;>exact⟨rfl,rfl,rfl⟩
 ·have Z:¬(1<=op/\op<20):=by simpa[F0]using h
  have r:Be op=Io:=by unfold Be;rw[AG h]
  rw[r];refine⟨?_,?_,?_⟩
  ·show false=CR op
   symm;simp[CR];omega
  ·show false=FJ op
   symm;simp[FJ];omega
  ·show false=E0 op
   symm;simp[E0];omega
def VT(i:Bool)(op:Int)(l:LU)(v b:Int)(args:LF):BQ i (.mk op l v b args)=(E0 op&&CN op l v b args.length&& !(i&&FJ op)&&(if op=4 then Gq (.mk op l v b args)else true)&&Gp (i||CR op) args):=by
 cases args<;>simp only[BQ]<;>rfl
def iZ(op:Int)(l:LU)(v b:Int)(args:LF)(i:Bool)(p:args.length<=1000000):JX (.mk op l v b args,i)=(E0 op&&CN op l v b args.length&& !(i&&FJ op)&&(if op=4 then Gq (.mk op l v b args)else true)):=by
 obtain⟨_,W,R⟩:=Kg op;unfold JX;simp only;rw[MQ (.mk op l v b args) p];show((Be op).loose&&CN op l v b args.length&& !((Be op).future&&i)&&(if op=4 then Gq (.mk op l v b args)else true))=_;rw[W,R,Bool.and_comm (FJ op) i]
def UW:∀(n:Nat)(f:Fml)(i:Bool),szF f<=n->n<=1000000->(CW i f).all JX=BQ i f
 |0,f,i,hz,_=>by rw[Bn]at hz;omega
 |n+1,.mk op nm v b args,i,hz,hn=>by
  rw[Bn]at hz;have d:szL args+1<=n+1:=hz
  have N:∀(l:LF)(j:Bool),(∀a∈l,a∈args)->(B9 j l).all JX=Gp j l:=by
   intro l
   induction l with
   |nil=>intro j _;rfl
   |cons a l ih=>
    intro j r;have Z:=Ci (r a O);rw[B9,HC,UW n a j U U,Gp,ih j fun c T=>r c rR]
  rw[CW,Gc,iZ _ _ _ _ _ _ (by have:=D8 args;omega),N args _ (fun a h=>h),VT,(Kg op).1]
def OY{f:Fml}(p:szF f<=1000000):M9 f=BQ false f:=UW _ f false p (AO _)
end
def MD:=@Bool.false_and
section
variable {mk:Prop}[MK mk]
def df{op v b:Int}{l:LU}{n:Nat}(h:CN op l v b n=true):(op=4\/op=13\/op=14->1<=n)/\0<=b/\b<=9∧ -9<=v/\v<=9:=by
 simp only[CN,AZ,BD,Am]at h;obtain⟨⟨⟨⟨⟨⟨⟨_,_⟩,R⟩,c⟩,Z⟩,p⟩,A⟩,_⟩:=h;refine⟨fun a=>?_,p,?_,by omega,?_⟩
 ·rcases a with rfl|rfl|rfl<;>(simp at R;omega)
 ·split at A<;>omega
 ·split at Z
  ·omega
  ·split at Z<;>omega
def YW{op v b:Int}{l:LU}{args:LF}(h:CN op l v b args.length=true)(G:KR args=true):okN (.mk op l v b args)=true:=by
 obtain⟨Z,W,R,A,a⟩:=df h;simp only[okN,AZ,BD];refine⟨⟨⟨⟨⟨?_,W⟩,R⟩,A⟩,a⟩,G⟩
 split
 ·rename_i h;simpa using Z h
 ·rfl
def R8:∀{l:LF},(∀a∈l,okN a=true)->KR l=true
 | [],_=>rfl
 |a::l,h=>by rw[KR,h a O,R8 fun c T=>h c rR];rfl
def YX:∀(n:Nat)(f:Fml)(i:Bool),szF f<=n->n<=1000000->(CW i f).all (fun x=>Ej x.1)=true->okN f=true
 |0,f,i,hz,_,_=>by rw[Bn]at hz;omega
 |n+1,.mk op nm v b args,i,hz,hn,h=>by
  rw[Bn]at hz;have d:szL args+1<=n+1:=hz
  have N:∀(l:LF)(j:Bool),(∀a∈l,a∈args)->(B9 j l).all (fun x=>Ej x.1)=true->∀a∈l,okN a=true:=by
   intro l
   induction l with
   |nil=>intro j _ _ a G;cases G
   |cons a l ih=>
    intro j r h;have Z:=Ci (r a O);rw[B9,HC,AZ]at h;intro c T;rcases BI.1 T with rfl|T
    ·exact YX n c j U U h.1
    ·exact ih j (fun c T=>r c rR) h.2 c T
  rw[CW,Gc,AZ]at h;have Z:=h.1;simp only at Z;rw[MQ _ (by simp only[Fml.args];have:=D8 args;omega)]at Z;exact YW Z (R8 (N args _ (fun a h=>h) h.2))
def VI{f:Fml}(h:Fy f=true):szF f<=60/\dpF f<=20/\okN f=true:=by
 simp only[Fy,AZ,BD]at h;exact⟨h.1.1,h.1.2,YX _ f false (AO _) U h.2⟩
def VW:∀(n:Nat)(f:Fml)(i:Bool),szF f<=n->BQ i f=true->okN f=true
 |0,f,i,hz,_=>by rw[Bn]at hz;omega
 |n+1,.mk op nm v b args,i,hz,h=>by
  rw[Bn]at hz;have j:szL args+1<=n+1:=hz;obtain⟨_,W,_,A⟩:=HI h;refine YW W (R8 fun a G=>?_);have:=Ci G;exact VW n a _ U (A a G)
def Ur{f:Fml}(h:DP f=true):szF f<=400/\dpF f<=60/\BQ false f=true/\okN f=true:=by
 simp only[DP,AZ,BD]at h;obtain⟨⟨Z,W⟩,R⟩:=h;rw[OY U]at R;exact⟨Z,W,R,VW _ f false (AO _) R⟩
def Fc(f:Fml):Fml×Int:=if(Fy f&&KQ f)=true then(if(fmB f false 20 (60,false)).2.2=true then(Ad,2)else((fmB f false 20 (60,false)).1,0))else(Ad,30)
def Y8(f:Fml):Fml:=if DP f=true then(if(fmB f true 60 (400,false)).2.2=true then Ad else(fmB f true 60 (400,false)).1)else Ad
def not_ok(w:World)(v:Value)(f:Fml)(K:FAt AL w v f)(z:GF w)(G:KY w)(hN:10<=w.heap.size):
  Fn Zp 38 [v] w fun u w'=>Ext w w'/\FAt (fun b=>w.heap.size<=b) w' u (Y8 f):=by
 obtain⟨c,rfl,a1,x⟩:=K.cells;obtain⟨Z,x1,x2,x3,j,rfl⟩:=An a1;have t:=K.lt;refine AM func38 rfl ntmps38 (go ?_);refine Ac (L:=[Z,x1,x2,x3,j]) rfl (fun w1 D=>?_);refine Ai (L:=zero5) (fun o m=>go ?_);have z1:=D.size;have z2:=m.size;have Q:=D.E.Q m.E;have M:Blk o w.heap.size 37 [Z,x1,x2,x3,j]:=D.D.E m.E O;have h:=m.D;have a4:PF AL o w.heap.size 0 f:=⟨trivial,_,rfl,M.cells,(t.ext Q).mono fun _ _=>trivial⟩;refine AD (Vz o _ _ f a4 (z.ext Q) (G.E Q O) (Az hN Q.size)) rfl ?_;rintro _ S⟨rfl,i⟩;have z3:=i.size;unfold Y8;cases hl:DP f with
 |false=>
  rw[AG CX];refine go ?_;refine Aa (cs:=zero5) rfl rfl rfl (Ak rfl) (h.E i O) rK (fun V E=>go ?_);exact Ar rfl rfl rfl E.D.cells ⟨(Q.Q i).E E.E rE,FAt.leaf _ _ 0 [] 0 0⟩
 |true=>
  rw[AJ rfl];obtain⟨hz,hd,a8,a3⟩:=Ur hl;refine go ?_;refine Ac (L:=[iV 400,.bool false]) rfl (fun B I=>?_);have N:=(Q.Q i).Q I.E;have z5:=I.size;have A:Ext o B:=i.Q I.E;have a0:=M.E A O;have a5:PF (fun b=>b≠S.heap.size) B w.heap.size 0 f:=⟨by omega,_,rfl,a0.cells,(t.ext N).mono fun b hb=>by have:=hb.2;omega⟩;refine gC (Vq S.heap.size _ B w.heap.size 0 f true 60 (400,false) (AO _) U a5 a3 U U ⟨by simp,by simp,by simp⟩ I.D) ?_;rintro u r⟨q,s,W⟩;obtain⟨k,rfl,a2,x⟩:=W.cells;obtain⟨C,F,X,T,H,rfl⟩:=An a2;obtain⟨R,hR⟩:∃R,R=fmB f true 60 (400,false):=⟨_,rfl⟩;rw[<-hR]at s W⊢;obtain⟨g,l,ov⟩:=R;simp only at s W⊢;have z6:=q.size;refine Ai (L:=zero5) (fun w7 a=>?_);refine Aa (cs:=[C,F,X,T,H]) rfl rfl rfl x a.D rK (fun p P=>?_);have n:Ext r p:=a.E.E P.E O;have a7:=s.E n O;have a6:Blk p r.heap.size 37 [C,F,X,T,H]:=P.D;have e:Blk p w1.heap.size 37 zero5:=((h.E A O).E q rE).E n O;have d:Ext w p:=(N.E q rE).Q n;refine go ?_;cases ov with
  |true=>
   rw[AJ rfl];refine go ?_;refine Aa (cs:=zero5) rfl rfl rfl (Ak rfl) (e) rK (fun V E=>go ?_);exact Ar rfl rfl rfl E.D.cells ⟨d.E E.E rE,FAt.leaf _ _ 0 [] 0 0⟩
  |false=>
   rw[AG CX];refine go ?_;refine Aa (cs:=[C,F,X,T,H]) rfl rfl rfl x e rK (fun V E=>go ?_);exact Ar rfl rfl rfl E.D.cells ⟨d.E E.E rE,((W.ext n).E E.E (fun y hy hm=>by simp at hm;omega)).mono fun y hy=>by omega⟩
def Tx(w:World)(v:Value)(f:Fml)(K:FAt AL w v f)(z:GF w)(hK:KY w)(Z:10<=w.heap.size):
  Fn Zp 37 [v] w fun u w'=>∃c:Value,u=.tuple #[c,iV (Fc f).2]/\Ext w w'/\FAt (fun b=>w.heap.size<=b) w' c (Fc f).1:=by
 obtain⟨c,rfl,a2,x⟩:=K.cells;obtain⟨x0,x1,x2,x3,x4,rfl⟩:=An a2;have a4:=K.lt;refine AM func37 rfl ntmps37 (go ?_);refine Ac (L:=[x0,x1,x2,x3,x4]) rfl (fun w1 D=>?_);refine Ai (L:=zero5) (fun B o=>?_);have z1:=D.size;have z2:=o.size;have Q:=D.E.Q o.E;have P:Blk B w.heap.size 37 [x0,x1,x2,x3,x4]:=D.D.E o.E O;have h:=o.D;refine gC (Ui B _ f (K.ext Q) (z.ext Q) (hK.E Q O) (Az Z Q.size)) ?_;rintro _ w3⟨rfl,j⟩;have z3:=j.size;have N:=Q.Q j;have a7:=P.E j O;have i:=h.E j O;unfold Fc;cases hv:Fy f with
 |false=>
  rw[MD,AG CX];refine go ?_;refine Aa (cs:=zero5) rfl rfl rfl (Ak rfl) (i) rK (fun F E=>go ?_);exact Dp rfl rfl rfl E.D.cells ⟨_,rfl,N.E E.E rE,FAt.leaf _ _ 0 [] 0 0⟩
 |true=>
 rw[HE];obtain⟨hz,hd,a5⟩:=VI hv;refine gC (mH w3 _ f (K.ext N) (z.ext N) (Az Z N.size) U) ?_;rintro _ t⟨rfl,m⟩;have z4:=m.size;have S:=N.Q m;have a1:=i.E m O;cases hl:KQ f with
 |false=>
  rw[AG CX];refine go ?_;refine Aa (cs:=zero5) rfl rfl rfl (Ak rfl) (a1) rK (fun F E=>go ?_);exact Dp rfl rfl rfl E.D.cells ⟨_,rfl,S.E E.E rE,FAt.leaf _ _ 0 [] 0 0⟩
 |true=>
  rw[AJ rfl];refine go ?_;refine Ac (L:=[iV 60,.bool false]) rfl (fun C I=>?_);have V:=S.Q I.E;have z5:=I.size;have A:Ext B C:=(j.Q m).Q I.E;have a0:=P.E A O;have a6:PF (fun b=>b≠t.heap.size) C w.heap.size 0 f:=⟨by omega,_,rfl,a0.cells,(a4.ext V).mono fun b hb=>by have:=hb.2;omega⟩;refine gC (Vq t.heap.size _ C w.heap.size 0 f false 20 (60,false) (AO _) U a6 a5 U U ⟨by simp,by simp,by simp⟩ I.D) ?_;rintro u r⟨q,s,W⟩;obtain⟨k,rfl,a3,x⟩:=W.cells;obtain⟨G,H,X,T,M,rfl⟩:=An a3;obtain⟨R,hR⟩:∃R,R=fmB f false 20 (60,false):=⟨_,rfl⟩;rw[<-hR]at s W⊢;obtain⟨g,l,ov⟩:=R;simp only at s W⊢;have z6:=q.size;refine Ai (L:=zero5) (fun w7 a=>?_);refine Aa (cs:=[G,H,X,T,M]) rfl rfl rfl x a.D rK (fun p p8=>?_);have n:Ext r p:=a.E.E p8.E O;have a9:=s.E n O;have a8:Blk p r.heap.size 37 [G,H,X,T,M]:=p8.D;have e:Blk p w1.heap.size 37 zero5:=((h.E A O).E q rE).E n O;have d:Ext w p:=(V.E q rE).Q n;refine go ?_;cases ov with
  |true=>
   rw[AJ rfl];refine go ?_;refine Aa (cs:=zero5) rfl rfl rfl (Ak rfl) (e) rK (fun F E=>go ?_);exact Dp rfl rfl rfl E.D.cells ⟨_,rfl,d.E E.E rE,FAt.leaf _ _ 0 [] 0 0⟩
  |false=>
   rw[AG CX];refine go ?_;refine Aa (cs:=[G,H,X,T,M]) rfl rfl rfl x e rK (fun F E=>go ?_);exact Dp rfl rfl rfl E.D.cells ⟨_,rfl,d.E E.E rE,((W.ext n).E E.E (fun y hy hm=>by simp at hm;omega)).mono fun y hy=>by omega⟩
end
instance weakMK:MK False:=⟨trivial⟩
def KV:=@Array.getElem?_toList
def Jm:=@Array.getElem?_eq_getElem
def TL:=@Array.getElem?_append_left
section
open Go.Shelf Go.Sort
theorem iq{w w':World}(k:Ext w w'):∃q s,w'=grow (w.drewN q) s:=by
 refine⟨w'.drawn-w.drawn,w'.heap.extract w.heap.size w'.heap.size,?_⟩;have Z:=k.os;have W:=k.tape;have R:=k.output;have A:=k.drawn;have d:=k.size;have p:=k.block;obtain⟨c,g,b,s,a⟩:=w;obtain⟨e,h,f,V,T⟩:=w';simp only at Z W R A d p;subst Z W R;simp only[grow,World.drewN,World.mk.injEq,KG,true_and];refine⟨?_,by omega⟩;apply Array.ext_getElem?;intro i;rw[Array.getElem?_append];by_cases F:i<c.size
 ·rw[AJ F];exact p i F O
 ·rw[AG F];simp only[Array.getElem?_extract];by_cases X:i<e.size
  ·rw[AJ U];congr 1;omega
  ·rw[AG U];exact Le U
def Cel(ok:Nat->Prop)(w:World):Type:={p:LV×Fml//p.1.length=5/\szF p.2<=1000000/\FAt ok w (.agg p.1.toArray) p.2}
instance (ok:Nat->Prop)(w:World):Inhabited (Cel ok w):=⟨⟨(zero5,Ad),rfl,by decide,FAt.leaf ok w 0 [] 0 0⟩⟩
section
variable {ok:Nat->Prop}{w:World}
def Dm(x:Cel ok w):LV:=x.1.1
def Ff(x:Cel ok w):Fml:=x.1.2
theorem MU(x:Cel ok w):(Dm x).length=5:=x.2.1
theorem im(x:Cel ok w):∀v∈Dm x,v.oneCell'=true:=by
 obtain⟨c,e,_,h⟩:=x.2.2.2.cells;have:x.1.1=c:=by simpa using e
 unfold Dm;rw[this];exact h
theorem VY:∀{l:LF}{L:List (LV)},FsAt ok w L l->(∀x∈l,szF x<=1000000)->∃D:List (Cel ok w),D.map Dm=L/\D.map Ff=l
 | [],L,h,_=>⟨[],by have:=Dc (l:=L) (by simpa using h.1);simp[this],rfl⟩
 |x::l,[],h,_=>by have:=h.1;simp at this
 |x::l,c::L,h,hz=>by
  obtain⟨D,Z,W⟩:=VY (l:=l) (L:=L) ⟨by simpa using h.1,fun c T=>h.2.1 c rR,fun i c g T a=>h.2.2 (i+1) c g (by simpa using T) (by simpa using a)⟩ (fun y I=>hz y (by simp[I]));exact⟨⟨(c,x),h.2.1 c O,hz x O,h.2.2 0 c x rfl rfl⟩::D,congrArg (c:: ·) Z,congrArg (x:: ·) W⟩
theorem pG(D:List (Cel ok w)):FsAt ok w (D.map Dm) (D.map Ff):=by
 refine⟨by simp,fun c T=>?_,fun i c g T y=>?_⟩
 ·obtain⟨x,_,rfl⟩:=By.1 T;exact MU x
 ·rw[Cl]at T y;cases hx:D[i]? with
  |none=>rw[hx]at T;cases T
  |some x=>
   rw[hx]at T y;cases T;cases y;exact x.2.2.2
end
theorem Tv{α:Type}[Inhabited α](enc:α->LV)(Z:∀x,(enc x).length=5)(D:Array α):(flatK enc 5 D).toList=(D.toList.map enc).flatten:=by
 have b:((D.toList.map enc).flatten).length=D.size*5:=by rw[EL 5 _ (fun c T=>by obtain⟨x,_,rfl⟩:=By.1 T;exact Z x)];simp
 refine H1 fun t=>?_;by_cases P:t<D.size*5
 ·have a:t/5<D.size:=by omega
  have f:(flatK enc 5 D).toList[t]?=some (enc D[t/5]!)[t%5]! :=by
   have E:t<(flatK enc 5 D).size:=by simpa using P
   rw[KV,Jm E,<-get_flatK enc 5 D t P,getElem!_pos (flatK enc 5 D) t E]
  rw[f]
  symm
  have N:(enc D[t/5]!)[t%5]?=some (enc D[t/5]!)[t%5]! :=by
   have r:t%5<(enc D[t/5]!).length:=by rw[Z];omega
   rw[AU r,getElem!_pos (enc D[t/5]!) (t%5) r]
  have u:=Hc 5 (D.toList.map enc) (t/5) (t%5) (enc D[t/5]!) (enc D[t/5]!)[t%5]! (fun c T=>by obtain⟨x,_,rfl⟩:=By.1 T;exact Z x) (by rw[Cl,KV,Jm a,getElem!_pos D (t/5) a];rfl) N;rw[show t/5*5+t%5=t by omega]at u;exact u
 ·rw[EF rE,EF U]
theorem oJ{ok:Nat->Prop}{w:World}:SWO (ltOf fun(x y:Cel ok w)=>BO (Ff x) (Ff y)) where
 irrefl x:=by simp only[ltOf,Ec];exact Oz _
 trans x y z h1 h2:=by
  simp only[ltOf,BD]at h1 h2⊢;exact JD _ _ _ h1 h2
 ntrans x y z h1 h2:=by
  simp only[ltOf,Ec]at h1 h2⊢;intro R;have a:=MH (Ff x) (Ff y);by_cases v:BO (Ff x) (Ff y)=0
  ·rw[(Gf _ _).1 v]at R;exact h2 R
  ·exact h2 (JD _ _ _ U R)
theorem Wh{ok:Nat->Prop}{w:World}{g e:Nat}{C:Array Value}{D:Array (Cel ok w)}(y:w.heap[g]?=some (.cells C e (0,0)))(u:D.size*5<=C.size)(m:Nat)(s:Array Obj):
  Keep [g] w (sortWorldK Dm 5 w g 0 m D s)/\∃x:Array Value,(sortWorldK Dm 5 w g 0 m D s).heap[g]?=some (.cells x e (0,0))/\x.size=C.size/\x.toList.take (D.size*5)=(D.toList.map Dm).flatten:=by
 have z:g<w.heap.size:=(FM.1 y).1;have H:(sortWorldK Dm 5 w g 0 m D s).heap=w.heap.modify g (onCells (putCells id 0 (flatK Dm 5 D)))++s:=rfl;refine⟨⟨rfl,rfl,rfl,by rw[H];simp,fun b S V=>?_,fun h=>h.elim,Nat.le_add_right _ _⟩,putCells id 0 (flatK Dm 5 D) C,?_,by simp[putCells],?_⟩
 ·rw[H,TL (by simpa using S),P4,AG (by simp at V;omega)]
 ·rw[H,TL (by simpa using z),P4,AJ rfl,y];rfl
 ·rw[<-Tv Dm MU];refine H1 fun t=>?_;rw[Ed];by_cases P:t<D.size*5
  ·rw[AJ P];have E:t<(flatK Dm 5 D).size:=by simpa using P
   have T:t<C.size:=by omega
   simp only[putCells,KV,Array.getElem?_mapIdx,Jm T,GG];rw[AJ ⟨Sm _,by omega⟩,Jm E,Nat.sub_zero,getElem!_pos (flatK Dm 5 D) t E];rfl
  ·rw[AG P,EF rE]
def Srt(l:LF):Prop:=l.Pairwise fun a b=>¬BO b a<0
abbrev IU:Value:=.func (.func 208) #[] #[]
theorem nv(w:World)(B:Nat)(v:Value)(l:LF)(L:List (LV))(ok:Nat->Prop)(Z:w.ownsRow B 37 5 v l.length L.flatten)(W:FsAt ok w L l)
  (F:∀b,ok b->Unm w b/\b<w.heap.size/\v.ownBlock≠some b)(hz:∀x∈l,szF x<=1000000)(hn:l.length<4611686018427387904):
  Fn Zp 287 [v,IU] w fun u w'=>u=.tuple #[]/\Keep v.ownBlock.toList w w'/\∃z l',l'.Perm l/\Srt l'/\w'.ownsRow B 37 5 v l.length z.flatten/\FsAt ok w' z l':=by
 rcases Z.2 with⟨rfl,h0⟩|⟨g,I,N,rfl,hB,p,X,a2,o,ht⟩
 ·have S:=AnyF.slices_SortFunc_none (P:=Zp) Tryz.sortF none 0 IU w;change Calls Zp 287 _ _ _ at S;have hl:l=[]:=Dc h0;subst hl;refine Gg S ?_;rintro e w'⟨rfl,rfl⟩;exact⟨rfl,Keep.refl _ _,L,[],List.Perm.refl _,List.Pairwise.nil,Z,W⟩
 ·obtain⟨D,a1,Q⟩:=VY W hz;have q:D.length=l.length:=by rw[<-Q];simp
  have a5:g<w.heap.size:=(FM.1 p).1;have M:∀b,ok b->b∉[g]:=fun b d V=>by simp at V;exact(F b d).2.2 (by rw[V];rfl)
  have R:l.length*5<=N.size:=by rw[o];exact IY _ X
  have hH:HoldsK Dm 5 w g 0 D.toArray:=by
   intro j C;have A:j<l.length*5:=by simpa[q]using C
   have E:j<(flatK Dm 5 D.toArray).size:=C
   have f:(flatK Dm 5 D.toArray).toList[j]?=N.toList[j]?:=by
    rw[Tv Dm MU];show(D.map Dm).flatten[j]?=_;rw[a1,<-ht,Ed,AJ A]
   rw[KV,KV,Jm E]at f;constructor
   ·rw[Bs,getElem!_pos _ j E];simp only[World.cell?,p];exact f.symm
   ·simp[World.frozen?,p]
  have eg:∀H w,(callFunc 208 H).run Zp w=.ok (.enter 208 H) w:=enters_of func208 rD rfl
  have a3:CmpLays Zp 208 #[] (Dm (ok:=ok) (w:=w)) 5 (fun x y=>BO (Ff x) (Ff y)) g 0 D.toArray.size w:=by
   intro m s T a4 x y;obtain⟨K,_⟩:=Wh p (D:=T) (by rw[a4];simpa[q]using R) m s;have h:=Ng (sortWorldK Dm 5 w g 0 m T s) (.agg (Dm x).toArray) (.agg (Dm y).toArray) (Ff x) (Ff y) ok ok (x.2.2.2.E K M) (y.2.2.2.E K M) (.inl fun b d=>(F b d).1.eq (K.block b (F b d).2.1 (M b d))) x.2.2.1;refine Gg h ?_;intro e w' t;cases e with
   |returned u=>
    obtain⟨rfl,k⟩:=t;exact⟨rfl,iq k⟩
   |panicked ch=>exact t.elim
   |outgrown=>exact t.elim
  have S:=AnyQ.slices_SortFunc (P:=Zp) Tryz.sortF 5 Tryz.isAgg37 Tryz.sizeOf37 Dm MU im (fun x y=>BO (Ff x) (Ff y)) oJ 208 #[] g 0 I D.toArray w eg a3 hH a5 (by simpa[q]using hn);change Calls Zp 287 _ _ _ at S;have G:D.toArray.size=l.length:=by simpa using q
  rw[G]at S;refine Gg S ?_;rintro e w'⟨rfl,a,n,s,hp,E,rfl⟩;obtain⟨p1,_,p3⟩:=hp;have r:a.size=l.length:=by rw[p1,G]
  obtain⟨K,a0,g1,g2,g3⟩:=Wh p (D:=a) (by rw[r];exact R) n s
  have a8:a.toList.Perm D:=by
   have f:a.extract 0 l.length=a:=by rw[<-r];simp
   have e2:D.toArray.extract 0 l.length=D.toArray:=by rw[<-G];simp
   rw[f,e2]at p3;exact p3
  refine⟨rfl,K,a.toList.map Dm,a.toList.map Ff,by rw[<-Q];exact a8.map Ff,?_,⟨?_,.inr ⟨g,I,a0,rfl,hB,g1,X,a2,g2.Q o,?_⟩⟩,?_⟩
  ·unfold Srt;rw[List.pairwise_map,List.pairwise_iff_getElem];intro i j hi C a7;have a6:i<a.size:=by simpa using hi
   have A:j<a.size:=by simpa using C
   have h:=E i j (Sm _) a7 U;rw[getElem!_pos a j A,getElem!_pos a i a6]at h;simp only[ltOf,Ec]at h;simpa using h
  ·rw[EL 5 _ (fun c hc=>by obtain⟨x,_,rfl⟩:=By.1 hc;exact MU x)];simp[r]
  ·rw[<-r];exact g3
  ·exact(pG a.toList).E K M
end
def Bj:=@List.mem_singleton
def cpN(l:LF):Nat->LF
 |0=>[]
 |p+1=>cpN l p++if 0<p/\BO (l.getD p Ad) (l.getD (p-1) Ad)=0 then[]else[l.getD p Ad]
def Oa{l:LF}:∀p,p<=l.length->(∀i,0<i->i<p->BO (l.getD i Ad) (l.getD (i-1) Ad)≠0)->cpN l p=l.take p
 |0,_,_=>by simp[cpN]
 |p+1,hp,h=>by
  rw[cpN,Oa p U fun i v F=>h i v U,CT,AG (fun H=>h p H.1 U H.2)];have:l[p]?=some (l.getD p Ad):=by rw[Ce,AU (by omega:p<l.length)];rfl
  rw[this];rfl
def inc_snoc{x:Fml}:∀{l:LF},Inc (l++[x])↔Inc l/\∀a∈l,BO a x<0
 | []=>by simp[Inc]
 |c::l=>by
  rw[Ee,Inc,Inc,inc_snoc (l:=l)];constructor
  ·rintro⟨Z,W,R⟩
   exact⟨⟨fun d b=>Z d (by simp[b]),W⟩,fun a G=>by
    rcases BI.1 G with rfl|G
    ·exact Z x O
    ·exact R a G⟩
  ·rintro⟨⟨Z,W⟩,R⟩;refine⟨fun d b=>?_,W,fun a G=>R a (by simp[G])⟩;rcases DM.1 b with b|b
   ·exact Z d b
   ·obtain rfl:d=x:=by simpa using b
    exact R c O
def XK{l:LF}(E:Srt l):∀p,p<=l.length->Inc (cpN l p)/\∀x,x∈cpN l p↔x∈l.take p
 |0,_=>⟨trivial,by simp[cpN]⟩
 |p+1,hp=>by
  obtain⟨Z,W⟩:=XK E p U;have z:p<l.length:=by omega
  have y:∀i(F:i<l.length),l.getD i Ad=l[i]:=fun i F=>by rw[Ce,AU F];rfl
  have I:∀i j(F:i<l.length)(C:j<l.length),i<j->¬BO l[j] l[i]<0:=fun i j F C c=>(List.pairwise_iff_getElem.1 E) i j F C c;have v:l.take (p+1)=l.take p++[l[p]]:=by rw[CT,AU z];rfl
  rw[cpN,y p z];by_cases T:0<p/\BO l[p] (l.getD (p-1) Ad)=0
  ·rw[AJ T,Ch];refine⟨Z,fun x=>?_⟩;rw[W,v,DM,Bj];constructor
   ·exact .inl
   ·rintro(h|rfl)
    ·exact h
    ·rw[y (p-1) U]at T;have:=(Gf _ _).1 T.2;rw[this];exact List.mem_take_iff_getElem.2 ⟨p-1,by omega,rfl⟩
  ·rw[AG T];refine⟨inc_snoc.2 ⟨Z,fun a G=>?_⟩,fun x=>?_⟩
   ·obtain⟨i,F,rfl⟩:=List.mem_take_iff_getElem.1 ((W a).1 G);have X:i<p:=by omega
    have d:i<l.length:=by omega
    have K:p-1<l.length:=by omega
    have k:BO l[p] l[p-1]≠0:=fun e=>T ⟨by omega,by rw[y (p-1) K];exact e⟩;have g:=I (p-1) p K z U;have f:=MH l[p] l[p-1];have b:BO l[p-1] l[p]<0:=by omega
    by_cases B:i=p-1
    ·subst B;exact b
    ·have A:=I i (p-1) d K U;have D:=MH l[p-1] l[i];by_cases M:BO l[p-1] l[i]=0
     ·rw[<-(Gf _ _).1 M];exact b
     ·exact JD _ _ _ U b
   ·rw[DM,W,v,DM]
def il{l m:LF}(E:Srt l)(C:l.Perm m):cpN l l.length=Dl m:=by
 obtain⟨Z,W⟩:=XK E l.length (AO _);refine R1 Z (MX m) fun x=>?_;rw[W,mem_dist,Co,C.mem_iff]
def FAt.v5{ok:Nat->Prop}{w:World}{c:LV}{f:Fml}(h:FAt ok w (.agg c.toArray) f):∃a d g k b,c=[a,d,g,k,b]:=by
 obtain⟨j,e,Z,_⟩:=h.cells;have:c=j:=by simpa using e
 subst this;exact An Z
def FAt.one{ok:Nat->Prop}{w:World}{c:LV}{f:Fml}(h:FAt ok w (.agg c.toArray) f):oneC c:=by
 obtain⟨j,e,_,Z⟩:=h.cells;have:c=j:=by simpa using e
 rw[this];exact Z
abbrev eqV(I:Nat):Value:=.func (.func 289) #[] #[pt I]
def Yu(w:World)(I:Nat)(c d:LV)(f g:Fml)(ok:Nat->Prop)(K:FAt ok w (.agg c.toArray) f)(y:FAt ok w (.agg d.toArray) g)(o:∀b,ok b->Unm w b)(p:szF f<=1000000)(S:Blk w I 87 [IU]):
  Fn Zp 289 [.agg c.toArray,.agg d.toArray,pt I] w fun u w'=>u=.bool (decide (BO f g=0))/\Ext w w':=by
 obtain⟨e,i,l,k,j,rfl⟩:=K.v5;obtain⟨m,W,X,n,r,rfl⟩:=y.v5;have t:=K.lt;have v:=y.lt;refine AM func289 rfl ntmps289 (go ?_);refine Ac (L:=[e,i,l,k,j]) rfl (fun z D=>?_);refine Ac (L:=[m,W,X,n,r]) rfl (fun s R=>go ?_);have q:=D.D.E R.E O;have h:=R.D;have Q:=D.E.Q R.E;have x:=S.E Q O;refine go ?_;refine Bg (v1:=[]) (v2:=[]) (vs:=[.agg #[e,i,l,k,j],.agg #[m,W,X,n,r]]) rfl (Ng s _ _ f g _ _ (t.E Q (fun _ _=>by simp)) (v.E Q (fun _ _=>by simp)) (.inl fun b S=>(o b S.1).eq (Q.block b S.2 O)) p) rfl ?_;rintro _ A⟨rfl,a⟩;by_cases T:BO f g=0
 ·refine gR ?_;exact⟨by rw[BE T];rfl,Q.Q a⟩
 ·refine gR ?_;exact⟨by rw[BC T];rfl,Q.Q a⟩
def UA{w:World}{g e n p:Nat}{R:LV}{L:List (LV)}{c:LV}(S:Blk w g e R)(P:R.take (n*5)=L.flatten)(a:∀c∈L,c.length=5)(C:L[p]?=some c)(H:L.length=n):Cells w g (p*5) c:=by
 intro i u o;refine S.cell ?_;have Z:=Hc 5 L p i c u a C o;rw[<-P,Ed]at Z
 split at Z
 ·exact Z
 ·cases Z
def T9{w:World}{g e n p q:Nat}{R:LV}{L a:List (LV)}{c:LV}(S:Blk w g e (a.flatten++R.drop (q*5)))(V:a.flatten.length=q*5)(d:q<=p)(P:R.take (n*5)=L.flatten)(b:∀c∈L,c.length=5)(C:L[p]?=some c)(H:L.length=n):Cells w g (p*5) c:=by
 intro i u o;refine S.cell ?_;have Z:=Hc 5 L p i c u b C o;rw[<-P,Ed]at Z
 split at Z
 ·rw[EJ (by rw[V];omega),V,KX];rw[show q*5+(p*5+i-q*5)=p*5+i by omega];exact Z
 ·cases Z
def iD(L:List (LV))(Z:∀c∈L,c.length=5)(k:Nat):(L.take k).flatten=L.flatten.take (k*5):=by
 by_cases P:k<=L.length
 ·have e:L.flatten=(L.take k).flatten++(L.drop k).flatten:=by rw[<-FN,HB]
  have N:(L.take k).flatten.length=k*5:=by rw[EL 5 _ fun c T=>Z c (NZ T),DE,Ga P]
  rw[e,<-N,Kd]
 ·rw[GE U,GE (by rw[EL 5 L Z];omega)]
def FsAt.take{ok:Nat->Prop}{w:World}{L:List (LV)}{l:LF}(h:FsAt ok w L l)(k:Nat):FsAt ok w (L.take k) (l.take k):=by
 refine⟨by simp[h.1],fun c T=>h.2.1 c (NZ T),fun i c g T y=>?_⟩;rw[Ed]at T y
 split at T
 ·rename_i hi;rw[AJ hi]at y;exact h.2.2 i c g T y
 ·cases T
def FsAt.at{ok:Nat->Prop}{w:World}{L:List (LV)}{l:LF}(h:FsAt ok w L l){k:Nat}(P:k<l.length):∃f d g a j,L[k]?=some [f,d,g,a,j]/\l[k]?=some (l.getD k Ad)/\FAt ok w (.agg [f,d,g,a,j].toArray) (l.getD k Ad):=by
 have b:l[k]?=some (l.getD k Ad):=by rw[Ce,AU P];rfl
 have V:k<L.length:=by rw[h.1];exact P
 obtain⟨c,u⟩:∃c,L[k]?=some c:=⟨_,AU V⟩;have K:=h.2.2 k c _ u b;obtain⟨f,d,g,a,j,rfl⟩:=K.v5;exact⟨f,d,g,a,j,u,b,K⟩
def cU(w:World)(B:Nat)(v:Value)(l:LF)(L:List (LV))(ok:Nat->Prop)(c:Nat)(ho:w.ownsRow B 37 5 v l.length L.flatten)(A:FsAt ok w L l)
  (T:∀b,ok b->Unm w b/\b<w.heap.size/\v.ownBlock≠some b)(hz:∀x∈l,szF x<=1000000)(b0:Blk w c 87 [IU])(hc1:v.ownBlock≠some c):
  Fn Zp 288 [v,eqV c] w fun u w'=>Keep v.ownBlock.toList w w'/\u.ownBlock=v.ownBlock/\∃L',w'.ownsRow B 37 5 u (cpN l l.length).length L'.flatten/\FsAt ok w L' (cpN l l.length):=by
 obtain⟨p,n,z,hv,c2⟩:∃p n z,v=.slice p n z/\n=l.length:=by
  rcases ho.2 with⟨e,H⟩|⟨g,z,C,e,_⟩
  ·exact⟨_,_,_,e,H.symm⟩
  ·exact⟨_,_,_,e,rfl⟩
 have N:=A.2.1;have a0:=A.1;by_cases h2:l.length<2
 ·have Z:cpN l l.length=l:=by rw[Oa l.length (AO _) (fun i H hi=>by omega),Co]
  rw[Z];subst hv c2;refine AM func288 rfl ntmps288 ?_;refine gR ?_;exact⟨Keep.refl _ _,rfl,L,ho,A⟩
 ·rcases ho.2 with⟨e,H⟩|⟨g,c3,C,e,hB,hg,c9,b1,b7,P⟩
  ·omega
  subst e;cases hv;have a1:Blk w g 37 C.toList:=hg;have a9:∀b,ok b->b∉[g]:=fun b S hx=>by simp at hx;exact(T b S).2.2 (by rw[hx];rfl)
  have c4:c≠g:=fun e=>hc1 (by rw[e];rfl);have c5:=a1.lt;have a5:C.toList.length=z*5:=by simpa using b7
  have c8:z<=9223372036854775807:=by unfold maxLen at b1;omega
  refine AM func288 rfl ntmps288 (go ?_);refine Aj (α:=Nat) (fun k=>[(0,.slice (sm g) l.length z),(1,eqV c),(5,iV (k:Int))]) (fun k W=>1<=k/\k<=l.length/\Ext w W/\∀i,0<i->i<k->BO (l.getD i Ad) (l.getD (i-1) Ad)≠0) (fun k=>l.length-k) 1 ag ⟨by omega,by omega,Ext.refl _,fun i H hi=>by omega⟩ ?_;rintro k W fr⟨c6,hk,kW,a6⟩;refine go ?_;by_cases c0:k<l.length
  ·refine go ?_;obtain⟨f,d,o,s,j,a3,a8,R⟩:=A.at c0;obtain⟨y0,y1,y2,y3,y4,a4,b9,a7⟩:=A.at (k:=k-1) U;refine Ab (rd 0 10 (.alt 10 .done .stop)) AX rD (fun X kd ed=>⟨Ext X,?_,?_⟩)
   ·exact sY
   have Q:=kW.Q kd
   have s1:∀V,Ext X V->Cells V g (0+k*5) [f,d,o,s,j]:=fun V e=>by
    rw[Bs];exact UA (a1.E (Q.Q e) O) P N a3 a0
   have s2:∀V,Ext X V->Cells V g (0+((k:Int)-1).toNat*5) [y0,y1,y2,y3,y4]:=fun V e=>by
    rw[Bs,show((k:Int)-1).toNat=k-1 by omega];exact UA (a1.E (Q.Q e) O) P N a4 a0
   (refine D_R rfl rfl (fun W I=>K3 rfl Z3) (D_R rfl rfl (fun W I=>BY rfl Z3) (D_R rfl rfl (fun W I=>AS rfl Z3) (D_R rfl rfl (fun W I=>DZ rfl rfl rfl U Z3) ?_)))<;>(apply D_R rfl rfl;(intro W I;refine Al rfl rF (s1 W I) ?_;exact Z3))<;>refine D_R rfl rfl (fun W I=>BY rfl Z3) (D_R rfl rfl (fun W I=>AS rfl Z3) ?_)<;>(apply D_R rfl rfl;(intro W I;refine Iw rfl rfl rQ ?_;exact Z3))<;>refine D_R rfl rfl (fun W I=>Hb rfl rfl U U Z3) ?_<;>(apply D_R rfl rfl;(intro W I;refine Al rfl rF (s2 W I) ?_;exact Z3)))
   refine D_E rfl ?_;refine Bg (v1:=[]) (v2:=[pt c]) (vs:=[.agg [f,d,o,s,j].toArray,.agg [y0,y1,y2,y3,y4].toArray]) rfl (Yu X c _ _ _ _ ok (R.ext Q) (a7.ext Q) (fun b S=>(T b S).1.eq (Q.block b (T b S).2.1 O)) (hz _ (BA a8)) (b0.E Q O)) rfl ?_;rintro _ w4⟨rfl,G⟩;refine AB ⟨Ext X,fun _ e=>e,G,?_⟩;have M:=Q.Q G;by_cases hc:BO (l.getD k Ad) (l.getD (k-1) Ad)=0
   ·rw[BE hc];refine Cy ?_;refine nX ?_;refine AN (BY rfl (AS rfl ?_));refine Tn rfl rfl U U ?_;refine AT (BY rfl ?_);refine nX ?_;refine AN (AT (AS rfl ?_));refine nX ?_;have Z:cpN l (k+1)=l.take k:=by rw[cpN,AJ ⟨by omega,hc⟩,Ch,Oa k hk a6]
    have b6:(L.take k).flatten++C.toList.drop (k*5)=C.toList:=by
     rw[iD L N,<-P,MF,Ga U,HB]
    refine Aj (α:=Nat×Nat×List (LV)) (fun|(q,r,_)=>[(0,.slice (some ⟨g,0,none⟩) l.length z),(1,eqV c),(5,.int .i64 (q:Int)),(6,.slice (some ⟨g,0+k*5,none⟩) (l.length-k) (z-k)),(7,.int .i64 (r:Int))])
     (fun y V=>1<=y.2.1/\k+y.2.1<=l.length/\y.1<k+y.2.1/\y.1=(cpN l (k+y.2.1)).length/\Keep [g] w V/\Blk V g 37 (y.2.2.flatten++C.toList.drop (y.1*5))/\FsAt ok w y.2.2 (cpN l (k+y.2.1))) (fun y=>l.length-y.2.1) (k,1,L.take k) ag
     ⟨by simp,by simp only;omega,by simp only;omega,by simp only;rw[Z,DE];omega,M.any,by simp only;rw[b6];exact a1.E M O,by simp only;rw[Z];exact A.take k⟩ ?_
    rintro⟨q,r,a⟩V fr⟨c1,hr,b2,F,kV,bV,E⟩;simp only at c1 hr b2 F kV bV E;have t:a.flatten.length=q*5:=by rw[E.flat,<-F]
    refine nX ?_;by_cases c7:r<l.length-k
    ·refine AN (AS rfl (BY rfl (Cj rfl (FX rfl rfl U ?_))));refine nX ?_;obtain⟨f,d,o,s,j,a3,a8,R⟩:=A.at (k:=k+r) U;obtain⟨y0,y1,y2,y3,y4,a4,b9,a7⟩:=A.at (k:=k+r-1) U;refine Ab (rd 0 10 (.alt 10 (.read 11 .done) .stop)) AX rD (fun X kd ed=>⟨Ext X,?_,?_⟩)
     ·exact sY
     have Q:=kV.ext kd;have bd:=bV.E kd O
     have s1:∀D,Ext X D->Cells D g (0+k*5+r*5) [f,d,o,s,j]:=fun D e=>by
      rw[show 0+k*5+r*5=(k+r)*5 by omega];exact T9 (bd.E e O) t U P N a3 a0
     have s2:∀D,Ext X D->Cells D g (0+k*5+((r:Int)-1).toNat*5) [y0,y1,y2,y3,y4]:=fun D e=>by
      rw[show 0+k*5+((r:Int)-1).toNat*5=(k+r-1)*5 by omega];exact T9 (bd.E e O) t U P N a4 a0
     (refine D_R rfl rfl (fun W I=>K3 rfl Z3) (D_R rfl rfl (fun W I=>BY rfl Z3) (D_R rfl rfl (fun W I=>AS rfl Z3) (D_R rfl rfl (fun W I=>DZ rfl rfl rfl U Z3) ?_)))<;>(apply D_R rfl rfl;(intro W I;refine Al rfl rF (s1 W I) ?_;exact Z3))<;>refine D_R rfl rfl (fun W I=>BY rfl Z3) (D_R rfl rfl (fun W I=>AS rfl Z3) ?_)<;>(apply D_R rfl rfl;(intro W I;refine Iw rfl rfl rQ ?_;exact Z3))<;>refine D_R rfl rfl (fun W I=>Hb rfl rfl U U Z3) ?_<;>(apply D_R rfl rfl;(intro W I;refine Al rfl rF (s2 W I) ?_;exact Z3)))
     refine D_E rfl ?_;refine Bg (v1:=[]) (v2:=[pt c]) (vs:=[.agg [f,d,o,s,j].toArray,.agg [y0,y1,y2,y3,y4].toArray]) rfl (Yu X c _ _ _ _ ok (R.E Q a9) (a7.E Q a9) (fun b S=>(T b S).1.eq (Q.block b (T b S).2.1 (a9 b S))) (hz _ (BA a8)) (b0.E Q rE)) rfl ?_;rintro _ w4⟨rfl,G⟩;refine AB ⟨Ext X,fun _ e=>e,G,?_⟩;have M:=Q.ext G;have b5:=bd.E G O
     have K:cpN l (k+(r+1))=cpN l (k+r)++if BO (l.getD (k+r) Ad) (l.getD (k+r-1) Ad)=0 then[]else[l.getD (k+r) Ad]:=by
      show cpN l (k+r+1)=_;rw[cpN];by_cases h:BO (l.getD (k+r) Ad) (l.getD (k+r-1) Ad)=0
      ·rw[AJ ⟨by omega,h⟩,AJ h]
      ·rw[AG (fun hh=>h hh.2),AG h]
     by_cases a2:BO (l.getD (k+r) Ad) (l.getD (k+r-1) Ad)=0
     ·rw[BE a2];rw[AJ a2,Ch]at K;refine D_R rfl rfl (fun W I=>IM rfl Z3) (Cy ?_);refine nY ?_;(refine AN (AS rfl (Fz rfl rfl rQ ?_))<;>refine AT (AS rfl ?_))
      refine nX ?_;refine⟨(q,r+1,a),⟨rfl,⟨rfl,rfl,rfl,rfl,?_,trivial⟩,⟨by simp,by simp only;omega,by simp only;omega,by simp only;rw[K];exact F,M,b5,by simp only;rw[K];exact E⟩⟩,by simp only;omega⟩;show iV ((r:Int)+1)=_;rw[BB];rfl
     ·rw[BC a2];rw[AG a2]at K;refine D_R rfl rfl (fun W I=>IM rfl Z3) (Cy ?_);refine nX ?_;refine AN (BY rfl (AS rfl (BY rfl (AS rfl (DZ rfl rfl rfl U ?_)))));refine Al (L:=[f,d,o,s,j]) rfl rfl (s1 w4 G) ?_;refine DZ rfl rfl rfl U ?_;have b3:q*5+5<=(a.flatten++C.toList.drop (q*5)).length:=by rw[A9,t,HY,a5];omega
      refine Aa (cs:=[f,d,o,s,j]) rfl rfl rfl R.one b5 (by show 0+q*5+5<=_;omega) (fun w5 p5=>?_);refine nX ?_;(refine AN (AS rfl (Fz rfl rfl rQ ?_))<;>refine AT (AS rfl ?_))
      refine nX ?_;(refine AN (AS rfl (Fz rfl rfl rQ ?_))<;>refine AT (AS rfl ?_))
      refine nX ?_
      have e5:splice (a.flatten++C.toList.drop (q*5)) (0+q*5) [f,d,o,s,j]=(a++[[f,d,o,s,j]]).flatten++C.toList.drop ((q+1)*5):=by
       unfold splice;rw[Bs,<-t,Kd,No,List.drop_of_length_le U,List.drop_drop,t,Ef,FN];simp[show(q+1)*5=q*5+5 by omega]
      have m:=p5.D;rw[e5]at m;refine⟨(q+1,r+1,a++[[f,d,o,s,j]]),⟨rfl,⟨rfl,rfl,?_,rfl,?_,trivial⟩,⟨by simp,by simp only;omega,by simp only;omega,by simp only;rw[K,A9,<-F];rfl,M.Q p5.E (fun _ h _=>h),m,by simp only;rw[K];exact E.snoc R rfl⟩⟩,by simp only;omega⟩
      ·show iV ((q:Int)+1)=_;rw[BB];rfl
      ·show iV ((r:Int)+1)=_;rw[BB];rfl
    ·refine AN (AS rfl (BY rfl (Cj rfl (JQ rfl rfl U ?_))));refine nY ?_;obtain rfl:r=l.length-k:=by omega
     rw[show k+(l.length-k)=l.length by omega]at F E b2;refine AN (BY rfl (AS rfl ?_));refine Tn rfl rfl U U ?_;have b3:0+q*5+(l.length-q)*5<=(a.flatten++C.toList.drop (q*5)).length:=by rw[A9,t,HY,a5];omega
     refine lX (L0:=zero5) rfl U (Ak rfl) bV (by rw[show zero5.length=5 from rfl];exact b3) (fun w5 zs b4 p5=>?_);refine nX ?_;refine AN (BY rfl (AS rfl (N5 rfl rfl U U (AT (BY rfl ?_)))));refine nX ?_;have m:=p5.D;rw[show zero5.length=5 from rfl]at b4
     have e5:splice (a.flatten++C.toList.drop (q*5)) (0+q*5) zs=a.flatten++(zs++(C.toList.drop (q*5)).drop zs.length):=by
      unfold splice;rw[Bs,<-t,Kd,No,List.drop_of_length_le U,t,Ef,show q*5+zs.length-q*5=zs.length by omega]
     rw[e5]at m;refine AC rfl ⟨kV.Q p5.E (fun _ h _=>h),rfl,a,⟨by rw[E.flat],.inr ⟨g,z,_,?_,hB,m,by omega,b1,?_,?_⟩⟩,E⟩
     ·rw[<-F];rfl
     ·simp only[IZ,A9,HY,a5,t,b4];omega
     ·rw[<-F,<-t];simp
   ·rw[BC hc];refine go ?_;refine⟨k+1,⟨rfl,⟨rfl,rfl,?_,trivial⟩,⟨by omega,by omega,M,fun i H hi=>?_⟩⟩,by omega⟩
    ·show iV ((k:Int)+1)=_;rw[BB];rfl
    ·by_cases b8:i=k
     ·subst b8;exact hc
     ·exact a6 i H U
  ·refine go ?_;obtain rfl:k=l.length:=by omega
   refine go ?_;have Z:cpN l l.length=l:=by rw[Oa l.length (AO _) a6,Co]
   rw[Z];exact AC rfl ⟨kW.any,rfl,L,CD ho kW,A⟩
section
variable {mk:Prop}[MK mk]
open Go.ChangeMaps (setBlock)
attribute [local semireducible] WC AF CO B0 Cx B8 Cc CB
variable {P:Program}{all:Array Oper}{Z:Fr->DS->List PanicEntry->World->Prop}{K:Fr->DS->World->Prop}{rest:List Oper}{f:Fr}{ds:DS}{w:World}
 {d:Nat}{ty:TypeId}{pos:String}{af:Array Edge}
class JT (P:Program) (T:TypeId) (z:outParam Value):Prop where
 out:∃kt et i,P.underlying T=some (.map kt et)/\P.underlying kt=some (.int .i64)/\P.info? et=some i/\i.zero=some z
theorem Oq{T l k:TypeId}{z:Value}(a:P.underlying T=some (.map l k))(W:P.underlying l=some (.int .i64))(R:(P.info? k).map (·.zero)=some (some z)):JT P T z:=by
 obtain⟨i,F,p⟩:=Dd.1 R;exact⟨l,k,i,a,W,F,p⟩
def LW(p:Int×Value):Value×Value:=(iV p.1,p.2)
theorem jM{a b:Int}(h:iV a=iV b):a=b:=by simpa using h
def rdV(e:MapEntry):Value×Value:=(e.key,e.val)
def VMap(w:World)(r:Nat)(L:List (Int×Value)):Prop:=
 ∃N g,w.heap[r]?=some (.map N g)/\MapKept.Stamped N g/\N.toList.map rdV=L.map LW
theorem VMap.lt{r:Nat}{L:List (Int×Value)}(h:VMap w r L):r<w.heap.size:=by
 obtain⟨N,c,a,_⟩:=h;exact(FM.1 a).1
theorem VMap.E{X:List Nat}{w':World}{r:Nat}{L:List (Int×Value)}(h:VMap w r L)(k:Keep X w w')(B:r∉X):VMap w' r L:=by
 obtain⟨N,c,a,W,R⟩:=id h;exact⟨N,c,(k.block r h.lt B).Q a,W,R⟩
theorem fR{N:List MapEntry}{L:List (Int×Value)}(h:N.map rdV=L.map LW):∀x∈N,MapKept.IsKey (.int .i64) x.key:=by
 intro x V;have:rdV x∈L.map LW:=by rw[<-h];exact By.2 ⟨x,V,rfl⟩
 obtain⟨p,_,e⟩:=By.1 this;have:x.key=iV p.1:=(congrArg Prod.fst e).symm;rw[this];trivial
theorem QK{L:List (Int×Value)}{x:Int}(h:∀p∈L,p.1≠x):L.lookup x=none:=by
 induction L with
 |nil=>rfl
 |cons q L ih=>
  exact uS
theorem UI{L:List (Int×Value)}(H:(L.map (·.1)).Nodup){p:Int×Value}(C:p∈L):L.lookup p.1=some p.2:=by
 induction L with
 |nil=>cases C
 |cons q L ih=>
  simp only[EG,List.nodup_cons]at H;obtain⟨a,b⟩:=q;rcases BI.1 C with rfl|C
  ·simp[List.lookup]
  ·have:p.1≠a:=fun e=>H.1 (By.2 ⟨p,C,e⟩);rw[Jo,RJ this];exact ih H.2 C
theorem Ny{r:Nat}{L:List (Int×Value)}(h:VMap w r L):(L.map (·.1)).Nodup:=by
 obtain⟨N,c,_,⟨_,_,W⟩,R⟩:=h
 have e:N.toList.map (·.key)=L.map (fun p=>iV p.1):=by
  have:=congrArg (List.map Prod.fst) R;simpa[rdV,LW,HF,Function.comp_def]using this
 rw[e]at W;have A:((L.map (·.1)).map (fun x=>iV x)).Nodup:=by rw[HF];exact W
 exact List.Pairwise.of_map _ (fun a b B e=>B (by rw[e])) A
theorem Qy{b:TypeId}{L:List (Int×Value)}(g:P.underlying b=some (.int .i64)){N:Array MapEntry}(r:N.toList.map rdV=L.map LW)(H:(L.map (·.1)).Nodup)(x:Int)(w:World):
  (L.lookup x=none/\(Instr.findKey b (iV x) N.toList).run P w=.ok none w/\∀e∈N.toList,e.key≠iV x)\/
  ∃i v,L.lookup x=some v/\(Instr.findKey b (iV x) N.toList).run P w=.ok (some (i,v)) w:=by
 have F:∀(i:Nat)(e:MapEntry),N.toList[i]?=some e->∃p,L[i]?=some p/\e.key=iV p.1/\e.val=p.2:=by
  exact td
 rcases MapKept.findNow_spec (d:=.int .i64) (k:=iV x) rfl N.toList 0 (fR r)with⟨a,W⟩|⟨j,e,a,W,R⟩
 ·refine .inl ⟨QK fun p C m=>?_,QN g a,W⟩;obtain⟨i,h⟩:=Cn C;have:=congrArg (fun l=>l[i]?) r;simp only[Cl,h,GG]at this;obtain⟨e,B,u⟩:=Dd.1 this;refine W e (BA B) ?_;rw[show e.key=iV p.1 from congrArg Prod.fst u,m]
 ·obtain⟨p,C,c,u⟩:=F j e W;rw[R]at c;have V:=jM c;refine .inr ⟨j,p.2,?_,?_⟩
  ·rw[V];exact UI H (BA C)
  ·have:=QN (P:=P) (w:=w) g a;rw[this,u,Bs]
theorem Nq{T:TypeId}(h:∀w',Ext w w'->w'.heap.size=w.heap.size+1->VMap w' w.heap.size []->AF P all Z K rest (upd f d (.map (some w.heap.size))) ds w'):
  AF P all Z K (⟨some d,.makeMap T none,ty,pos,af,none⟩::rest) f ds w:=by
 refine At (v:=.map (some w.heap.size)) (w':=w.alloc (.map #[] 0)) rfl ?_ (h _ ⟨rfl,rfl,rfl,by simp,fun k a _=>Gb w _ a,fun _=>JI O (fun k a=>Gb w _ a) (fun c t Q e=>by rw[HD]at e;cases e),AO _⟩ O ⟨#[],0,HD w _,MapKept.stamped_empty 0,rfl⟩);have B:(Instr.makeMap T none).run P w=.ok (.map (some w.heap.size)) (w.alloc (.map #[] 0)):=rfl;simp[execOp,B]
theorem cG{T:TypeId}{m k:Operand}{r:Nat}{x:Int}{z:Value}{L:List (Int×Value)}[hT:JT P T z](n:ev f m=.map (some r))(e:ev f k=iV x)(S:VMap w r L)
  (h:AF P all Z K rest (upd f d (.tuple #[(L.lookup x).getD z,.bool (L.lookup x).isSome])) ds w):AF P all Z K (⟨some d,.lookup T m k true,ty,pos,af,none⟩::rest) f ds w:=by
 obtain⟨l,o,i,b,W,R,A⟩:=hT.out;have H:=Ny S;obtain⟨N,g,c,E,q⟩:=S;refine At rfl ?_ h;have I:=KW (P:=P) (w:=w) (k:=iV x) W rfl N.isEmpty 9999;have p:(zeroValue o).run P w=.ok z w:=by simp[zeroValue,typeInfo,R,A]
 rcases Qy W q H x w with⟨a,u,_⟩|⟨j,v,a,u⟩
 ·simp[execOp,n,e,Instr.lookup,BV b,I5 c,I,u,p,a]
 ·simp[execOp,n,e,Instr.lookup,BV b,I5 c,I,u,a]
theorem aK{w:World}{r:Nat}{m:Obj}(a:∀c t Q,m≠ .cells c t Q):Keep [r] w {w with heap:=w.heap.setIfInBounds r m}:=
 ⟨rfl,rfl,rfl,by simp,fun k _ b=>by simp[FE (show k≠r by simpa using b)],fun _=>V5 a,AO _⟩
theorem Bd{T:TypeId}{m k v:Operand}{r:Nat}{x:Int}{y z:Value}{L:List (Int×Value)}[hT:JT P T z](p:ev f m=.map (some r))(o:ev f k=iV x)(s:ev f v=y)(b:VMap w r L)(V:L.lookup x=none)
  (h:∀w',Keep [r] w w'->w'.heap.size=w.heap.size->VMap w' r (L++[(x,y)])->AF P all Z K rest f ds w'):AF P all Z K (⟨none,.insert T m k v,ty,pos,af,none⟩::rest) f ds w:=by
 obtain⟨l,q,i,n,W,R,A⟩:=hT.out;have H:=Ny b;obtain⟨e,g,S,E,c⟩:=b;have I:=KW (P:=P) (w:=w) (k:=iV x) W rfl false 9999;rcases Qy W c H x w with⟨a,u,N⟩|⟨j,t,a,u⟩
 ·refine M7 (w':={w with heap:=w.heap.setIfInBounds r (.map (e.push {key:=iV x,val:=y,born:=g}) (g+1))}) rfl ?_ (h _ (aK fun _ _ _ h=>by cases h) O ⟨_,_,(Wy S).1,UL E N,?_⟩)
  ·simp[execOp,p,o,s,Instr.mapUpdate,BV n,I5 S,I,u,TU _ S]
  ·rw[Wt,FB,c];simp[rdV,LW]
 ·rw[a]at V;cases V
end
section
variable {mk:Prop}[MK mk]
section
attribute [local semireducible] WC AF CO B0 Cx B8 Cc CB
variable {P:Program}{all:Array Oper}{Z:Fr->DS->List PanicEntry->World->Prop}{K:Fr->DS->World->Prop}{rest:List Oper}{f:Fr}{ds:DS}{w:World}{d:Nat}{ty:TypeId}{pos:String}{af:Array Edge}
def Qq{T:TypeId}{m k:Operand}{r:Nat}{x:Int}{y z:Value}{L:List (Int×Value)}[hT:JT P T z](n:ev f m=.map (some r))(e:ev f k=iV x)(S:VMap w r L)(V:L.lookup x=some y)
  (h:AF P all Z K rest (upd f d y) ds w):AF P all Z K (⟨some d,.lookup T m k false,ty,pos,af,none⟩::rest) f ds w:=by
 obtain⟨l,p,i,b,W,R,A⟩:=hT.out;have H:=Ny S;obtain⟨N,g,c,E,o⟩:=S;refine At rfl ?_ h;have I:=KW (P:=P) (w:=w) (k:=iV x) W rfl N.isEmpty 9999;rcases Qy W o H x w with⟨a,u,_⟩|⟨j,v,a,u⟩
 ·rw[a]at V;cases V
 ·rw[a]at V;cases V;simp[execOp,n,e,Instr.lookup,BV b,I5 c,I,u]
end
instance:JT Zp 262 .nilFunc:=Oq underlying262 underlying3 rD
instance:JT Zp 263 .nilFunc:=Oq underlying263 underlying3 rD
abbrev mvR(F:FuncId)(r:Nat):Value:=.func (.func F) #[pt r] #[]
def Py(r:Nat):List (Int×Value):=[(1,mvR 216 r),(2,mvR 217 r),(3,mvR 218 r),(4,mvR 219 r),(5,mvR 220 r),(6,mvR 221 r),(15,mvR 222 r),(16,mvR 223 r),(17,mvR 224 r)]
def TC(r:Nat):List (Int×Value):=[(5,mvR 225 r),(6,mvR 225 r),(8,mvR 226 r),(9,mvR 227 r),(10,mvR 228 r)]
def Rdr(w:World)(r:Nat)(S:List Sgn)(x:Int):Prop:=∃H G C a q p,Blk w r 265 [.slice H S.length G,.slice C S.length a,.map (some q),.map (some p)]/\SlAt sgnR AL w (.slice H S.length G) S/\
 (∀i,i<S.length->∃g o,C=some ⟨g,o,none⟩/\CC w g (o+i) (iV (D0 S x i)))/\VMap w q (Py r)/\VMap w p (TC r)
def Rdr.ext{w w':World}{r:Nat}{S:List Sgn}{x:Int}(h:Rdr w r S x)(k:Ext w w'):Rdr w' r S x:=by
 obtain⟨H,G,C,a,q,p,Z,W,R,A,b⟩:=h;refine⟨H,G,C,a,q,p,Z.E k O,W.ext k,fun i F=>?_,A.E k O,b.E k O⟩;obtain⟨g,o,e,T⟩:=R i F;exact⟨g,o,e,k.cell T O⟩
def bI(w:World)(sv:Value)(S:List Sgn)(x:Int)(Q:SlAt sgnR AL w sv S)(hv:Bo S=true)(a4:0<=x)(a5:x<Ei S)(hK:KY w)(hN:10<=w.heap.size):
  Fn Zp 172 [sv,iV x] w fun u w'=>∃r,u=pt r/\Ext w w'/\Rdr w' r S x:=by
 obtain⟨sa,sc,rfl,_⟩:=Q.len;refine AM func172 rfl ntmps172 (go ?_);refine Ac (L:=[.slice sa S.length sc,nS,.map none,.map none]) rfl (fun A n3=>go ?_);have k3:=n3.E;have z3:=n3.size;have h6:S.length<=6:=(If hv).2.1;refine Aj (α:=Nat×Value) (fun y=>[(0,.slice sa S.length sc),(1,iV x),(5,pt w.heap.size),(11,iV (S.length:Int)),(12,iV (y.1:Int))]) (fun y W=>y.1<=S.length/\Ext w W/\Blk W w.heap.size 265 [.slice sa S.length sc,y.2,.map none,.map none]/\W.ownsRow A.heap.size 3 1 y.2 y.1 (IQ S x y.1)/\A.heap.size<=W.heap.size) (fun y=>S.length-y.1) (0,nS) ag ⟨by simp,k3,n3.D,⟨rfl,.inl ⟨rfl,rfl⟩⟩,AO _⟩ ?_;rintro⟨k,r⟩W fr⟨hk,kW,C,X,hW⟩;simp only at hk kW C X hW;refine go ?_;by_cases hlt:k<S.length
 ·refine go ?_;refine Ab (rd 0 4 (rd 5 3 (.alt 4 (.alt 8 (.alt 9 (.alt 10 (.read 11 (.read 12 (.alt 13 .done .stop))) .stop) .stop) .stop) (.alt 8 (.alt 4 (.alt 9 (.alt 10 (.read 11 (.read 12 (.alt 13 .done .stop))) .stop) .stop) (.alt 9 (.alt 4 (.alt 10 (.read 11 (.read 12 (.alt 13 .done .stop))) .stop) .stop) .stop)) .stop)))) AX rD (fun wd d ed=>⟨fun _=>True,?_,?_⟩)
  ·trivial
  have B:=kW.Q d;have a1:=C.E d O;have a6:=CD X d;have b1:=d.size;refine go ?_;refine D_A rfl ?_ (D_E rfl ?_)
  ·refine AQ rfl (a1.cell (o:=1) rfl) ?_;refine wNl trivial ?_;refine D_E rfl ?_;refine AD (Rn wd _ S x k (Q.ext B) (hK.E B O) (Az hN (B).size) hv a4 a5 hlt) rfl ?_;rintro _ wC⟨rfl,kC⟩;have P:=B.Q kC;have M:=a1.E kC O;have a0:=CD a6 kC;have a9:=kC.size;refine wNl trivial ?_;refine D_E rfl ?_;refine Ay (out:=[iV (D0 S x k)]) rfl U (by rw[O3];rfl) (fun wB q=>?_);have kB:=q.E;have G:=q.own (n:=1) (size:=1) rfl rL (AO _);have t:=P.Q kB;have s:=M.E kB O;have z:=CD a0 kB;have a7:=kB.size;refine wNl trivial ?_;refine D_E rfl ?_;refine Bk (ok:=AL) rfl rfl z (BG G fun _ _=>trivial) U rfl rfl (Ak rfl) U U U (fun f w7 c=>?_);refine wNl trivial ?_;refine gE ?_;have e:∀g,r.ownBlock=some g->A.heap.size<=g:=fun g a=>(Ao z a).1;have z7:=c.E.size;have p:∀g,f.ownBlock=some g->A.heap.size<=g:=fun g a=>(Ao c.own a).1;refine AW (v:=f) rfl rfl (MN c.own) (s.E c.E (fun D=>by have:=e _ (Aw.1 D);omega)) O (fun w8 K=>?_);refine wNl trivial ?_;refine go ?_;refine⟨(k+1,f),⟨rfl,⟨rfl,rfl,rfl,rfl,?_,trivial⟩,⟨by(try simp only);omega,?_,K.D,?_,by have:=K.size;(try simp only);omega⟩⟩,by simp only;omega⟩
   ·show iV ((k:Int)+1)=_;rw[BB];rfl
   ·exact tV
   ·exact tz
  refine AD (Rn wd _ S x k (Q.ext B) (hK.E B O) (Az hN (B).size) hv a4 a5 hlt) rfl ?_;rintro _ wC⟨rfl,kC⟩;have P:=B.Q kC;have M:=a1.E kC O;have a0:=CD a6 kC;have a9:=kC.size;refine wNl trivial ?_;refine D_A rfl ?_ (D_E rfl ?_)
  ·refine AQ rfl (M.cell (o:=1) rfl) ?_;refine wNl trivial ?_;refine D_E rfl ?_;refine Ay (out:=[iV (D0 S x k)]) rfl U (by rw[O3];rfl) (fun wB q=>?_);have kB:=q.E;have G:=q.own (n:=1) (size:=1) rfl rL (AO _);have t:=P.Q kB;have s:=M.E kB O;have z:=CD a0 kB;have a7:=kB.size;refine wNl trivial ?_;refine D_E rfl ?_;refine Bk (ok:=AL) rfl rfl z (BG G fun _ _=>trivial) U rfl rfl (Ak rfl) U U U (fun f w7 c=>?_);refine wNl trivial ?_;refine gE ?_;have e:∀g,r.ownBlock=some g->A.heap.size<=g:=fun g a=>(Ao z a).1;have z7:=c.E.size;have p:∀g,f.ownBlock=some g->A.heap.size<=g:=fun g a=>(Ao c.own a).1;refine AW (v:=f) rfl rfl (MN c.own) (s.E c.E (fun D=>by have:=e _ (Aw.1 D);omega)) O (fun w8 K=>?_);refine wNl trivial ?_;refine go ?_;refine⟨(k+1,f),⟨rfl,⟨rfl,rfl,rfl,rfl,?_,trivial⟩,⟨by(try simp only);omega,?_,K.D,?_,by have:=K.size;(try simp only);omega⟩⟩,by simp only;omega⟩
   ·show iV ((k:Int)+1)=_;rw[BB];rfl
   ·exact tV
   ·exact tz
  refine Ay (out:=[iV (D0 S x k)]) rfl U (by rw[O3];rfl) (fun wB q=>?_);have kB:=q.E;have G:=q.own (n:=1) (size:=1) rfl rL (AO _);have t:=P.Q kB;have s:=M.E kB O;have z:=CD a0 kB;have a7:=kB.size;refine wNl trivial ?_;refine D_E rfl ?_;refine AQ rfl (s.cell (o:=1) rfl) ?_;refine wNl trivial ?_;refine D_E rfl ?_;refine Bk (ok:=AL) rfl rfl z (BG G fun _ _=>trivial) U rfl rfl (Ak rfl) U U U (fun f w7 c=>?_);refine wNl trivial ?_;refine gE ?_;have e:∀g,r.ownBlock=some g->A.heap.size<=g:=fun g a=>(Ao z a).1;have z7:=c.E.size;have p:∀g,f.ownBlock=some g->A.heap.size<=g:=fun g a=>(Ao c.own a).1;refine AW (v:=f) rfl rfl (MN c.own) (s.E c.E (fun D=>by have:=e _ (Aw.1 D);omega)) O (fun w8 K=>?_);refine wNl trivial ?_;refine go ?_;refine⟨(k+1,f),⟨rfl,⟨rfl,rfl,rfl,rfl,?_,trivial⟩,⟨by(try simp only);omega,?_,K.D,?_,by have:=K.size;(try simp only);omega⟩⟩,by simp only;omega⟩
  ·show iV ((k:Int)+1)=_;rw[BB];rfl
  ·exact tV
  ·exact tz
 ·refine go ?_;obtain rfl:k=S.length:=by omega
  obtain⟨ra,rc,er,_⟩:=Kv X;subst er;refine go ?_;refine Nq (fun wa ya za ma=>go ?_);refine Bd rfl rfl rfl ma rfl (fun wb R m mb=>?_);have yb:=(ya).E R O;replace m:=m.Q za;refine go ?_;refine Bd rfl rfl rfl mb rfl (fun wc T l mc=>?_);have yc:=(yb).E T O;replace l:=l.Q m;refine go ?_;refine Bd rfl rfl rfl mc rfl (fun wd d j md=>?_);have yd:=(yc).E d O;replace j:=j.Q l;refine go ?_;refine Bd rfl rfl rfl md rfl (fun we ke H me=>?_);have ye:=(yd).E ke O;replace H:=H.Q j;refine go ?_;refine Bd rfl rfl rfl me rfl (fun wf kf b mf=>?_);have Z:=(ye).E kf O;replace b:=b.Q H;refine go ?_;refine Bd rfl rfl rfl mf rfl (fun wg kg zg mg=>?_);have yg:=(Z).E kg O;replace zg:=zg.Q b;refine go ?_;refine Bd rfl rfl rfl mg rfl (fun wh kh zh mh=>?_);have yh:=(yg).E kh O;replace zh:=zh.Q zg;refine go ?_;refine Bd rfl rfl rfl mh rfl (fun wi ki zi mi=>?_);have yi:=(yh).E ki O;replace zi:=zi.Q zh;refine go ?_;refine Bd rfl rfl rfl mi rfl (fun wj kj zj mj=>?_);have yj:=(yi).E kj O;replace zj:=zj.Q zi;have b0:=C.lt;refine go ?_;refine AW (v:=.map (some W.heap.size)) rfl rfl rfl (C.E yj O) O (fun V F=>go ?_);have zV:V.heap.size=W.heap.size+1:=by rw[F.size,zj]
  have m1:VMap V W.heap.size (Py w.heap.size):=mj.E F.E rE;have eV:Ext w V:=(kW.Q yj).E F.E O;have oV:=Bf (Bf X yj (fun g a=>by simp)) F.E (fun g a=>by have:=(Ao X a).1;simp;omega);have bV:=F.D;clear mj ma mb mc md me mf mg mh mi yj F C X ya yb yc yd ye Z yg yh yi R T d ke kf kg kh ki kj;refine go ?_;refine Nq (fun wa ya za ma=>go ?_);refine Bd rfl rfl rfl ma rfl (fun wb R m mb=>?_);have yb:=(ya).E R O;replace m:=m.Q za;refine go ?_;refine Bd rfl rfl rfl mb rfl (fun wc T l mc=>?_);have yc:=(yb).E T O;replace l:=l.Q m;refine go ?_;refine Bd rfl rfl rfl mc rfl (fun wd d j md=>?_);have yd:=(yc).E d O;replace j:=j.Q l;refine go ?_;refine Bd rfl rfl rfl md rfl (fun we ke H me=>?_);have ye:=(yd).E ke O;replace H:=H.Q j;refine go ?_;refine Bd rfl rfl rfl me rfl (fun wf kf b mf=>?_);have Z:=(ye).E kf O;replace b:=b.Q H;refine go ?_;refine AW (v:=.map (some V.heap.size)) rfl rfl rfl (bV.E Z O) O (fun N E=>go ?_);have m2:VMap N V.heap.size (TC w.heap.size):=mf.E E.E rE;have m3:VMap N W.heap.size (Py w.heap.size):=(m1.E Z O).E E.E rE;have eU:Ext w N:=(eV.Q Z).E E.E O;have oU:=Bf (Bf oV Z (fun g a=>by simp)) E.E (fun g a=>by have:=(Ao oV a).1;simp;omega);have D:=Kv oU;have bU:=E.D;clear E oU oV;obtain⟨a2,c2,er,a3⟩:=D;have e1:ra=a2:=(Value.slice.inj er).1;rw[<-e1]at a3;have a8:∀i,i<S.length->∃g o,ra=some ⟨g,o,none⟩/\N.cell? ⟨g,o+i,none⟩=some (iV (D0 S x i)):=fun i hi=>a3 i _ (by simp[IQ,hi]);exact AC rfl ⟨_,rfl,eU,sa,sc,ra,rc,_,_,bU,Q.ext eU,a8,m3,m2⟩
section
variable {α:Type}{p:α->Bool}{l:List α}{k:Nat}{y:α}
def OX(I:l[k]?=some y)(s:p y=false):l.all p=false:=by
 rw[<-EK,Bu];intro h;have:=h _ (BA I);rw[s]at this;cases this
def OW(h:∀(i:Nat)(y:α),i<l.length->l[i]?=some y->p y=true):l.all p=true:=by
 rw[Bu];intro z a;obtain⟨i,F⟩:=Cn a;exact h i z (Ah.1 F).1 F
def RN(I:l[k]?=some y)(s:p y=true):l.any p=true:=by
 rw[Ia];exact⟨y,BA I,s⟩
def VQ(h:∀(i:Nat)(y:α),i<l.length->l[i]?=some y->p y=false):l.any p=false:=by
 rw[Wv];intro z a;obtain⟨i,F⟩:=Cn a;rw[h i z (Ah.1 F).1 F];exact CX
end
def Uw:∀l:LF,GU l=l.all Cp
 | []=>rfl
 |a::l=>by rw[GU,Uw l];rfl
def WQ:∀(n:Nat)(w:World)(b o:Nat)(f:Fml),dpF f<=n->PF AL w b o f->Fn Zp 299 [.pointer (sn b o)] w fun u w'=>u=.bool (Cp f)/\Ext w w':=by
 intro n
 induction n with
 |zero=>intro w b o f H;rw[Cr]at H;omega
 |succ n ih=>
 intro w b o f H D;rw[Cr]at H;obtain⟨N,X,a0,q0,q1,q2,q3,E,T⟩:=D.all;obtain⟨M,nm,v,V,c⟩:=f;simp only[Fml.op,Fml.name,Fml.val,Fml.args]at*
 have B:∀(k:Nat)(a:Fml),c[k]?=some a->∀W,Ext w W->∃q m,N=some ⟨q,m,none⟩/\Fn Zp 299 [.pointer (sn q (m+k*5))] W fun u w'=>u=.bool (Cp a)/\Ext W w':=fun k a G W A=>by
  obtain⟨q,m,e,C⟩:=T k a G;have g:=BA G;have:=Ds g;exact⟨q,m,e,ih W q _ a U (C.E A (fun _ _=>by simp))⟩
 refine AM func299 rfl ntmps299 (go ?_);rw[Cp];by_cases r:M=8
 ·subst r;exact tG
 by_cases s:M=9
 ·subst s;exact tG
 by_cases j:M=10
 ·subst j;exact tG
 have R:(!(decide (M=8)||decide (M=9)||decide (M=10))&&GU c)=c.all Cp:=by
  rw[Uw];simp[r,s,j]
 rw[R];refine go ?_;refine Aj (α:=Nat) (fun k=>[(0,.pointer (sn b o)),(27,iV (c.length:Int)),(28,iV (k:Int))]) (fun k W=>k<=c.length/\Ext w W/\∀(i:Nat)(y:Fml),i<k->c[i]?=some y->Cp y=true) (fun k=>c.length-k) 0 (by repeat (first|exact trivial|refine⟨rfl,?_⟩)) ⟨by omega,Ext.refl _,fun i y F=>by omega⟩ ?_;rintro k W Q⟨h,K,Z⟩;have a1:=K.cell E O;refine go ?_;by_cases P:k<c.length
 ·refine go ?_;obtain⟨y,I⟩:∃y,c[k]?=some y:=⟨_,AU P⟩;obtain⟨q,m,rfl,L⟩:=B k y I W K;refine go ?_;refine AD L rfl ?_;rintro _ w4⟨rfl,S⟩;have x:=K.Q S;cases hv:Cp y with
  |true=>
   refine go ?_;refine⟨k+1,⟨rfl,⟨(by repeat (first|exact trivial|refine⟨rfl,?_⟩)),⟨by omega,x,fun i z F d=>?_⟩⟩⟩,by omega⟩;by_cases t:i=k
   ·subst t;rw[I]at d;cases d;exact hv
   ·exact Z i z U d
  |false=>
   refine gR ?_;exact⟨congrArg Value.bool (OX I hv).symm,x⟩
 ·refine gR ?_;exact⟨congrArg Value.bool (OW fun i z F d=>Z i z U d).symm,K⟩
def Ir(w:World)(r:Nat)(S:List Sgn)(x:Int)(F:FuncId)[hF:AI Zp F](b o:Nat)(f:Fml)(Z:Rdr w r S x)(K:PF AL w b o f)(N:(Py r).lookup f.op=some (mvR F r))(v:Bool)
  (z:∀W,Ext w W->Fn Zp F [pt r,.pointer (sn b o)] W fun u w'=>u=.bool v/\Ext W w'):Fn Zp 296 [pt r,.pointer (sn b o)] w fun u w'=>u=.bool v/\Ext w w':=by
 obtain⟨H,G,C,a,q,A,j,i,s,n,g⟩:=Z;have R:=K.opc;refine AM func296 rfl ntmps296 (go ?_);refine Ab (rd 0 10 (.alt 10 (.read 11 .done) .stop)) AX rD (fun X c T=>⟨Ext X,?_,?_⟩)
 ·exact sY
 have B:∀V,Ext X V->CC V r (0+2) (.map (some q)):=fun V e=>(j.E (c.Q e) O).cell rfl;have m:∀V,Ext X V->CC V b (o+0) (iV f.op):=fun V e=>(c.Q e).cell R O;refine go ?_;refine D_R rfl rfl (fun V h=>by refine Qq rfl rfl (n.E (c.Q h) O) N ?_;exact AB ⟨rfl,rfl,rfl⟩) ?_;refine gE ?_;refine Bg (v1:=[pt r]) (v2:=[]) (vs:=[.pointer (sn b o)]) rfl (z X c) rfl ?_;rintro _ t⟨rfl,d⟩;refine AB ⟨Ext X,fun _ e=>e,d,?_⟩;refine gR ?_;exact⟨rfl,c.Q d⟩
def dU(w:World)(r:Nat)(p:Value):Fn Zp 216 [pt r,p] w fun u w'=>u=.bool true/\Ext w w':=by
 refine AM func216 rfl ntmps216 ?_;exact tG
def gS(w:World)(r:Nat)(p:Value):Fn Zp 217 [pt r,p] w fun u w'=>u=.bool false/\Ext w w':=by
 refine AM func217 rfl ntmps217 ?_;exact tG
def kZ(w:World)(r b o:Nat)(f:Fml)(K:PF AL w b o f):Fn Zp 222 [pt r,.pointer (sn b o)] w fun u w'=>u=.bool (decide (f.val=1))/\Ext w w':=by
 obtain⟨_,_,_,_,_,S,_⟩:=K.all;by_cases s:f.val=1
 ·refine AM func222 rfl ntmps222 ?_;refine gR ?_;exact⟨by rw[BE s];rfl,Ext.refl _⟩
 ·refine AM func222 rfl ntmps222 ?_;refine gR ?_;exact⟨by rw[BC s];rfl,Ext.refl _⟩
def KO(w:World)(r:Nat)(x:Vl)(N:Option Addr)(args:LF):Prop:=∀(k:Nat)(a:Fml),args[k]?=some a->∀W,Ext w W->∃q m,N=some ⟨q,m,none⟩/\Fn Zp 296 [pt r,.pointer (sn q (m+k*5))] W fun u X=>u=.bool (Bb x a)/\Ext W X
def nd(w:World)(r b o:Nat)(x:Vl)(args:LF)(a:Fml)(N:Option Addr)(g:Nat)(E:CC w b (o+4) (.slice N args.length g))(q:KO w r x N args)(G:args=[a]):
  Fn Zp 219 [pt r,.pointer (sn b o)] w fun u w'=>u=.bool (!Bb x a)/\Ext w w':=by
 subst G;obtain⟨e,m,rfl,c⟩:=q 0 a rfl w (Ext.refl _);simp only[HA]at E;refine AM func219 rfl ntmps219 (go ?_);refine AD c rfl ?_;rintro _ Q⟨rfl,d⟩;exact tR
def nT(w:World)(r b o:Nat)(x:Vl)(args:LF)(N:Option Addr)(g:Nat)(n:args.length<=9223372036854775807)(E:CC w b (o+4) (.slice N args.length g))(q:KO w r x N args):
  Fn Zp 220 [pt r,.pointer (sn b o)] w fun u w'=>u=.bool (args.all (Bb x))/\Ext w w':=by
 refine AM func220 rfl ntmps220 (go ?_);refine Aj (α:=Nat) (fun k=>[(0,pt r),(1,.pointer (sn b o)),(10,iV (args.length:Int)),(11,iV (k:Int))]) (fun k W=>k<=args.length/\Ext w W/\∀(i:Nat)(y:Fml),i<k->args[i]?=some y->Bb x y=true) (fun k=>args.length-k) 0 (by repeat (first|exact trivial|refine⟨rfl,?_⟩)) ⟨by omega,Ext.refl _,fun i y F=>by omega⟩ ?_;rintro k W Q⟨h,K,Z⟩;have s:=K.cell E O;refine go ?_;by_cases e:k<args.length
 ·refine go ?_;obtain⟨y,I⟩:∃y,args[k]?=some y:=⟨_,AU e⟩;obtain⟨j,m,rfl,d⟩:=q k y I W K;refine go ?_;refine AD d rfl ?_;rintro _ v⟨rfl,f⟩;have c:=K.Q f;cases hv:Bb x y with
  |true=>
   refine go ?_;refine⟨k+1,⟨rfl,⟨(by repeat (first|exact trivial|refine⟨rfl,?_⟩)),⟨by omega,c,fun i z F a=>?_⟩⟩⟩,by omega⟩;by_cases t:i=k
   ·subst t;rw[I]at a;cases a;exact hv
   ·exact Z i z U a
  |false=>
   refine gR ?_;exact⟨congrArg Value.bool (OX I hv).symm,c⟩
 ·refine gR ?_;exact⟨congrArg Value.bool (OW fun i z F a=>Z i z U a).symm,K⟩
def pw(w:World)(r b o:Nat)(x:Vl)(args:LF)(N:Option Addr)(g:Nat)(n:args.length<=9223372036854775807)(E:CC w b (o+4) (.slice N args.length g))(q:KO w r x N args):
  Fn Zp 221 [pt r,.pointer (sn b o)] w fun u w'=>u=.bool (args.any (Bb x))/\Ext w w':=by
 refine AM func221 rfl ntmps221 (go ?_);refine Aj (α:=Nat) (fun k=>[(0,pt r),(1,.pointer (sn b o)),(10,iV (args.length:Int)),(11,iV (k:Int))]) (fun k W=>k<=args.length/\Ext w W/\∀(i:Nat)(y:Fml),i<k->args[i]?=some y->Bb x y=false) (fun k=>args.length-k) 0 (by repeat (first|exact trivial|refine⟨rfl,?_⟩)) ⟨by omega,Ext.refl _,fun i y F=>by omega⟩ ?_;rintro k W Q⟨h,K,Z⟩;have s:=K.cell E O;refine go ?_;by_cases e:k<args.length
 ·refine go ?_;obtain⟨y,I⟩:∃y,args[k]?=some y:=⟨_,AU e⟩;obtain⟨j,m,rfl,d⟩:=q k y I W K;refine go ?_;refine AD d rfl ?_;rintro _ v⟨rfl,f⟩;have c:=K.Q f;cases hv:Bb x y with
  |false=>
   refine go ?_;refine⟨k+1,⟨rfl,⟨(by repeat (first|exact trivial|refine⟨rfl,?_⟩)),⟨by omega,c,fun i z F a=>?_⟩⟩⟩,by omega⟩;by_cases t:i=k
   ·subst t;rw[I]at a;cases a;exact hv
   ·exact Z i z U a
  |true=>
   refine gR ?_;exact⟨congrArg Value.bool (RN I hv).symm,c⟩
 ·refine gR ?_;exact⟨congrArg Value.bool (VQ fun i z F a=>Z i z U a).symm,K⟩
def gU(w:World)(r b o:Nat)(x:Vl)(v:Int)(args:LF)(a c:Fml)(N:Option Addr)(g:Nat)(S:CC w b (o+2) (iV v))(E:CC w b (o+4) (.slice N args.length g))(q:KO w r x N args)(G:args=[a,c]):
  Fn Zp 223 [pt r,.pointer (sn b o)] w fun u w'=>u=.bool (Bb x c||(decide (v=1)&&Bb x a))/\Ext w w':=by
 subst G;obtain⟨h,i,rfl,f⟩:=q 1 c rfl w (Ext.refl _);simp only[C9,FP]at E;refine AM func223 rfl ntmps223 (go ?_);refine AD f rfl ?_;rintro _ Q⟨rfl,d⟩;have M:=d.cell S O;have j:=d.cell E O;obtain⟨_,_,e,L⟩:=q 0 a rfl Q d;cases e;cases hc1:Bb x c with
 |true=>
  exact tR
 |false=>
  by_cases s:v=1
  ·subst s;refine go ?_;refine AD L rfl ?_;rintro _ n⟨rfl,m⟩;exact uL
  ·rw[BC s];exact tR
def kN(w:World)(r b o:Nat)(x:Vl)(v:Int)(args:LF)(a c:Fml)(N:Option Addr)(g:Nat)(S:CC w b (o+2) (iV v))(E:CC w b (o+4) (.slice N args.length g))(q:KO w r x N args)(G:args=[a,c]):
  Fn Zp 224 [pt r,.pointer (sn b o)] w fun u w'=>u=.bool (Bb x c&&(decide (v=1)||Bb x a))/\Ext w w':=by
 subst G;obtain⟨h,i,rfl,f⟩:=q 1 c rfl w (Ext.refl _);simp only[C9,FP]at E;refine AM func224 rfl ntmps224 (go ?_);refine AD f rfl ?_;rintro _ Q⟨rfl,d⟩;have M:=d.cell S O;have j:=d.cell E O;obtain⟨_,_,e,L⟩:=q 0 a rfl Q d;cases e;cases hc1:Bb x c with
 |false=>
  exact tR
 |true=>
  by_cases s:v=1
  ·subst s;exact tR
  ·rw[BC s];refine go ?_;refine AD L rfl ?_;rintro _ n⟨rfl,m⟩;exact uL
def nU(w:World)(r b o:Nat)(S:List Sgn)(x:Int)(c:LU)(v:Int)(Z:Rdr w r S x)(D:CC w b (o+1) (AA c))(I:CC w b (o+2) (iV v))(P:knS S c v=true):
  Fn Zp 218 [pt r,.pointer (sn b o)] w fun u w'=>u=.bool (decide (vlS S x c=v))/\Ext w w':=by
 obtain⟨j,s,C,E,M⟩:=XY P;obtain⟨H,G,Q,a,q,N,d,i,B,_,_⟩:=Z;have n:=(Ah.1 E).1;obtain⟨f,h,rfl,z⟩:=B j n;have K:EW S c=(j:Int):=by unfold EW;rw[C]
 have g:vlS S x c=D0 S x j:=by unfold vlS;rw[C]
 rw[g];refine AM func218 rfl ntmps218 (go ?_);refine Ab (rd 0 12 (rd 15 4 (.alt 12 (.read 13 (.read 14 (.read 19 (.read 20 .done)))) .stop))) AX rD (fun X W T=>⟨Ext X,?_,?_⟩)
 ·exact sY
 have F:∀V,Ext X V->CC V r (0+0) (.slice H S.length G):=fun V e=>(d.E (W.Q e) O).cell rfl;have m:∀V,Ext X V->CC V r (0+1) (.slice (sn f h) S.length a):=fun V e=>(d.E (W.Q e) O).cell rfl;have t:∀V,Ext X V->CC V b (o+1) (AA c):=fun V e=>(W.Q e).cell D O;have L:∀V,Ext X V->CC V b (o+2) (iV v):=fun V e=>(W.Q e).cell I O;have R:∀V,Ext X V->CC V f (h+j) (iV (D0 S x j)):=fun V e=>(W.Q e).cell z O;refine go ?_;refine gE ?_;refine AD (Kh X _ S c (i.ext W)) rfl ?_;rintro _ X⟨rfl,rfl⟩;rw[K];refine AB ⟨Ext X,fun _ e=>e,Ext.refl _,?_⟩;by_cases A:D0 S x j=v
 ·refine go ?_;refine gR ?_;exact⟨by rw[BE A];rfl,W⟩
 ·refine go ?_;refine gR ?_;exact⟨by rw[BC A];rfl,W⟩
def Xo(Q:World)(r:Nat)(S:List Sgn)(x:Int)(Z:Rdr Q r S x):∀(n:Nat)(w:World)(b o:Nat)(f:Fml)(i:Bool),dpF f<=n->Ext Q w->PF AL w b o f->BQ i f=true->Cp f=true->isB (knS S) f=true->
  Fn Zp 296 [pt r,.pointer (sn b o)] w fun u w'=>u=.bool (Bb (vlS S x) f)/\Ext w w':=by
 intro n
 induction n with
 |zero=>intro w b o f i H;rw[Cr]at H;omega
 |succ n ih=>
 intro w b o f i H B L X C hk;rw[Cr]at H;have I:=Z.ext B;obtain⟨N,g,A,q0,M,m,q3,E,P⟩:=L.all;have t:=L;obtain⟨op,h,v,bd,d⟩:=f;obtain⟨a4,a6,_,a0⟩:=HI X;have s:=Fp a6;obtain⟨a1,a2⟩:=is_iff.1 hk;rw[Xc];simp only[Cp,AZ,D7,H0,Ec]at C;obtain⟨⟨⟨a8,a9⟩,a7⟩,a5⟩:=C;simp only[Fml.op,Fml.name,Fml.val,Fml.args]at H A q0 M m q3 E P⊢;have hc:=Hd a4
 have T:KO w r (vlS S x) N d:=fun k a G W F=>by
  obtain⟨q,o',e,C⟩:=P k a G;have j:=BA G;have:=Ds j;exact⟨q,o',e,ih W q _ a _ U (B.Q F) (C.E F (fun _ _=>by simp)) (a0 a j) (Q6 a5 j) (a2 a j)⟩
 have D:∀W,Ext w W->KO W r (vlS S x) N d:=fun W e k a G V R=>T k a G V (e.Q R);rcases hc with rfl|rfl|rfl|rfl|rfl|rfl|rfl|rfl|rfl|rfl|rfl|rfl
 ·exact Ir w r S x 216 b o _ I t rfl _ fun W e=>dU W r _
 ·exact Ir w r S x 217 b o _ I t rfl _ fun W e=>gS W r _
 ·exact Ir w r S x 218 b o _ I t rfl _ fun W e=>nU W r b o S x h v (I.ext e) (e.cell M O) (e.cell m O) (a1 rfl)
 ·have a3:d.length=1:=by simpa[Am]using s
  obtain⟨a,G⟩:=FU a3;have z:Fd (vlS S x) 4 h v (decide (v=1)) (d.map (Bb (vlS S x)))= !Bb (vlS S x) a:=by rw[G];rfl
  rw[z];exact Ir w r S x 219 b o _ I t rfl _ fun W e=>nd W r b o _ d a N g (e.cell E O) (D W e) G
 ·have z:Fd (vlS S x) 5 h v (decide (v=1)) (d.map (Bb (vlS S x)))=d.all (Bb (vlS S x)):=by rw[show Fd (vlS S x) 5 h v (decide (v=1)) (d.map (Bb (vlS S x)))=(d.map (Bb (vlS S x))).all id from rfl,List.all_map];rfl
  rw[z];exact Ir w r S x 220 b o _ I t rfl _ fun W e=>nT W r b o _ d N g A (e.cell E O) (D W e)
 ·have z:Fd (vlS S x) 6 h v (decide (v=1)) (d.map (Bb (vlS S x)))=d.any (Bb (vlS S x)):=by rw[show Fd (vlS S x) 6 h v (decide (v=1)) (d.map (Bb (vlS S x)))=(d.map (Bb (vlS S x))).any id from rfl,List.any_map];rfl
  rw[z];exact Ir w r S x 221 b o _ I t rfl _ fun W e=>pw W r b o _ d N g A (e.cell E O) (D W e)
 ·omega
 ·omega
 ·omega
 ·exact Ir w r S x 222 b o _ I t rfl _ fun W e=>kZ W r b o _ (t.E e (fun _ _=>by simp))
 ·have K:d.length=2:=by simpa[Am]using s
  obtain⟨a,c,G⟩:=GM K;have z:Fd (vlS S x) 16 h v (decide (v=1)) (d.map (Bb (vlS S x)))=(Bb (vlS S x) c||(decide (v=1)&&Bb (vlS S x) a)):=by rw[G];rfl
  rw[z];exact Ir w r S x 223 b o _ I t rfl _ fun W e=>gU W r b o _ v d a c N g (e.cell m O) (e.cell E O) (D W e) G
 ·have K:d.length=2:=by simpa[Am]using s
  obtain⟨a,c,G⟩:=GM K;have z:Fd (vlS S x) 17 h v (decide (v=1)) (d.map (Bb (vlS S x)))=(Bb (vlS S x) c&&(decide (v=1)||Bb (vlS S x) a)):=by rw[G];rfl
  rw[z];exact Ir w r S x 224 b o _ I t rfl _ fun W e=>kN W r b o _ v d a c N g (e.cell m O) (e.cell E O) (D W e) G
end
def QM:=@List.toArray_eq_iff
def ah(w:World)(B:Nat)(v:Value)(l:LF)(L:List (LV))(ok:Nat->Prop)(a:w.ownsRow B 37 5 v l.length L.flatten)(j:FsAt ok w L l)
  (k:∀b,ok b->Unm w b/\b<w.heap.size/\v.ownBlock≠some b)(E:∀x∈l,szF x<=1000000)(P:l.length<4611686018427387904):
  Fn Zp 207 [v,IU] w fun u w'=>Keep v.ownBlock.toList w w'/\u.ownBlock=v.ownBlock/\∃z,w'.ownsRow B 37 5 u (Dl l).length z.flatten/\FsAt ok w' z (Dl l):=by
 have X:∃p n i,v=.slice p n i:=by
  rcases a.2 with⟨e,N⟩|⟨g,i,C,e,_⟩
  ·exact⟨_,_,_,e⟩
  ·exact⟨_,_,_,e⟩
 obtain⟨p,n,i,rfl⟩:=X;have T:∀b,ok b->b∉(Value.slice p n i).ownBlock.toList:=fun b S V=>(k b S).2.2 (Aw.1 V);have W:∀g,(Value.slice p n i).ownBlock=some g->g<w.heap.size:=fun g y=>(Ao a y).2;refine AM func207 rfl ntmps207 (go ?_);refine Ac (L:=[IU]) rfl (fun Q D=>go ?_);have z1:=D.size;have I:=D.D;have d:(Value.slice p n i).ownBlock≠some w.heap.size:=fun e=>by have:=W _ e;omega
 have f:w.heap.size∉(Value.slice p n i).ownBlock.toList:=fun V=>d (Aw.1 V);refine gC (nv Q B _ l L ok (CD a D.E) (j.ext D.E) (fun b S=>⟨(k b S).1.eq (D.E.block b (k b S).2.1 O),by have:=(k b S).2.1;omega,(k b S).2.2⟩) E P) ?_;rintro _ G⟨rfl,m,t,Z,c,R,q,M⟩;have K:Z.length=l.length:=c.length_eq;have r:Keep (Value.slice p n i).ownBlock.toList w G:=D.E.any.Q m (fun _ h _=>h);refine go ?_;rw[<-K]at q;refine AD (cU G B _ Z t ok w.heap.size q M (fun b S=>⟨(k b S).1.eq (r.block b (k b S).2.1 (T b S)),by have:=(k b S).2.1;have:=r.size;omega,(k b S).2.2⟩) (fun x V=>E x (c.mem_iff.1 V)) (I.E m f) d) rfl ?_;rintro u w3⟨F,o,H,s,A⟩;rw[il R c]at s A
 obtain⟨p',n',a0,rfl⟩:∃p n i,u=.slice p n i:=by
  rcases s.2 with⟨e,N⟩|⟨g,i,C,e,_⟩
  ·exact⟨_,_,_,e⟩
  ·exact⟨_,_,_,e⟩
 refine gR ?_;exact⟨r.Q F (fun _ h _=>h),o,H,s,A.E F T⟩
def dN(w:World)(c:LV)(f:Fml)(ok:Nat->Prop)(K:FAt ok w (.agg c.toArray) f)(G:f.op=4->0<f.args.length):
  Fn Zp 210 [.agg c.toArray] w fun u w'=>∃d:LV,u=.tuple #[.agg d.toArray,.bool (decide (f.op=4))]/\Ext w w'/\FAt ok w' (.agg d.toArray) (if f.op=4 then f.args.getD 0 Ad else Ad):=by
 obtain⟨V,Z,x2,x3,x4,rfl⟩:=K.v5;obtain⟨H,e,p,i,E,l,t⟩:=K.form;simp only[Kb,QM,I7,KG]at e;obtain⟨rfl,rfl,rfl,rfl,rfl⟩:=e;obtain⟨N,g,rfl,z,n,_⟩:=id i;refine AM func210 rfl ntmps210 (go ?_);refine Ac (L:=[iV f.op,AA f.name,iV f.val,iV f.bound,.slice N f.args.length g]) rfl (fun P D=>?_);refine Ai (L:=zero5) (fun S R=>go ?_);have Q:=D.E.Q R.E;have C:=D.D.E R.E O;have h:=R.D;have z1:=D.size;by_cases A:f.op=4
 ·obtain⟨a,o⟩:∃a,f.args[0]?=some a:=⟨_,AU (G A)⟩;obtain⟨d,B⟩:∃d,p[0]?=some d:=⟨_,AU (by rw[E];exact G A)⟩;have s:=t 0 d a B o;obtain⟨b,W,X,T,j,rfl⟩:=s.v5;obtain⟨q,m,rfl,k,v⟩:=Sl.fml i l B (G A);have M:q<w.heap.size:=HX w _ (v 0 _ rfl);rw[AJ A,BE A,show f.args.getD 0 Ad=a by rw[Ce,o];rfl];rw[A]at C;refine go ?_;refine Al (L:=[b,W,X,T,j]) rfl rfl (v.E Q O) ?_;refine Aa (cs:=[b,W,X,T,j]) rfl rfl rfl s.one h rK (fun F x=>go ?_);exact Dp rfl rfl rfl x.D.cells ⟨[b,W,X,T,j],rfl,Q.E x.E rE,((s.lt.ext Q).E x.E (fun y I r=>by have:=I.2;simp at r;omega)).mono fun y I=>I.1⟩
 ·rw[AG A,BC A];refine go ?_;refine Aa (cs:=zero5) rfl rfl rfl (Ak rfl) h rK (fun F x=>go ?_);exact Dp rfl rfl rfl x.D.cells ⟨zero5,rfl,Q.E x.E rE,FAt.leaf _ _ 0 [] 0 0⟩
def SlAt.c5{ok:Nat->Prop}{w:World}{a:Option Addr}{n c:Nat}{l:LF}{k:Nat}(h:SlAt fmlR ok w (.slice a n c) l)(P:k<l.length):∃b o f i g m j,a=some ⟨b,o,none⟩/\Cells w b (o+k*5) [f,i,g,m,j]/\FAt ok w (.agg [f,i,g,m,j].toArray) (l.getD k Ad):=by
 have p:l[k]?=some (l.getD k Ad):=by rw[Ce,AU P];rfl
 obtain⟨b,o,e,_,d,x,T,K⟩:=SlAt.pf h p;obtain⟨f,i,g,m,j,rfl⟩:=An x;exact⟨b,o,f,i,g,m,j,e,T,K⟩
def Inc.at{l:LF}(h:Inc l):∀i j,i<j->j<l.length->BO (l.getD i Ad) (l.getD j Ad)<0:=by
 induction l with
 |nil=>intro i j _ C;simp at C
 |cons a l ih=>
  intro i j v C;obtain⟨Z,W⟩:=h;cases j with
  |zero=>omega
  |succ j=>
   have m:j<l.length:=by simpa using C
   have b:(a::l).getD (j+1) Ad=l.getD j Ad:=rfl;rw[b];cases i with
   |zero=>exact Z _ (by rw[Ce,AU m];exact E9 m)
   |succ i=>exact ih W i j U m
def ic{l:LF}{y:Fml}{i:Nat}(o:Inc l)(F:i<=l.length)(Z:∀a,a<i->BO (l.getD a Ad) y<0)(W:∀a,i<=a->a<l.length->¬BO (l.getD a Ad) y<0):
  l.any (fun z=>decide (BO z y=0))=(decide (i<l.length)&&decide (BO (l.getD i Ad) y=0)):=by
 rw[RF,Ia,AZ,BD,BD];constructor
 ·rintro⟨z,p,T⟩;rw[BD]at T;obtain⟨j,C⟩:=Cn p;have d:=(Ah.1 C).1;have c:l.getD j Ad=z:=by rw[Ce,C];rfl
  by_cases b:j<i
  ·have:=Z j b;rw[c]at this;omega
  ·by_cases B:j=i
   ·subst B;exact⟨d,by rw[c];exact T⟩
   ·have R:=o.at i j U d;rw[c,(Gf _ _).1 T]at R;exact absurd R (W i (AO _) U)
 ·rintro⟨R,A⟩;exact⟨l.getD i Ad,by rw[Ce,AU R];exact E9 R,by rw[BD];exact A⟩
def qS(w:World)(a:Option Addr)(cap:Nat)(l:LF)(y:Fml)(d:LV)(ok a2:Nat->Prop)(hl:SlAt fmlR ok w (.slice a l.length cap) l)(hy:FAt a2 w (.agg d.toArray) y)(hu:∀b,ok b->Unm w b)(hz:∀x∈l,szF x<=1000000)(P:Inc l)(hn:l.length<=1000000):
  Fn Zp 291 [.slice a l.length cap,.agg d.toArray,IU] w fun u w'=>∃i:Int,u=.tuple #[iV i,.bool (l.any fun z=>decide (BO z y=0))]/\Ext w w':=by
 obtain⟨B,D,E,T,F,rfl⟩:=hy.v5;have a4:∀V,Ext w V->∀b,(ok b/\b<w.heap.size)->Unm V b:=fun V e b hb=>(hu b hb.1).eq (e.block b hb.2 O);have a3:=hl.lt ry;refine AM func291 rfl ntmps291 (go ?_);refine Ac (L:=[B,D,E,T,F]) rfl (fun w1 n1=>go ?_);have b1:=n1.D;have k1:=n1.E;refine go ?_;refine Aj (α:=Nat×Nat) (fun|(i,j)=>[(0,.slice a l.length cap),(2,IU),(4,pt w.heap.size),(8,.int .i64 (l.length:Int)),(9,.int .i64 (i:Int)),(10,.int .i64 (j:Int))]) (fun x W=>x.1<=x.2/\x.2<=l.length/\Ext w1 W/\(∀p,p<x.1->BO (l.getD p Ad) y<0)/\(∀p,x.2<=p->p<l.length->¬BO (l.getD p Ad) y<0)) (fun x=>x.2-x.1) (0,l.length) ag ⟨by simp,by simp,Ext.refl _,fun p C=>absurd C O,fun p C a6=>absurd a6 (by simp only at C;omega)⟩ ?_;rintro⟨i,j⟩W fr⟨a5,Z,K,H,G⟩;simp only at a5 Z H G;have s:=k1.Q K;refine go ?_;by_cases hlt:i<j
 ·refine go ?_;refine YD rfl (mV U U) ?_;refine oo (m:=i+j) (n:=1) rfl rfl U ?_;obtain⟨h,hh⟩:∃h,h=(i+j)/2^1:=⟨_,rfl⟩;rw[<-hh];have a8:h=(i+j)/2:=hh;have a9:h<j:=by omega
  have b0:i<=h:=by omega
  refine go ?_;obtain⟨b,o,f,t,g,v,A,rfl,N,S⟩:=(a3.ext s).c5 (k:=h) U;refine Ab (rd 0 6 (.alt 6 (.read 7 .done) .stop)) AX rD (fun X c ed=>⟨Ext X,?_,?_⟩)
  ·exact sY
  have Q:=s.Q c;have s1:∀V,Ext X V->Cells V b (o+h*5) [f,t,g,v,A]:=fun V e=>N.E (c.Q e) O;have s2:∀V,Ext X V->Cells V w.heap.size 0 [B,D,E,T,F]:=fun V e=>(b1.E ((K.Q c).Q e) O).cells;(refine D_R rfl rfl (fun W I=>K3 rfl Z3) (D_R rfl rfl (fun W I=>BY rfl Z3) (D_R rfl rfl (fun W I=>AS rfl Z3) (D_R rfl rfl (fun W I=>DZ rfl rfl rfl U Z3) ?_)))<;>(apply D_R rfl rfl;(intro W I;refine Al rfl rF (s1 W I) ?_;exact Z3))<;>(apply D_R rfl rfl;(intro W I;refine Al rfl rF (s2 W I) ?_;exact Z3)))
  refine D_E rfl ?_;have a0:l.getD h Ad∈l:=by rw[Ce,AU (by omega:h<l.length)];exact E9 (by omega:h<l.length)
  refine Bg (v1:=[]) (v2:=[]) (vs:=[.agg [f,t,g,v,A].toArray,.agg [B,D,E,T,F].toArray]) rfl (Ng X _ _ _ y _ a2 (S.ext c) (hy.ext Q) (.inl (a4 X Q)) (hz _ a0)) rfl ?_;rintro _ w4⟨rfl,r⟩;refine AB ⟨Ext X,fun _ e=>e,r,?_⟩;have k5:=(K.Q c).Q r;by_cases q:BO (l.getD h Ad) y<0
  ·refine go ?_;refine⟨(h+1,j),⟨rfl,⟨rfl,rfl,rfl,rfl,?_,rfl,trivial⟩,⟨by simp only;omega,Z,k5,fun p C=>?_,G⟩⟩,by simp only;omega⟩
   ·show iV ((h:Int)+1)=_;rw[BB];rfl
   ·simp only at C;by_cases a1:p=h
    ·subst a1;exact q
    ·have R:=P.at p h U U;exact JD _ _ _ R q
  ·refine go ?_;refine⟨(i,h),⟨rfl,ag,⟨by simp only;omega,by simp only;omega,k5,H,fun p C a7=>?_⟩⟩,by simp only;omega⟩;simp only at C;by_cases a1:p=h
   ·subst a1;exact q
   ·have R:=P.at h p U a7;intro h4;exact q (JD _ _ _ R h4)
 ·refine go ?_;obtain rfl:i=j:=by omega
  rw[ic P Z H G];by_cases M:i<l.length
  ·rw[BE M,HE];obtain⟨b,o,f,t,g,v,A,rfl,N,S⟩:=(a3.ext s).c5 (k:=i) U;refine Ab (rd 0 11 (.alt 11 (rd 12 4 .done) .stop)) AX rD (fun X c ed=>⟨Ext X,?_,?_⟩)
   ·exact sY
   have Q:=s.Q c;have s1:∀V,Ext X V->Cells V b (o+i*5) [f,t,g,v,A]:=fun V e=>N.E (c.Q e) O;have s2:∀V,Ext X V->Cells V w.heap.size 0 [B,D,E,T,F]:=fun V e=>(b1.E ((K.Q c).Q e) O).cells;(refine D_R rfl rfl (fun W I=>AS rfl Z3) (D_R rfl rfl (fun W I=>AS rfl Z3) (D_R rfl rfl (fun W I=>AS rfl Z3) (SQ rfl rfl rfl rfl U (D_R rfl rfl (fun W I=>AH rfl Z3) (D_R rfl rfl (fun W I=>AE rfl (K3 rfl Z3)) (D_R rfl rfl (fun W I=>AE rfl (BY rfl Z3)) (D_R rfl rfl (fun W I=>AE rfl (AS rfl Z3)) (D_R rfl rfl (fun W I=>AE rfl (DZ rfl rfl rfl U Z3)) ?_))))))))<;>(apply D_R rfl rfl;(intro W I;(refine AE rfl ?_;refine Al rfl rF (s1 W I) ?_);exact Z3))<;>(apply D_R rfl rfl;(intro W I;(refine AE rfl ?_;refine Al rfl rF (s2 W I) ?_);exact Z3)))
   refine D_E rfl ?_;have a0:l.getD i Ad∈l:=by rw[Ce,AU M];exact E9 M
   refine go ?_;refine Bg (v1:=[]) (v2:=[]) (vs:=[.agg [f,t,g,v,A].toArray,.agg [B,D,E,T,F].toArray]) rfl (Ng X _ _ _ y _ a2 (S.ext c) (hy.ext Q) (.inl (a4 X Q)) (hz _ a0)) rfl ?_;rintro _ w4⟨rfl,r⟩;refine AB ⟨Ext X,fun _ e=>e,r,?_⟩;by_cases q:BO (l.getD i Ad) y=0
   ·rw[BE q];refine go ?_;exact DF rfl ⟨_,rfl,Q.Q r⟩
   ·rw[BC q];refine go ?_;exact DF rfl ⟨_,rfl,Q.Q r⟩
  ·rw[BC M,MD];refine Ab (rd 0 11 (.alt 11 (rd 12 4 .done) .stop)) AX rD (fun X c ed=>⟨Ext X,?_,?_⟩)
   ·exact sY
   refine D_R rfl rfl (fun W I=>AS rfl Z3) (D_R rfl rfl (fun W I=>AS rfl Z3) (D_R rfl rfl (fun W I=>AS rfl Z3) (PH rfl rfl rfl rfl U (D_R rfl rfl (fun W I=>AH rfl Z3) (Bq rfl rfl rfl rfl (Bq rfl rfl rfl rfl (Bq rfl rfl rfl rfl (Bq rfl rfl rfl rfl (Bq rfl rfl rfl rfl (Bq rfl rfl rfl rfl ?_))))))))));refine D_E rfl ?_;refine AP rfl ?_;refine AB ⟨Ext X,fun _ e=>e,Ext.refl _,?_⟩;refine go ?_;exact DF rfl ⟨_,rfl,s.Q c⟩
abbrev Y7:Value:=.func (.func 210) #[] #[]
def dQ(w:World)(a:Option Addr)(cap:Nat)(l:LF)(ok:Nat->Prop)(hl:SlAt fmlR ok w (.slice a l.length cap) l)(hu:∀b,ok b->Unm w b)(q:∀x∈l,szF x<=1000000)(a1:Inc l)(hn:l.length<=1000000)(h4:∀x∈l,x.op=4->0<x.args.length):
  Fn Zp 209 [.slice a l.length cap,IU,Y7] w fun u w'=>u=.bool (Fg l)/\Ext w w':=by
 have C:=hl.lt ry;have a3:∀V,Ext w V->∀b,(ok b/\b<w.heap.size)->Unm V b:=fun V e b D=>(hu b D.1).eq (e.block b D.2 O);refine AM func209 rfl ntmps209 (go ?_);refine Aj (α:=Nat) (fun k=>[(0,.slice a l.length cap),(1,IU),(2,Y7),(13,.slice a l.length cap),(14,iV (l.length:Int)),(15,iV (k:Int))]) (fun k W=>k<=l.length/\Ext w W/\∀(i:Nat)(x:Fml),i<k->l[i]?=some x->(decide (x.op=4)&&l.any fun y=>decide (BO y (x.args.getD 0 Ad)=0))=false) (fun k=>l.length-k) 0 ag ⟨by omega,Ext.refl _,fun i x F=>by omega⟩ ?_;rintro k W fr⟨hk,K,Z⟩;refine go ?_;by_cases E:k<l.length
 ·refine go ?_;obtain⟨b,o,f,t,g,A,B,rfl,hc,S⟩:=(C.ext K).c5 E;have h:l[k]?=some (l.getD k Ad):=by rw[Ce,AU E];rfl
  obtain⟨x,a4⟩:∃x,x=l.getD k Ad:=⟨_,rfl⟩;rw[<-a4]at h S;have a2:=BA h;refine go ?_;refine Al (L:=[f,t,g,A,B]) rfl rfl hc ?_;refine Ai (L:=zero5) (fun w4 M=>?_);refine Aa (cs:=[f,t,g,A,B]) rfl rfl rfl S.one M.D rK (fun c P=>go ?_);have b8:Blk c W.heap.size 37 [f,t,g,A,B]:=P.D;have H:Ext W c:=M.E.E P.E O;refine go ?_;refine Bg (v1:=[]) (v2:=[]) (vs:=[.agg [f,t,g,A,B].toArray]) rfl (dN c _ x _ (S.ext H) (h4 x a2)) rfl ?_;rintro _ w6⟨d,rfl,k6,j⟩;obtain⟨Q,y1,X,T,y4,rfl⟩:=j.v5;refine go ?_;refine Ai (L:=zero5) (fun w7 N=>?_);refine Aa (cs:=[Q,y1,X,T,y4]) rfl rfl rfl j.one N.D rK (fun s R=>?_);have b9:Blk s w6.heap.size 37 [Q,y1,X,T,y4]:=R.D;have n:Ext w6 s:=N.E.E R.E O;have v:Ext w s:=((K.Q H).Q k6).Q n
  have G:∀(V:World),Ext w V->∀(r:(decide (x.op=4)&&l.any fun y=>decide (BO y (x.args.getD 0 Ad)=0))=false),k+1<=l.length/\Ext w V/\∀(i:Nat)(z:Fml),i<k+1->l[i]?=some z->(decide (z.op=4)&&l.any fun y=>decide (BO y (z.args.getD 0 Ad)=0))=false:=fun V e r=>⟨by omega,e,fun i z F q=>by
   by_cases a0:i=k
   ·subst a0;rw[h]at q;cases q;exact r
   ·exact Z i z U q⟩
  by_cases m:x.op=4
  ·rw[BE m];rw[AJ m]at j;refine gC (qS s _ cap l _ _ _ _ (C.ext v) (j.ext n) (a3 s v) q a1 hn) ?_;rintro _ w9⟨i,rfl,I⟩;cases hr:l.any fun z=>decide (BO z (x.args.getD 0 Ad)=0)with
   |true=>
    refine go ?_;refine AC rfl ⟨?_,v.Q I⟩
    have:Fg l=true:=by
     unfold Fg;exact RN (p:=fun x=>decide (x.op=4)&&l.any fun y=>decide (BO y (x.args.getD 0 Ad)=0)) h (by rw[BE m];exact hr)
    rw[this];rfl
   |false=>
    refine go ?_;refine⟨k+1,⟨rfl,⟨rfl,rfl,rfl,rfl,rfl,?_,trivial⟩,G _ (v.Q I) (by rw[hr,Bool.and_false])⟩,by omega⟩;show iV ((k:Int)+1)=_;rw[BB];rfl
  ·rw[BC m];refine go ?_;refine⟨k+1,⟨rfl,⟨rfl,rfl,rfl,rfl,rfl,?_,trivial⟩,G _ v (by rw[BC m,MD])⟩,by omega⟩;show iV ((k:Int)+1)=_;rw[BB];rfl
 ·refine go ?_;refine AC rfl ⟨?_,K⟩
  have:Fg l=false:=by
   unfold Fg;exact VQ (p:=fun x=>decide (x.op=4)&&l.any fun y=>decide (BO y (x.args.getD 0 Ad)=0)) fun i x F h=>Z i x U h
  rw[this];rfl
end Go.Proofs.YtjbocjodncbogaaGreatDoor
