/- TopTextDuties, part 14 of 15: lemmas. Conditions: none. -/
import Derived.Test.YtjbocjodncbogaaGreatDoorDX13
namespace Go.Proofs.YtjbocjodncbogaaGreatDoor
open Go.RowKit Go.Proofs.Tryz
set_option linter.unusedVariables false
set_option linter.defProp false
set_option maxHeartbeats 4000000 in
def jD(w:World)(t:Nat)(S:List Sgn)(xs:List Int)(m p B:Nat)(h:AxG w t S xs m p B):Fn Zp 187 [pt t] w fun u w'=>∃r G i,u=.map (some r)/\Ext w w'/\LwG w' G i t S xs m p B/\VMap w' r (TB G i):=by
 refine AM func187 rfl ntmps187 (go ?_);refine Ac (L:=[pt t]) rfl (fun Q D=>go ?_);refine Ai (fun w2 R=>?_);refine AW (v:=.func (.func 237) #[] #[pt w.heap.size]) rfl rfl rfl R.D O (fun C a=>?_);have z1:=D.size;have z2:=R.size;have z3:=a.size;have g:Ext Q C:=R.E.E a.E O;have H:LwG C w.heap.size Q.heap.size t S xs m p B:=⟨D.D.E g O,a.D,h.ext (D.E.Q g)⟩;have e3:Ext w C:=D.E.Q g;obtain⟨i,f0⟩:∃i,i=Q.heap.size:=⟨_,rfl⟩;rw[<-f0]at H⊢;clear R a g;refine go ?_;refine Nq (fun f3 c9 e8 b0=>go ?_);refine Bd rfl rfl rfl b0 rfl (fun f4 e d b1=>?_);have d0:=(c9).E e O;replace d:=d.Q e8;clear b0 c9 e8 e;refine go ?_;refine Bd rfl rfl rfl b1 rfl (fun g5 a2 X c1=>?_);have e0:=(d0).E a2 O;replace X:=X.Q d;clear b1 d0 d a2;refine go ?_;refine Bd rfl rfl rfl c1 rfl (fun g6 a3 n c2=>?_);have e1:=(e0).E a3 O;replace n:=n.Q X;clear c1 e0 X a3;refine go ?_;refine Bd rfl rfl rfl c2 rfl (fun g7 a4 s c3=>?_);have e2:=(e1).E a4 O;replace s:=s.Q n;clear c2 e1 n a4;refine go ?_;refine Bd rfl rfl rfl c3 rfl (fun g8 a5 F c4=>?_);have yx5:=(e2).E a5 O;replace F:=F.Q s;clear c3 e2 s a5;refine go ?_;refine Bd rfl rfl rfl c4 rfl (fun g9 a6 A c5=>?_);have e4:=(yx5).E a6 O;replace A:=A.Q F;clear c4 yx5 F a6;refine go ?_;refine Bd rfl rfl rfl c5 rfl (fun h0 a7 x c6=>?_);have e5:=(e4).E a7 O;replace x:=x.Q A;clear c5 e4 A a7;refine go ?_;refine Bd rfl rfl rfl c6 rfl (fun h1 a8 q c7=>?_);have e6:=(e5).E a8 O;replace q:=q.Q x;clear c6 e5 x a8;refine go ?_;refine Bd rfl rfl rfl c7 rfl (fun h2 a9 l c8=>?_);have e7:=(e6).E a9 O;replace l:=l.Q q;clear c7 e6 q a9;refine go ?_;refine Bd rfl rfl rfl c8 rfl (fun f5 N f b2=>?_);have d1:=(e7).E N O;replace f:=f.Q l;clear c8 e7 l N;refine go ?_;refine Bd rfl rfl rfl b2 rfl (fun f6 c b b3=>?_);have d2:=(d1).E c O;replace b:=b.Q f;clear b2 d1 f c;refine go ?_;refine Bd rfl rfl rfl b3 rfl (fun f7 W V b4=>?_);have d3:=(d2).E W O;replace V:=V.Q b;clear b3 d2 b W;refine go ?_;refine Bd rfl rfl rfl b4 rfl (fun f8 T P b5=>?_);have d4:=(d3).E T O;replace P:=P.Q V;clear b4 d3 V T;refine go ?_;refine Bd rfl rfl rfl b5 rfl (fun f9 K I b6=>?_);have d5:=(d4).E K O;replace I:=I.Q P;clear b5 d4 P K;refine go ?_;refine Bd rfl rfl rfl b6 rfl (fun g0 E j b7=>?_);have d6:=(d5).E E O;replace j:=j.Q I;clear b6 d5 I E;refine go ?_;refine Bd rfl rfl rfl b7 rfl (fun g1 z y b8=>?_);have d7:=(d6).E z O;replace y:=y.Q j;clear b7 d6 j z;refine go ?_;refine Bd rfl rfl rfl b8 rfl (fun g2 Z k b9=>?_);have d8:=(d7).E Z O;replace k:=k.Q y;clear b8 d7 y Z;refine go ?_;refine Bd rfl rfl rfl b9 rfl (fun g3 a0 o c0=>?_);have d9:=(d8).E a0 O;replace o:=o.Q k;clear b9 d8 k a0;refine go ?_;refine Bd rfl rfl rfl c0 rfl (fun g4 a1 e9 f1=>?_);have f2:=(d9).E a1 O;replace e9:=e9.Q o;clear c0 d9 o a1;refine go ?_;have M:=f2;exact AC rfl ⟨_,_,_,rfl,e3.Q M,H.ext M,f1⟩
noncomputable def tvs (A:List (Nat->Prop)):List (Nat->Bool):=A.map fun q t=>tv (q t)
def mM(w:World)(I i t b o:Nat)(S:List Sgn)(xs:List Int)(m p B:Nat)(op:Int)(l:LU)(v d:Int)(A:List (Nat->Prop))(h:LwG w I i t S xs m p B)(x:A.length<=1000000)(k:∀q∈A,Per B p q)
  (N:E0 op=true)(G:Am op A.length=true)(P:op=3->knS S l v=true)(y:CC w b (o+1) (AA l))(c:CC w b (o+2) (iV v)):
  ∃(F:FuncId)(_:AI Zp F)(j:LV),(TB I i).lookup op=some (mvT F j)/\∀W H,Ext w W->TrusG W H (B+p) (tvs A)->Fn Zp F ([.pointer (sn b o),H]++j) W fun u w'=>Tru w' u (B+p) (fun t=>tv (opS (wdG S xs m p) op l v d A t))/\Ext W w':=by
 have g:A.length=1->∃q,A=[q]:=fun Z=>by
  match A,Z with
  | [q],_=>exact⟨q,rfl⟩
 have f:A.length=2->∃q r,A=[q,r]:=fun Z=>by
  match A,Z with
  | [q,r],_=>exact⟨q,r,rfl⟩
 have z:(tvs A).length<=1000000:=by rw[tvs,Es];exact x
 rcases Hd N with rfl|rfl|rfl|rfl|rfl|rfl|rfl|rfl|rfl|rfl|rfl|rfl
 ·exact⟨_,inferInstance,[pt i],rfl,fun W H e s=>(eu W I i t S xs m p B _ H (h.ext e)).mono fun u w' a=>⟨a.1.congr fun t _=>GB rf,a.2⟩⟩
 ·exact⟨_,inferInstance,[pt i],rfl,fun W H e s=>(cw W I i t S xs m p B _ H (h.ext e)).mono fun u w' a=>⟨a.1.congr fun t _=>GB rf,a.2⟩⟩
 ·exact⟨_,inferInstance,[pt I],rfl,fun W H e s=>(mN W I i t S xs m p B H b o l v (h.ext e) (P rfl) (e.cell y O) (e.cell c O)).mono fun u w' a=>⟨a.1.congr fun t _=>Gi rf,a.2⟩⟩
 ·obtain⟨q,rfl⟩:=g rO;exact⟨_,inferInstance,[pt I],rfl,fun W H e s=>(jE W I i t S xs m p B _ H _ _ rfl z (h.ext e) s).mono fun u w' a=>⟨a.1.congr fun t _=>by rw[PV];exact Gi rf,a.2⟩⟩
 ·exact⟨_,inferInstance,[pt I],rfl,fun W H e s=>(jC W I i t S xs m p B _ H _ z (h.ext e) s).mono fun u w' a=>⟨a.1.congr fun t _=>GB (by simp[opS,opP,tvs,tv_iff]),a.2⟩⟩
 ·refine⟨_,inferInstance,[pt I],rfl,fun W H e s=>(mO W I i t S xs m p B _ H _ z (h.ext e) s).mono fun u w' a=>⟨a.1.congr fun t _=>GB ?_,a.2⟩⟩;rw[D7,<-EK,Bu];simp[opS,opP,tvs,tv_iff]
 ·obtain⟨q,rfl⟩:=g rO;refine⟨_,inferInstance,[pt I],rfl,fun W H e s=>(em W I i t S xs m p B _ H _ _ rfl z (h.ext e) s).mono fun u w' a=>⟨a.1.congr fun t C=>Gi ?_,a.2⟩⟩;have V:=k q O;simp only[opS,opP,Dz];by_cases N:t+1<B+p
  ·rw[AJ N];simp
  ·have n:t+1=B+p:=by omega
   rw[AG N];simp[n,V B (AO _)]
 ·obtain⟨q,r,rfl⟩:=f rO;exact⟨_,inferInstance,[pt I],rfl,fun W H e s=>(dA W I i t S xs m p B _ H q r (h.ext e) (k q O) (k r O) s).mono fun u w' a=>⟨a.1.congr fun t _=>Gi rf,a.2⟩⟩
 ·obtain⟨q,r,rfl⟩:=f rO;exact⟨_,inferInstance,[pt I],rfl,fun W H e s=>(jF W I i t S xs m p B _ H q r (h.ext e) (k q O) (k r O) s).mono fun u w' a=>⟨a.1.congr fun t _=>Gi rf,a.2⟩⟩
 ·obtain⟨q,rfl⟩:=g rO;exact⟨_,inferInstance,[pt I],rfl,fun W H e s=>(fB W I i t S xs m p B H b o v _ q rfl (h.ext e) s (e.cell c O)).mono fun u w' a=>⟨a.1.congr fun t _=>Gi rf,a.2⟩⟩
 ·obtain⟨q,r,rfl⟩:=f rO;exact⟨_,inferInstance,[pt I],rfl,fun W H e s=>(cz W I i t S xs m p B H b o v q r (h.ext e) s (e.cell c O)).mono fun u w' a=>⟨a.1.congr fun t _=>Gi rf,a.2⟩⟩
 ·obtain⟨q,r,rfl⟩:=f rO;exact⟨_,inferInstance,[pt I],rfl,fun W H e s=>(eo W I i t S xs m p B H b o v q r (h.ext e) s (e.cell c O)).mono fun u w' a=>⟨a.1.congr fun t _=>Gi rf,a.2⟩⟩
def dzz{i:Bool}{op v b:Int}{l:LU}{args:LF}(h:BQ i (.mk op l v b args)=true):E0 op=true/\Am op args.length=true/\∀a∈args,∃i,BQ i a=true:=by
 rw[VT]at h;simp only[AZ]at h;exact⟨h.1.1.1.1,Fp h.1.1.1.2,fun a G=>⟨_,Ij h.2 G⟩⟩
set_option maxHeartbeats 1000000 in
def jJ(Q:World)(I c3 z s t mp:Nat)(S:List Sgn)(xs:List Int)(m p B:Nat)(hL:LwG Q I c3 t S xs m p B)(hm:VMap Q mp (TB I c3))(h5:Blk Q z 241 [.map (some mp)])(h6:Blk Q s 182 [.func (.func 188) #[] #[pt s,pt z]])(hs:Per m p (wdG S xs m p)):
  ∀(n:Nat)(w:World)(b o:Nat)(f:Fml),dpF f<=n->szF f<=10000->m+Cm f*p<=B->Ext Q w->PF AL w b o f->(∃i,BQ i f=true)->isB (knS S) f=true->Fn Zp 188 [.pointer (sn b o),pt s,pt z] w fun u w'=>Tru w' u (B+p) (fun t=>tv (sem (wdG S xs m p) f t))/\Ext w w':=by
 intro n
 induction n with
 |zero=>intro w b o f H;rw[Cr]at H;omega
 |succ n ih=>
 intro w b o f H hz c1 c hf a0 hk;rw[Cr]at H;rw[Bn]at hz;obtain⟨aa,cc,d1,q0,q1,q2,q3,q4,qa⟩:=hf.all;obtain⟨M,nm,v,bd,d⟩:=f;obtain⟨i0,a0⟩:=a0;obtain⟨b9,a4,b0⟩:=dzz a0;obtain⟨b7,b8⟩:=is_iff.1 hk;have d2:=D8 d;simp only[Fml.op,Fml.name,Fml.val,Fml.args]at*
 obtain⟨c8,hp,c9,d0⟩:=hL.ax.len
 have d4:m+E6 d*p<=B:=by
  rw[Cm]at c1;have:E6 d*p<=(E6 d+if M=15\/M=16\/M=17\/M=18\/M=19 then 1 else 0)*p:=IY _ U;omega
 rw[sem,Fw];obtain⟨A,T⟩:∃A,A=d.map (sem (wdG S xs m p)):=⟨_,rfl⟩;have a1:A.length=d.length:=by rw[T,Es]
 have c4:(tvs A).length=d.length:=by rw[tvs,Es,a1]
 rw[<-T];refine AM func188 rfl ntmps188 (go ?_);refine Mg (n:=d.length) rfl rfl rfl rfl rfl U U (fun w1 D=>?_);have z1:=D.size;have d7:=D.E.cell q4 O;refine go ?_;have d3:=hf.lt;obtain⟨g,hg⟩:∃g,g=w.heap.size:=⟨_,rfl⟩;have bg:=D.D;rw[<-hg]at bg⊢
 refine Aj (α:=Nat×LV) (fun|(k,_)=>[(0,.pointer (some ⟨b,o,none⟩)),(1,pt s),(2,pt z),(5,.slice (some ⟨g,0,none⟩) d.length d.length),(17,.int .i64 (d.length:Int)),(18,.int .i64 (k:Int))])
  (fun|(k,G),W=>k<=d.length/\Ext w W/\G.length=k/\Blk W g 112 (G++List.replicate (d.length-k) (.slice none 0 0))/\∀(j:Nat)(q:Nat->Prop),j<k->A[j]?=some q->∃u,G[j]?=some u/\Tru W u (B+p) (fun t=>tv (q t))/\u.ownBlock≠some g) (fun|(k,_)=>d.length-k) (0,[]) ag ⟨by omega,D.E,rfl,bg,fun j q hj=>by omega⟩ ?_
 rintro⟨k,G⟩W fr⟨c7,K,a2,bW,hW⟩;have c5:=K.cell q4 O;refine go ?_;by_cases a6:k<d.length
 ·obtain⟨y,hy⟩:=gl a6;have N:=BA hy;have c6:=Ds N;have d6:=Ci N;have d5:=IY p (OF N);obtain⟨Z,o',rfl,hfy⟩:=qa k y hy;have b4:b≠g:=by have:=HX w _ q4;simp only at this;omega
  have b3:s≠g:=by have:=h6.lt;have:=c.size;omega
  refine go ?_;refine Ab (rd 0 9 (.alt 9 (.read 10 (.alt 11 .done .stop)) .stop)) AX rD (fun X l ed=>⟨Keep [g] X,?_,?_⟩)
  ·exact tK
  have s1:∀V,Keep [g] X V->V.cell? ⟨s,0,none⟩=some (.func (.func 188) #[] #[pt s,pt z]):=fun V e=>((h6.E ((c.Q K).Q l) O).E e (by simp[b3])).cell rfl;have s2:∀V,Keep [g] X V->V.cell? ⟨b,o+4,none⟩=some (.slice (sn Z o') d.length cc):=fun V e=>e.cell (l.cell c5 O) (by simp[b4]);refine gE ?_;refine Bg (v1:=[]) (v2:=[pt s,pt z]) (vs:=[.pointer (sn Z (o'+k*5))]) rfl (ih X Z (o'+k*5) y U U U ((c.Q K).Q l) (hfy.E (K.Q l) (fun _ _=>by simp)) (b0 y N) (b8 y N)) rfl ?_;rintro u W1⟨C,k1⟩;obtain⟨R,rfl,bu⟩:=C;refine AB ⟨Keep [g] X,fun _ e=>e,k1.any,?_⟩;refine gE ?_;have a3:=l.Q k1;have b1:=bW.E a3 O;have a5:R≠g:=fun e=>by subst e;have:=b1.symm.Q bu;simp at this
  refine AW (v:=.slice (sm R) (B+p) (B+p)) rfl rfl rfl b1 rE (fun W2 E=>?_);refine AB ⟨Keep [g] X,fun _ e=>e,k1.any.Q E.E (fun x h _=>h),?_⟩;refine go ?_;have b2:=E.D;rw[Bs,Re _ _ _ _ _ a2 a6]at b2;have hrk:A[k]?=some (sem (wdG S xs m p) y):=by rw[T,Cl,hy];rfl
  refine⟨(k+1,G++[.slice (sm R) (B+p) (B+p)]),⟨rfl,ag,⟨by omega,(K.Q a3).E E.E rE,by simp[a2],b2,fun j r hj L=>?_⟩⟩,by simp only;omega⟩;by_cases b6:j<k
  ·obtain⟨u,C,⟨gj,rfl,bj⟩,a7⟩:=hW j r b6 L;have b5:gj≠g:=fun e=>a7 (congrArg some e);exact⟨_,by rw[D4 U];exact C,⟨gj,rfl,(bj.E a3 O).E E.E (by simp[b5])⟩,a7⟩
  ·obtain rfl:j=k:=by omega
   rw[hrk]at L;cases L;exact⟨_,by rw[EJ U,a2];simp,⟨R,rfl,bu.E E.E (by simp[a5])⟩,fun e=>a5 (Ae e)⟩
 ·obtain rfl:k=d.length:=by omega
  rw[Ot,UR,Ch]at bW
  have hT:TrusG W (.slice (sm g) d.length d.length) (B+p) (tvs A):=⟨g,G,by rw[c4],bW,fun j r L=>by
   rw[tvs,Cl]at L;obtain⟨q,P,rfl⟩:=Dd.1 L;obtain⟨u,C,ht,_⟩:=hW j q (by rw[<-a1];exact(Ah.1 P).1) P;exact⟨u,C,ht⟩⟩
  have a9:=hL.ext (c.Q K);rw[<-a1]at a4
  have c2:∀q∈A,Per B p q:=fun q P=>by
   rw[T]at P;obtain⟨a,ha,rfl⟩:=By.1 P;refine(Xq hp hs a).mono ?_;have:=IY p (OF ha);omega
  obtain⟨F,hF,a8,c0,hcall⟩:=mM W I c3 t b o S xs m p B M nm v bd A a9 U c2 b9 a4 b7 (K.cell q1 O) (K.cell q2 O);refine go ?_;refine Ab (rd 0 8 (.alt 8 (.read 9 .done) .stop)) AX rD (fun X l ed=>⟨Ext X,?_,?_⟩)
  ·exact sY
  have e1:=c.Q K;have s1:∀V,Ext X V->CC V z 0 (.map (some mp)):=fun V e=>(h5.E (e1.Q (l.Q e)) O).cell rfl;have s2:∀V,Ext X V->CC V b (o+0) (iV M):=fun V e=>(K.Q (l.Q e)).cell q0 O;refine go ?_;refine D_R rfl rfl (fun V hV=>by refine Qq rfl rfl (hm.E (e1.Q (l.Q hV)) O) c0 ?_;exact AB ⟨rfl,rfl,rfl⟩) ?_;refine gE ?_;refine Bg (v1:=[]) (v2:=a8) (vs:=[.pointer (sn b o),.slice (sm g) d.length d.length]) rfl (hcall X _ l (hT.ext l)) rfl ?_;rintro u w4⟨C,k4⟩;refine AB ⟨Ext X,fun _ e=>e,k4,?_⟩;refine gR ?_;exact⟨C,(K.Q l).Q k4⟩
def nC(m p:Nat):Per m p (HV m p):=fun t P=>by
 unfold HV;by_cases C:p=0
 ·subst C;rfl
 ·rw[AG U];by_cases h:t<m+p
  ·rw[AJ h,show t+p-m=t-m+p by omega,Nat.add_mod_right,XA U];omega
  ·rw[AG h,show t+p-m=t-m+p by omega,Nat.add_mod_right]
def oS(S:List Sgn)(xs:List Int)(m p:Nat):Per m p (wdG S xs m p):=fun t P=>by
 funext nm
 unfold wdG;rw[nC m p t P]
def mR(w:World)(t:Nat)(S:List Sgn)(xs:List Int)(m p B:Nat)(b o:Nat)(f:Fml)(n:AxG w t S xs m p B)(E:szF f<=10000)(A:m+Cm f*p<=B)(K:PF AL w b o f)(y:∃i,BQ i f=true)(P:isB (knS S) f=true):Fn Zp 124 [pt t,.pointer (sn b o)] w fun u w'=>Tru w' u (B+p) (fun t=>tv (sem (wdG S xs m p) f t))/\Ext w w':=by
 refine AM func124 rfl ntmps124 ?_;refine gC (jD w t S xs m p B n) ?_;rintro _ Q⟨r,I,k,rfl,d,s,z⟩;refine Ai (fun G R=>?_);refine AW (v:=.map (some r)) rfl rfl rfl R.D O (fun a e=>?_);have X:Ext Q a:=R.E.E e.E O;have j:Blk a Q.heap.size 241 [.map (some r)]:=e.D;have T:=X.size;have F:=R.size;have V:=e.size;refine go ?_;refine Ai (fun H h=>go ?_);refine AW (v:=.func (.func 188) #[] #[pt a.heap.size,pt Q.heap.size]) rfl rfl rfl h.D O (fun c x=>?_);have g:Ext a c:=h.E.E x.E O;have M:=j.E g O;have L:Blk c a.heap.size 182 [.func (.func 188) #[] #[pt a.heap.size,pt Q.heap.size]]:=x.D;have D:=X.Q g;have l:=d.Q D;refine go ?_;refine Bg (v1:=[]) (v2:=[pt a.heap.size,pt Q.heap.size]) (vs:=[.pointer (sn b o)]) rfl (jJ c I k Q.heap.size a.heap.size t r S xs m p B (s.ext D) (z.E D O) M L (oS S xs m p) (dpF f) c b o f (AO _) E A (Ext.refl _) (K.E l (fun _ _=>by simp)) y P) rfl ?_;rintro u N⟨C,q⟩;refine gR ?_;exact⟨C,l.Q q⟩
def dG(D:World)(H:Option Addr)(G:Nat)(S:List Sgn)(P:SlAt sgnR AL D (.slice H S.length G) S):∀(n:Nat)(w:World)(b o:Nat)(f:Fml),dpF f<=n->Ext D w->PF AL w b o f->Fn Zp 181 [.slice H S.length G,.pointer (sn b o)] w fun u w'=>u=.bool (isB (knS S) f)/\Ext w w':=by
 intro n
 induction n with
 |zero=>intro w b o f A;rw[Cr]at A;omega
 |succ n ih=>
 intro w b o f A c hf;rw[Cr]at A;have B:=P.ext c;obtain⟨N,cc,b1,q0,q1,q2,q3,E,qa⟩:=hf.all;obtain⟨M,l,v,bd,d⟩:=f;simp only[Fml.op,Fml.name,Fml.val,Fml.args]at*
 have a1:∀(k:Nat)(a:Fml),d[k]?=some a->∀W,Ext w W->∃q m,N=some ⟨q,m,none⟩/\Fn Zp 181 [.slice H S.length G,.pointer (sn q (m+k*5))] W fun u w'=>u=.bool (isB (knS S) a)/\Ext W w':=fun k a t W r=>by
  exact uI
 rw[isB];refine AM func181 rfl ntmps181 ?_;refine nX ?_;refine AN (AT (AH rfl ?_));refine nX ?_;refine AN (Aq rfl (A7 rfl (AV rfl (AQ rfl rG ?_))));refine K6 rfl rfl ?_;refine AB ?_;refine Fx ?_;refine CE (α:=Unit) (fun _=>[(0,.slice H S.length G),(1,.pointer (sn b o))]) (fun _ W=>Ext w W/\(if M=3 then knS S l v else true)=true) ?_ ?_
 ·by_cases R:M=3
  ·rw[BE R];refine gC (Kh w _ S l B) ?_;rintro _ w2⟨rfl,rfl⟩;simp only[AJ R];unfold EW knS;cases hj:S.findIdx? (fun y=>decide (y.name=l))with
   |none=>
    simp only;refine go ?_;refine Ab (rd 0 14 .done) AX rD (fun X g T=>⟨Ext X,?_,?_⟩)
    ·exact sY
    refine gR ?_;exact⟨rfl,g⟩
   |some j=>
    have a4:j<S.length:=(IX.1 hj).1;obtain⟨s,C⟩:∃s,S[j]?=some s:=⟨_,AU a4⟩;obtain⟨_,sb,so,rfl,_,a8⟩:=B.sig C;simp only[C];refine go ?_;refine Ab (rd 0 14 .done) AX rD (fun X g T=>⟨Ext X,?_,?_⟩)
    ·exact sY
    have s1:∀V,Ext X V->CC V b (o+2) (iV v):=fun V e=>(g.Q e).cell q2 O;have s2:∀V,Ext X V->CC V sb (so+j*3+2) (iV s.size):=fun V e=>(g.Q e).cell (a8 2 _ rfl) O;by_cases h:v<s.size
    ·refine go ?_;exact Af () ag ⟨g,BE h⟩
    ·refine go ?_;refine gR ?_;exact⟨by rw[BC h];rfl,g⟩
  ·rw[BC R];refine go ?_;exact Af () ag ⟨Ext.refl _,by rw[AG R]⟩
 rintro _ L f5⟨Q,a7⟩;rw[a7,HE,R2];have a9:=Q.cell E O;clear E;have E:=a9;have a0:∀(k:Nat)(a:Fml),d[k]?=some a->∀W,Ext L W->∃q m,N=some ⟨q,m,none⟩/\Fn Zp 181 [.slice H S.length G,.pointer (sn q (m+k*5))] W fun u w'=>u=.bool (isB (knS S) a)/\Ext W w':=fun k a t W r=>a1 k a t W (Q.Q r);refine go ?_;refine Aj (α:=Nat) (fun k=>[(0,.slice H S.length G),(1,.pointer (sn b o)),(36,iV (d.length:Int)),(37,iV (k:Int))]) (fun k W=>k<=d.length/\Ext L W/\∀(i:Nat)(y:Fml),i<k->d[i]?=some y->isB (knS S) y=true) (fun k=>d.length-k) 0 (by repeat (first|exact trivial|refine⟨rfl,?_⟩)) ⟨by omega,Ext.refl _,fun i y F=>by omega⟩ ?_;rintro k W fr⟨b0,K,Z⟩;have b2:=K.cell E O;by_cases a5:k<d.length
 ·refine go ?_;obtain⟨y,I⟩:∃y,d[k]?=some y:=⟨_,AU a5⟩;obtain⟨q,m,rfl,a2⟩:=a0 k y I W K;refine go ?_;refine AD a2 rfl ?_;rintro _ w4⟨rfl,k4⟩;have x:=K.Q k4;cases h:isB (knS S) y with
  |true=>
   refine go ?_;refine⟨k+1,⟨rfl,⟨(by repeat (first|exact trivial|refine⟨rfl,?_⟩)),⟨by omega,x,fun i z F p=>?_⟩⟩⟩,by omega⟩;by_cases a3:i=k
   ·subst a3;rw[I]at p;cases p;exact h
   ·exact Z i z U p
  |false=>
   refine gR ?_;exact⟨congrArg Value.bool (OX I h).symm,(Q).Q x⟩
 ·refine gR ?_;exact⟨congrArg Value.bool (OW fun i z F p=>Z i z U p).symm,(Q).Q K⟩
def jB(w:World)(H:Option Addr)(G:Nat)(S:List Sgn)(b o:Nat)(f:Fml)(i:SlAt sgnR AL w (.slice H S.length G) S)(s:Bo S=true)(K:PF AL w b o f)(P:LkS S f)(z:GF w)(h:KY w)(L:10<=w.heap.size):
  Fn Zp 120 [.slice H S.length G,.pointer (sn b o)] w fun u w'=>u=.bool true/\Ext w w':=by
 obtain⟨_,k,j,T,t⟩:=id K;have n:DV f=Ba f:=by unfold DV;rw[AJ P.1]
 have B:(DV f).op≠0:=by rw[n];exact je (QQ P.1)
 refine AM func120 rfl ntmps120 ?_;refine gC (Lu w _ S i h) ?_;rintro _ Q⟨rfl,d⟩;rw[s];refine go ?_;refine Al rfl j (T.E d O) ?_;refine AD (T0 Q H G S _ f (i.ext d) (t.ext d) (z.ext d) (h.E d O) (Az L d.size)) rfl ?_;rintro _ q⟨e,rfl,m, -⟩;have c:=d.Q m;by_cases v:e=0
 ·subst v;refine gR ?_;exact⟨rfl,c⟩
 ·refine go ?_;refine Al rfl j (T.E c O) ?_;refine AD (MR q _ f (t.ext c) (z.ext c) (h.E c O) (Az L c.size)) rfl ?_;rintro u r⟨g,a⟩;obtain⟨A,rfl,l, -⟩:=a.cells;obtain⟨D,W,X,x,y,rfl⟩:=An l;obtain rfl:=a.op0;refine XC rfl (show[iV (DV f).op,W,X,x,y][0]?=some (iV (DV f).op)from rfl) ?_;have N:=c.Q g;refine gC (dG w H G S i _ r b o f (AO _) N (K.E N (fun _ _=>by simp))) ?_;rintro _ C⟨rfl,p⟩;rw[P.2];refine gR ?_;exact⟨rfl,N.Q p⟩
def fG(w:World)(H:Option Addr)(G:Nat)(S:List Sgn)(b o:Nat)(f:Fml)(c:LV)(M I:List Int)(i:SlAt sgnR AL w (.slice H S.length G) S)(s:Bo S=true)(K:PF AL w b o f)(P:LkS S f)(F:LasG w c M I)
  (E:M.length<=60)(Z:1<=I.length)(z:I.length<=40)(C:∀x∈M,0<=x/\x<Ei S)(Q:∀x∈I,0<=x/\x<Ei S)(hG:GF w)(p:KY w)(r:10<=w.heap.size):
  Fn Zp 63 [.slice H S.length G,.pointer (sn b o),.agg c.toArray] w fun u w'=>∃t v B,u=.tuple #[pt t,v,.bool true]/\Ext w w'/\AxG w' t S (M++I) M.length I.length B/\Tru w' v (B+I.length) (fun t=>tv (sem (wdG S (M++I) M.length I.length) f t)):=by
 obtain⟨a4,a5⟩:=MM s;have k:=F;obtain⟨a7, -,a2⟩:=H4 P.1;obtain⟨a,a0,T,lc,rfl,a6,a3⟩:=F;refine AM func63 rfl ntmps63 (go ?_);refine Ac (L:=[.slice a M.length a0,.slice T I.length lc]) rfl (fun w1 D=>go ?_);have q:=D.D;have k1:=D.E;refine Ab (.read 0 (.read 1 (.alt 2 (rd 3 3 (.read 7 (.alt 6 (.alt 8 (.read 9 (.read 10 .done)) .stop) .stop))) .stop))) AX rD (fun X W ed=>⟨Ext X,?_,?_⟩)
 ·exact sY
 have d:=k1.Q W;refine gE ?_;refine AD (jB X H G S b o f (i.ext d) s (K.E d (fun _ _=>by simp)) P (hG.ext d) (p.E d O) (Az r d.size)) rfl ?_;rintro _ w2⟨rfl,m⟩;have h:=d.Q m;refine AB ⟨Ext X,fun _ e=>e,m,?_⟩;refine go ?_;refine D_R (v:=.agg [.slice a M.length a0,.slice T I.length lc].toArray) rfl rfl (fun V hV=>by refine AE rfl (Cu rfl (q.E (W.Q hV) O) rfl ?_);exact AB ⟨rfl,rfl,rfl⟩) ?_;refine D_E rfl ?_;refine gC (Qa w2 _ S (i.ext h) (p.E h O) (Az r h.size)) ?_;rintro _ w3⟨rfl,j⟩;have N:=h.Q j;refine AB ⟨Ext X,fun _ e=>e,m.Q j,?_⟩;refine D_E rfl ?_;refine gC (fJ w3 _ M I (Ei S) (k.ext N) E Z z U C Q) ?_;rintro _ w4⟨rfl,y⟩;have n:=N.Q y;refine AB ⟨Ext X,fun _ e=>e,(m.Q j).Q y,?_⟩;refine go ?_;have b4:=q.E (((W.Q m).Q j).Q y) O;refine gC (cv w4 H G S b o f _ M I (i.ext n) s (K.E n (fun _ _=>by simp)) U (k.ext n) E Z z C Q (p.E n O) (Az r n.size)) ?_;rintro _ w5⟨t,rfl,k5,A⟩;have l:=n.Q k5;refine gC (mR w5 t S _ _ _ _ b o f A U (AO _) (K.E l (fun _ _=>by simp)) ⟨_,a2⟩ P.2) ?_;rintro u w6⟨hu,R⟩;have a1:=A.ext R;obtain⟨g,rfl,bg⟩:=hu;refine go ?_;exact Df rfl ⟨_,_,_,rfl,l.Q R,a1,g,rfl,bg⟩
def Ul(w:World)(H:Option Addr)(G:Nat)(S:List Sgn)(v:Value)(f:Fml)(c:LV)(M I:List Int)(i:SlAt sgnR AL w (.slice H S.length G) S)(s:Bo S=true)(K:FAt AL w v f)(P:LkS S f)(N:LasG w c M I)
  (E:M.length<=60)(Z:1<=I.length)(l:I.length<=40)(C:∀x∈M,0<=x/\x<Ei S)(V:∀x∈I,0<=x/\x<Ei S)(z:GF w)(r:KY w)(y:10<=w.heap.size):
  Fn Zp 23 [.slice H S.length G,v,.agg c.toArray,iV 0] w fun u w'=>u=.bool (tv (sem (wdG S (M++I) M.length I.length) f 0))/\Ext w w':=by
 obtain⟨cf,rfl,F,a2⟩:=K.cells;obtain⟨x0,x1,x2,x3,x4,rfl⟩:=An F;have k:=N;obtain⟨a,a0,T,X,rfl,a3,a1⟩:=N;refine AM func23 rfl ntmps23 (go ?_);refine Ac (L:=[x0,x1,x2,x3,x4]) rfl (fun w1 D=>?_);refine Ac (L:=[.slice a M.length a0,.slice T I.length X]) rfl (fun w2 R=>?_);have m:=D.E.Q R.E;have q:=D.D.E R.E O;have b2:=R.D;refine gC (fG w2 H G S w.heap.size 0 f _ M I (i.ext m) s ⟨trivial,_,rfl,q.cells,K.ext m⟩ P (k.ext m) E Z l C V (z.ext m) (r.E m O) (Az y m.size)) ?_;rintro _ d⟨t,u,B,rfl,Q,n,o⟩;obtain⟨g,rfl,h⟩:=o;have p:0<B+I.length:=by omega
 have j:∀W,Ext d W->W.cell? ⟨g,0+0,none⟩=some (.bool (tv (sem (wdG S (M++I) M.length I.length) f 0))):=fun W e=>(h.E e O).cell (by rw[Bs];exact K0 p);refine gC (OC d t S _ _ _ B 0 n U) ?_;rintro _ w4⟨rfl,b⟩;have c1:=j w4 b;have A:Dz (B+I.length) B 0=0:=by unfold Dz;rw[AJ U]
 rw[A];refine gR ?_;exact⟨rfl,(m.Q Q).Q b⟩
def Wb(w:World)(c:LV)(M I:List Int)(h:LasG w c M I):Fn Zp 16 [.agg c.toArray] w fun u w'=>∃b:Bool,u=.bool b/\Ext w w':=by
 obtain⟨H,a,G,N,rfl,d,f⟩:=h;refine AM func16 rfl ntmps16 (go ?_);refine Ac (L:=[.slice H M.length a,.slice G I.length N]) rfl (fun Q D=>?_);have l:=D.D;by_cases Z:M.length<=80
 ·by_cases W:I.length<=80
  ·refine gR ?_;exact⟨_,rfl,D.E⟩
  ·refine gR ?_;exact⟨_,rfl,D.E⟩
 ·refine gR ?_;exact⟨_,rfl,D.E⟩
def Un(w:World)(x:Int):Fn Zp 111 [iV x] w fun u w'=>u=.bool (decide (0<=x)&&decide (x<64))/\w'=w:=by
 refine AM func111 rfl ntmps111 ?_;by_cases Z:0<=x
 ·rw[BE Z];by_cases W:x<64
  ·rw[BE W];exact sd
  ·rw[BC W];exact sd
 ·rw[BC Z];exact sd
def cj(w:World)(c:LV)(M I:List Int)(h:LasG w c M I):Fn Zp 47 [.agg c.toArray] w fun u w'=>∃b:Bool,u=.bool b/\Ext w w'/\(b=true->M.length<=60/\1<=I.length/\I.length<=40/\(∀x∈M,0<=x/\x<64)/\∀x∈I,0<=x/\x<64):=by
 obtain⟨H,q,G,N,rfl,d,f⟩:=h;refine AM func47 rfl ntmps47 (go ?_);refine Ac (L:=[.slice H M.length q,.slice G I.length N]) rfl (fun Q D=>?_);have l:=D.D;have s:=d.len;have C:=f.len;by_cases Z:60<M.length
 ·exact uT
 by_cases r:I.length<1
 ·exact uT
 by_cases R:40<I.length
 ·exact uT
 refine go ?_;refine Aj (α:=Nat) (fun k=>[(1,pt w.heap.size),(3,iV (k:Int))]) (fun k W=>k<=(M).length/\Ext Q W/\∀(i:Nat)(x:Int),i<k->(M)[i]?=some x->0<=x/\x<64) (fun k=>(M).length-k) 0 ag ⟨by omega,Ext.refl _,fun i x h=>by omega⟩ ?_;rintro k W g⟨P,K,a⟩;have n:=l.E K O;refine go ?_;by_cases e:k<(M).length
 ·obtain⟨x,V⟩:=gl e;obtain⟨b,o,rfl,T⟩:=InS.at ((d).ext (D.E.Q K)) V;refine gC (Un W x) ?_;rintro _ _⟨rfl,rfl⟩;cases hb:(decide (0<=x)&&decide (x<64))with
  |false=>
   exact tX
  |true=>
   refine go ?_;refine⟨k+1,⟨rfl,ag,⟨by omega,K,fun i z F p=>?_⟩⟩,by omega⟩;by_cases t:i=k
   ·subst t;rw[V]at p;cases p;simpa using hb
   ·exact a i z U p
 ·obtain rfl:k=M.length:=by omega
  have j:∀x∈M,0<=x/\x<64:=fun x V=>by
   obtain⟨i,F⟩:=Cn V;exact a i x (Ah.1 F).1 F
  clear a;have m:=K;refine go ?_;refine Aj (α:=Nat) (fun k=>[(1,pt w.heap.size),(5,iV (k:Int))]) (fun k W=>k<=(I).length/\Ext Q W/\∀(i:Nat)(x:Int),i<k->(I)[i]?=some x->0<=x/\x<64) (fun k=>(I).length-k) 0 ag ⟨by omega,m,fun i x h=>by omega⟩ ?_;rintro k W g⟨P,K,a⟩;have n:=l.E K O;refine go ?_;by_cases e:k<(I).length
  ·obtain⟨x,V⟩:=gl e;obtain⟨b,o,rfl,T⟩:=InS.at ((f).ext (D.E.Q K)) V;refine gC (Un W x) ?_;rintro _ _⟨rfl,rfl⟩;cases hb:(decide (0<=x)&&decide (x<64))with
   |false=>
    exact tX
   |true=>
    refine go ?_;refine⟨k+1,⟨rfl,ag,⟨by omega,K,fun i z F p=>?_⟩⟩,by omega⟩;by_cases t:i=k
    ·subst t;rw[V]at p;cases p;simpa using hb
    ·exact a i z U p
  ·obtain rfl:k=I.length:=by omega
   refine gR ?_
   exact⟨true,rfl,D.E.Q K,fun _=>⟨by omega,by omega,by omega,j,fun x V=>by
    obtain⟨i,F⟩:=Cn V;exact a i x (Ah.1 F).1 F⟩⟩
def VG(w:World)(n:Int)(c:LV)(M I:List Int)(h:LasG w c M I):Fn Zp 17 [iV n,.agg c.toArray] w fun u w'=>∃b:Bool,u=.bool b/\Ext w w'/\(b=true->M.length<=60/\1<=I.length/\I.length<=40/\(∀x∈M,0<=x/\x<n)/\∀x∈I,0<=x/\x<n):=by
 have v:=h;obtain⟨R,Z,G,N,rfl,d,f⟩:=h;refine AM func17 rfl ntmps17 (go ?_);refine Ac (L:=[.slice R M.length Z,.slice G I.length N]) rfl (fun Q D=>?_);have l:=D.D;have a0:=d.len;have C:=f.len;refine go ?_;refine Aj (α:=Nat) (fun k=>[(0,iV n),(3,pt w.heap.size),(5,iV (k:Int))]) (fun k W=>k<=(M).length/\Ext Q W/\∀(i:Nat)(x:Int),i<k->(M)[i]?=some x->x<n) (fun k=>(M).length-k) 0 ag ⟨by omega,Ext.refl _,fun i x h=>by omega⟩ ?_;rintro k W j⟨A,K,a⟩;have g:=l.E K O;refine go ?_;by_cases e:k<(M).length
 ·obtain⟨x,V⟩:=gl e;obtain⟨b,o,rfl,T⟩:=InS.at ((d).ext (D.E.Q K)) V;by_cases H:n<=x
  ·exact tX
  ·refine go ?_;refine⟨k+1,⟨rfl,ag,⟨by omega,K,fun i z F p=>?_⟩⟩,by omega⟩;by_cases t:i=k
   ·subst t;rw[V]at p;cases p;omega
   ·exact a i z U p
 ·obtain rfl:k=M.length:=by omega
  have s:∀x∈M,x<n:=fun x V=>by
   obtain⟨i,F⟩:=Cn V;exact a i x (Ah.1 F).1 F
  clear a;have E:=K;refine go ?_;refine Aj (α:=Nat) (fun k=>[(0,iV n),(3,pt w.heap.size),(6,iV (k:Int))]) (fun k W=>k<=(I).length/\Ext Q W/\∀(i:Nat)(x:Int),i<k->(I)[i]?=some x->x<n) (fun k=>(I).length-k) 0 ag ⟨by omega,E,fun i x h=>by omega⟩ ?_;rintro k W j⟨A,K,a⟩;have g:=l.E K O;refine go ?_;by_cases e:k<(I).length
  ·obtain⟨x,V⟩:=gl e;obtain⟨b,o,rfl,T⟩:=InS.at ((f).ext (D.E.Q K)) V;by_cases H:n<=x
   ·exact tX
   ·refine go ?_;refine⟨k+1,⟨rfl,ag,⟨by omega,K,fun i z F p=>?_⟩⟩,by omega⟩;by_cases t:i=k
    ·subst t;rw[V]at p;cases p;omega
    ·exact a i z U p
  ·obtain rfl:k=I.length:=by omega
   have S:∀x∈I,x<n:=fun x V=>by
    obtain⟨i,F⟩:=Cn V;exact a i x (Ah.1 F).1 F
   refine gC (cj W _ M I (v.ext (D.E.Q K))) ?_;rintro _ w5⟨b,rfl,B,y⟩;refine gR ?_
   exact⟨b,rfl,(D.E.Q K).Q B,fun h=>by
    obtain⟨X,P,m,q,r⟩:=y h;exact⟨X,P,m,fun x V=>⟨(q x V).1,s x V⟩,fun x V=>⟨(r x V).1,S x V⟩⟩⟩
def pO(w:World)(H:Option Addr)(G:Nat)(C:Option Addr)(a:Nat)(s:Spc)(P:SlAt sgnR AL w (.slice H s.sigs.length G) s.sigs)(B:SlAt reqR AL w (.slice C s.reqs.length a) s.reqs):
  Fn Zp 26 [.agg #[.slice H s.sigs.length G,.slice C s.reqs.length a]] w fun u w'=>∃b:Bool,u=.bool b/\Ext w w'/\(b=true->s.reqs.length<=20/\∀r∈s.reqs,szF r.formula<=120):=by
 refine AM func26 rfl ntmps26 (go ?_);refine Ac (L:=[.slice H s.sigs.length G,.slice C s.reqs.length a]) rfl (fun Q D=>?_);have l:=D.D;refine gC (dZ Q _ s.sigs (P.ext D.E)) ?_;rintro _ w2⟨b,rfl,m⟩;have p:=D.E.Q m;have M:=l.E m O;cases b with
 |false=>
  refine gR ?_;exact⟨false,rfl,p,fun h=>by cases h⟩
 |true=>
  by_cases a0:20<s.reqs.length
  ·refine gR ?_;exact⟨false,rfl,p,fun h=>by cases h⟩
  refine go ?_;refine Aj (α:=Nat) (fun k=>[(1,pt w.heap.size),(3,iV (k:Int))]) (fun k W=>k<=s.reqs.length/\Ext w2 W/\∀(i:Nat)(r:Rqm),i<k->s.reqs[i]?=some r->szF r.formula<=120) (fun k=>s.reqs.length-k) 0 ag ⟨by omega,Ext.refl _,fun i x h=>by omega⟩ ?_;rintro k W fr⟨hk,K,v⟩;have n:=M.E K O;refine go ?_;by_cases z:k<s.reqs.length
  ·obtain⟨x,V⟩:=gl z;obtain⟨X,Z,d,rfl, -,S,e,T⟩:=B.req V;obtain⟨f,y,A,E,I,rfl⟩:=An S;have c:=p.Q K;have c0:=(e.E c O) 0 _ rfl;have c1:=(e.E c O) 1 _ rfl
   have N:Cells W X (Z+k*8+3) [f,y,A,E,I]:=fun j u o=>by
    have:=(e.E c O) (3+j) u (by rw[EJ O];simpa using o)
    rwa [<-GH]at this
   by_cases h1:40<x.name.length
   ·exact um
   by_cases h2:40<x.part.length
   ·exact um
   refine go ?_;refine Al (L:=[f,y,A,E,I]) rfl rfl N ?_;refine gC (OL W _ x.formula 120 U (T.ext c)) ?_;rintro _ w3⟨rfl,g⟩;by_cases R:szF x.formula<=120
   ·rw[BE R];refine go ?_;refine⟨k+1,⟨rfl,ag,⟨by omega,K.Q g,fun i r F q=>?_⟩⟩,by omega⟩;by_cases t:i=k
    ·subst t;rw[V]at q;cases q;exact R
    ·exact v i r U q
   ·rw[BC R];refine gR ?_;exact⟨false,rfl,c.Q g,fun h=>by cases h⟩
  ·obtain rfl:k=s.reqs.length:=by omega
   refine gR ?_
   exact⟨true,rfl,p.Q K,fun _=>⟨by omega,fun r B=>by
    obtain⟨i,F⟩:=Cn B;exact v i r (Ah.1 F).1 F⟩⟩
def gD(w:World)(t:LU)(a:Fml)(z:GK w)(h:PRes .formula t (.ok a)):Fn Zp 15 [AA t] w (fun v w'=>∃c,v=.tuple #[.agg c.toArray,iV 0,iV (-1)]/\Ext w w'/\fmlR.fits AL w' c a):=by
 refine(nK w t z).mono ?_;rintro v w'⟨c,e,q,rfl,k,H|H⟩
 ·obtain⟨b,Z,rfl,rfl,f⟩:=H;obtain rfl:b=a:=by have:=Z.det h;cases this;rfl
  exact⟨c,rfl,k,Rp.mono fmlR f fun _ _=>trivial⟩
 ·obtain⟨p,Z,_⟩:=H;have:=Z.det h;cases this
def Vx(w:World)(t:LU):Fn Zp 14 [AA t] w fun u w'=>∃b:Bool,u=.bool b/\Ext w w'/\(b=true->∃ts,C7 t=.ok ts):=by
 refine AM func14 rfl ntmps14 ?_;refine gC (gM w t) ?_;rintro _ Q⟨a,c,e,q,ts,rfl,d, -,N⟩;by_cases B:e=0
 ·refine go ?_;refine AC rfl ⟨true,rfl,d,fun _=>?_⟩;rcases N with⟨h,_⟩|⟨p,_,h,_⟩
  ·exact⟨ts,h⟩
  ·exact absurd B h
 ·exact sf
def Yf{B:Nat}:∀{l:List Rqm},(∀r∈l,szF r.formula<=B)->szR l<=(B+4)*l.length
 | [],_=>by simp[szR]
 |r::l,h=>by
  have Z:=h r O;have W:=Yf (l:=l) fun x V=>h x ri;simp only[szR,EG,OT,C9]at W⊢;rw[Nat.mul_add,Md];omega
def rtW(s:Spc):Prop:=Dx s=true/\(∀r∈s.reqs,szF r.formula<=120)/\∃n,C7 (E8 s)=.ok n
def Yc{s:Spc}(Z:Dx s=true)(W:∀r∈s.reqs,szF r.formula<=120):szS s<=10000:=by
 obtain⟨a,N,_⟩:=MG Z;have R:=Yf W;have A:=(If a).2.1;unfold szS;omega
def Yd{s:Spc}(h:Dx s=true):sT s=E8 s:=by unfold sT;rw[AJ (XJ h)]
set_option maxHeartbeats 1000000 in
def bZ(w:World)(H:Option Addr)(G:Nat)(C:Option Addr)(a:Nat)(s:Spc)(i:SlAt sgnR AL w (.slice H s.sigs.length G) s.sigs)(B:SlAt reqR AL w (.slice C s.reqs.length a) s.reqs)(V:GP w):
  Fn Zp 6 [.agg #[.slice H s.sigs.length G,.slice C s.reqs.length a]] w fun u w'=>∃b:Bool,u=.bool b/\Ext w w'/\(b=true->rtW s):=by
 refine AM func6 rfl ntmps6 (go ?_);refine Ac (L:=[.slice H s.sigs.length G,.slice C s.reqs.length a]) rfl (fun Q D=>?_);have q:=D.D;refine gC (pO Q H G C a s (i.ext D.E) (B.ext D.E)) ?_;rintro _ o⟨b,rfl,m,K⟩;have d:=D.E.Q m;have j:=q.E m O;cases b with
 |false=>
  exact sf
 |true=>
 obtain⟨_,e⟩:=K rfl;refine gC (eG o H G C a s (i.ext d) (B.ext d)) ?_;rintro _ p⟨n,y,z,rfl,A,g,T⟩;have N:=d.Q g;have r:=j.E g O;by_cases v:n=0;rotate_left
 ·exact uh
 have f:=T v;subst v;refine gC (SB p [.slice H s.sigs.length G,.slice C s.reqs.length a] s ⟨_,_,rfl,i.ext N,B.ext N⟩ (V.ext N) (by have:=Yc f e;omega)) ?_;rintro _ t⟨rfl,l⟩;rw[Yd f];refine gC (Vx t _) ?_;rintro _ c⟨b,rfl,x,k⟩;refine gR ?_;exact⟨b,rfl,(N.Q l).Q x,fun h=>⟨f,e,k h⟩⟩
set_option maxHeartbeats 2000000 in
def bh(w:World)(V:GP w)(z:GF w)(S:KY w)(X:10<=w.heap.size):Fn Zp 5 [] w fun u w'=>u=.bool true/\Ext w w':=by
 have hT:∀W,Fn Zp 25 [] W fun u W'=>u=AA TG/\W'=W:=fun W=>by
  refine AM func25 rfl ntmps25 ?_;exact sd
 refine AM func5 rfl ntmps5 ?_;refine gC (hT w) ?_;rintro _ w0⟨rfl,k⟩;rw[k];refine gC (Uu w _ spcX V.gk nM) ?_;rintro _ w1⟨c,rfl,k1,sv,rv,rfl,i,Z⟩;obtain⟨H,G,rfl,_⟩:=i.len;obtain⟨C,a,rfl,_⟩:=Z.len;refine go ?_;refine CL (cs:=[.slice H spcX.sigs.length G,.slice C spcX.reqs.length a]) rfl rfl rF (Ak rfl) (fun w2 R=>?_);have d:=k1.Q R.E;have B2:=R.D;have b2:∀r∈spcX.reqs,szF r.formula<=1000:=fun r B=>FO (Bu.1 pC r B);refine gC (Q1 w2 H G C a spcX 0 U (i.ext R.E) (Z.ext R.E) (fun r B=>by have:=b2 r B;omega) (z.ext d) (S.E d O) (Az X d.size)) ?_;rintro _ w3⟨v3,e3,rfl,g,a5,hd3⟩;obtain rfl:=a5.2 Yn;have F:=hd3 Yn;have T:=d.Q g;have B3:=B2.E g O;have E:=(i.ext R.E).ext g;have hR3:=(Z.ext R.E).ext g;obtain⟨da,dc,e,_⟩:=F.len;subst e;refine go ?_
 refine AD (RW w3 H G spcX.sigs da dc (GS spcX 0) 1 E F (by simp[GS,spcX]) (fun y hy=>by
  have:=Bu.1 iW y hy;simp only[AZ,BD]at this;omega) (z.ext T) (S.E T O) (Az X T.size)) rfl ?_
 rintro v4 t⟨b,A⟩;replace A:SlAt dtyR AL t v4 dusX:=A;have y4:=T.Q b;have B4:=B3.E b O;have hS4:=E.ext b;have hR4:=hR3.ext b;obtain⟨ea,ec,e,_⟩:=A.len;subst e;have b7:=Yo;refine gC (SB t [.slice H spcX.sigs.length G,.slice C spcX.reqs.length a] spcX ⟨_,_,rfl,hS4,hR4⟩ (V.ext y4) (by have:=X_sz.2.2;omega)) ?_;rintro _ j⟨rfl,k5⟩;rw[qQ];refine gC (hT j) ?_;rintro _ w0⟨rfl,k⟩;rw[k];have Q:=A.ext k5;have l:=y4.Q k5;obtain⟨d1,hd1,b0⟩:=Y4 (show 1<3 by omega);obtain⟨d2,hd2,b1⟩:=Y4 (show 2<3 by omega);obtain⟨P,x,b3,a8, -,hc1,a6⟩:=Q.at (sz:=19) rfl hd1;subst a8;obtain⟨b5,b6,b4,a9, -,hc2,a7⟩:=Q.at (sz:=19) rfl hd2;cases a9;obtain⟨q0,q1,q2,q3,q4,a0,a1,a2,a3,a4,m,o,s,v,p,rfl, -, -,M⟩:=KI a6;obtain⟨p0,p1,p2,p3,p4,c0,c1,c2,c3,c4,D,f,I,K,n,rfl, -, -,N⟩:=KI a7;have cb:Cells j P (x+1*19+14) [m,o,s,v,p]:=hc1.part 14 5;have ce:Cells j P (x+2*19+14) [D,f,I,K,n]:=hc2.part 14 5;rw[b0]at M;rw[b1]at N;refine go ?_;refine Mt rfl rfl (fun h=>absurd rfl h) (fun _=>go ?_);refine Al (L:=[m,o,s,v,p]) rfl rfl cb ?_;refine AD (SA j _ (Jh 1) M (V.ext l) (by have:=X_sz.1;omega)) rfl ?_;rintro _ w6⟨rfl,q⟩;rw[X_t1];refine CZ rfl rfl (fun _=>?_) (fun h=>absurd rfl h);refine go ?_;refine Al (L:=[D,f,I,K,n]) rfl rfl (ce.E q O) ?_;refine gC (SA w6 _ (Jh 2) (N.ext q) (V.ext (l.Q q)) (by have:=X_sz.2.1;omega)) ?_;rintro _ w7⟨rfl,k7⟩;rw[X_t2];refine go ?_;refine CZ rfl rfl (fun _=>?_) (fun h=>absurd rfl h);refine gR ?_;exact⟨rfl,(l.Q q).Q k7⟩
def nw{s:Spc}(h:Dx s=true){ts:List Tok}(P:C7 (E8 s)=.ok ts):PRes .spec (E8 s) (.ok s):=by
 rcases kv (XJ h)with⟨p,C⟩|h
 ·rw[P]at C;cases C
 ·exact h
def mI{f:Fml}(h:okF f=true){ts:List Tok}(P:C7 (prF 0 f)=.ok ts):PRes .formula (prF 0 f) (.ok f):=by
 rcases iu h with⟨p,C⟩|h
 ·rw[P]at C;cases C
 ·exact h
def qY{f:Fml}(h:okF f=true):fT f=prF 0 f:=by unfold fT;rw[AJ h]
inductive Ly:Bool->Fml->Prop
 |mk {i:Bool} {op v b:Int} {nm:LU} {args:LF} (h1:CN op nm v b args.length=true) (h2:i=true->FJ op=false) (h3:∀a∈args,Ly (i||CR op) a):Ly i (.mk op nm v b args)
def Yx:∀(n:Nat)(f:Fml)(i:Bool),szF f<=n->n<=1000000->(CW i f).all (fun x=>Ej x.1)=true->(CW i f).all Jf=true->Ly i f
 |0,f,i,hz,_,_,_=>by rw[Bn]at hz;omega
 |n+1,.mk op nm v b args,i,hz,hn,h,g=>by
  rw[Bn]at hz;have k:szL args+1<=n+1:=hz
  have N:∀(l:LF)(j:Bool),(∀a∈l,a∈args)->(B9 j l).all (fun x=>Ej x.1)=true->(B9 j l).all Jf=true->∀a∈l,Ly j a:=by
   intro l
   induction l with
   |nil=>intro j _ _ _ a G;cases G
   |cons a l ih=>
    intro j r h g;have Z:=Ci (r a O);rw[B9,HC,AZ]at h g;intro c T;rcases BI.1 T with rfl|T
    ·exact Yx n c j U U h.1 g.1
    ·exact ih j (fun c T=>r c rR) h.2 g.2 c T
  rw[CW,Gc,AZ]at h g;obtain⟨Z,W⟩:=h;obtain⟨X,P⟩:=g;simp only at Z;rw[MQ _ (by simp only[Fml.args];have:=D8 args;omega)]at Z;obtain⟨d,m,_⟩:=Kg op;rw[d]at W P;refine .mk Z (fun e=>?_) (N args _ (fun a h=>h) W P);unfold Jf at X;simp only[Fml.op]at X;rw[m,e]at X;simpa using X
def ff{op v b:Int}{l:LU}{n:Nat}(neg:Bool)(h:CN op l v b n=true)(A:op≠4)(S:¬(op=13\/op=14))(R:¬(op=3/\neg=true)):
  E0 (DJ neg (CU op))=true/\CN (DJ neg (CU op)) l (if DI op=true then(if DJ neg (CU op)=17 then 1 else Cd op v neg)else Cd op v neg) 0 (if DI op=true then n+1 else n)=true/\
  (FJ (DJ neg (CU op))=true->FJ op=true)/\CR (DJ neg (CU op))=CR op/\DJ neg (CU op)≠4:=by
 simp only[CN,AZ,BD]at h;obtain⟨⟨⟨⟨⟨⟨⟨e,f⟩,a⟩,E⟩,c⟩,g⟩,d⟩,C⟩:=h;have:op=1\/op=2\/op=3\/op=5\/op=6\/op=7\/op=8\/op=9\/op=10\/op=11\/op=12\/op=15\/op=16\/op=17\/op=18\/op=19:=by omega
 rcases this with rfl|rfl|rfl|rfl|rfl|rfl|rfl|rfl|rfl|rfl|rfl|rfl|rfl|rfl|rfl|rfl<;>cases neg<;>
  first
  |exact absurd ⟨rfl,rfl⟩ R
  |(simp[Am]at a c d C;refine⟨rfl,?_,by decide,rfl,by decide⟩;simp[CN,Am,DJ,KJ,CU,DI,Hw,Cd,a,C]<;>omega)
def BtQ(i:Bool)(r:Fml×BS)(l d:Int):Prop:=r.2.2=false->BQ i r.1=true/\(szF r.1:Int)+r.2.1=l/\(dpF r.1:Int)<=d
def LN{l d:Int}(h:¬(tkB (l,false) d).2=true):tkB (l,false) d=(l-1,false)/\1<=d:=by
 rw[KF]at h⊢;simp only[Fm,BD,not_or]at h;refine⟨?_,by omega⟩;rw[BC U,BC U];rfl
def Yq{op:Int}{neg:Bool}(f:op=13\/op=14){g:Int->BS->Fml×BS}(y:∀d l,BtQ false (g d (l,false)) l d)(j:∀d l,(g d (l,true)).2.2=true):
  ∀(n:Nat)(d l:Int),BtQ false (bdB op neg g n d (l,false)) l d
 |0,d,l=>y d l
 |n+1,d,l=>by
  unfold BtQ;rw[bdB];simp only[D6,Dh];by_cases b:(tkB (l,false) d).2=true
  ·rw[AJ b];intro h;rw[b]at h;cases h
  rw[AG b];obtain⟨p,s⟩:=LN b;rw[p];by_cases c:(tkB (l-1,false) (d-1)).2=true
  ·rw[AJ c];intro h;rw[c]at h;cases h
  rw[AG c];obtain⟨u,t⟩:=LN c;rw[u];have Z:=y (d-1) (l-1-1);generalize g (d-1) (l-1-1,false)=r at Z⊢;obtain⟨r,k,o⟩:=r;cases o with
  |true=>
   have q:(bdB op neg g n (d-2) (k,true)).2.2=true:=by
    cases n with
    |zero=>exact j _ _
    |succ n=>rw[bdB];rfl
   intro h;simp only at h;rw[q]at h;cases h
  |false=>
   obtain⟨X,P,L⟩:=Z rfl;simp only at X P L⊢;have m:=Yq (neg:=neg) f y j n (d-2) k;generalize bdB op neg g n (d-2) (k,false)=q at m⊢;intro h;obtain⟨i,T,v⟩:=m h;refine⟨?_,?_,?_⟩
   ·have V:BQ false (.mk 8 [] 0 0 [q.1])=true:=JL rfl rfl (fun h=>by cases h) (fun h=>absurd h rI) fun a G=>by
     obtain rfl:a=q.1:=by simpa using G
     exact i
    have H:DJ neg (CU op)=5\/DJ neg (CU op)=6:=by rcases f with rfl|rfl<;>cases neg<;>decide
    refine JL (by rcases H with e|e<;>rw[e]<;>rfl) (by rcases H with e|e<;>rw[e]<;>rfl) (fun h=>by cases h) (fun h=>by omega) fun a G=>?_;rw[PT H];simp only[BI,FA,FD]at G;rcases G with rfl|rfl
    ·exact X
    ·exact V
   ·simp only[szF,szL];omega
   ·simp only[dpF,dpL];omega
mutual
def Ph:∀(f:Fml)(i neg:Bool)(d l:Int),Ly i f->BtQ i (fmB f neg d (l,false)) l d
 | .mk op nm v b args,i,neg,d,l,hf=>by
  obtain⟨h1,h2,h3⟩:=hf;have ha:=Fp h1;unfold BtQ;rw[PM];simp only[D6,Dh];by_cases c4:op=4
  ·rw[AJ c4];subst c4;obtain⟨a,rfl⟩:=FU (l:=args) (by simpa[Am]using ha);rw[fm0];have h5:=h3 a O;rw[show(i||CR 4)=i by cases i<;>rfl]at h5;exact Ph a i (!neg) d l h5
  rw[AG c4];by_cases c3:op=3/\neg=true
  ·rw[AJ c3];obtain⟨rfl,rfl⟩:=c3;by_cases t1:(tkB (l,false) d).2=true
   ·rw[AJ t1];intro h;rw[t1]at h;cases h
   rw[AG t1];obtain⟨e1,d1⟩:=LN t1;rw[e1];by_cases t2:(tkB (l-1,false) (d-1)).2=true
   ·rw[AJ t2];intro h;rw[t2]at h;cases h
   rw[AG t2];obtain⟨e2,d2⟩:=LN t2;rw[e2];intro _;obtain rfl:args=[]:=Dc (by simpa[Am]using ha)
   have hb:CN 3 nm v 0 0=true:=by
    simp only[CN,AZ,BD]at h1⊢;obtain⟨⟨⟨⟨⟨⟨⟨q1,q2⟩,q3⟩,q4⟩,q5⟩,q6⟩,q7⟩,q8⟩:=h1;exact⟨⟨⟨⟨⟨⟨⟨q1,q2⟩,q3⟩,q4⟩,q5⟩,by omega⟩,by decide⟩,q8⟩
   refine⟨JL rfl rfl (fun _=>rfl) (fun _ a ha=>by simp at ha;rw[ha];rfl) fun a ha=>?_,by simp only[szF,szL];omega,by simp only[dpF,dpL];omega⟩;obtain rfl:a=.mk 3 nm v 0 []:=by simpa using ha
   exact JL rfl hb (fun _=>rfl) (fun h=>absurd h rI) fun a ha=>by cases ha
  rw[AG c3];by_cases cb:op=13\/op=14
  ·rw[AJ cb]
   have hi:i=false:=by
    cases i with
    |false=>rfl
    |true=>have:=h2 rfl;rcases cb with rfl|rfl<;>cases this
   subst hi;obtain⟨a,rfl⟩:=FU (l:=args) (by rcases cb with rfl|rfl<;>simpa[Am]using ha);have h5:=h3 a O;rw[show(false||CR op)=false by rcases cb with rfl|rfl<;>rfl]at h5;have hg:=fun d l=>Ph a false neg d l h5;exact Yq cb (g:=fm0 [a] neg) (fun d l=>by rw[fm0];exact hg d l) (fun d l=>by rw[fm0];exact XO a neg d rfl) b.toNat d l
  rw[AG cb];by_cases t1:(tkB (l,false) d).2=true
  ·rw[AJ t1];intro h;rw[t1]at h;cases h
  rw[AG t1];obtain⟨e1,d1⟩:=LN t1;rw[e1];obtain⟨n1,n2,n3,n4,n5⟩:=ff neg h1 c4 cb c3;have hI:=fun k=>YN args (i||CR op) (op==7) neg (d-1) k U h3;unfold lnF;by_cases hl:DI op=true
  ·rw[AJ hl,AJ hl]at n2;rw[AJ hl];unfold lnB;by_cases t2:(tkB (l-1,false) (d-1)).2=true
   ·rw[AJ t2];simp only;intro h;rw[RT _ _ _ _ t2]at h;cases h
   rw[AG t2];obtain⟨e2,d2⟩:=LN t2;rw[e2];simp only;intro h;obtain⟨j1,j2,j3,j4⟩:=hI _ h;refine⟨JL n1 (by rw[A9,j2];simpa[Nat.add_comm]using n2) (fun e=>?_) (fun e=>absurd e n5) fun a ha=>?_,?_,?_⟩
   ·cases hq:FJ (DJ neg (CU op))with
    |false=>rfl
    |true=>have q:=n3 hq;rw[h2 e]at q;cases q
   ·rw[n4];rcases DM.1 ha with ha|ha
    ·obtain rfl:=Bj.1 ha;exact OZ (op:=if DJ neg (CU op)=9\/DJ neg (CU op)=16 then 1 else 2) (by split<;>simp) _
    ·exact j1 a ha
   ·simp only[szF,szL,Ee,Ef];omega
   ·simp only[dpF,dpL,Ee,Ef];omega
  ·rw[AG hl,AG hl]at n2;rw[AG hl];simp only[Ef];intro h;obtain⟨j1,j2,j3,j4⟩:=hI _ h;refine⟨JL n1 (by rw[j2];exact n2) (fun e=>?_) (fun e=>absurd e n5) fun a ha=>?_,?_,?_⟩
   ·cases hq:FJ (DJ neg (CU op))with
    |false=>rfl
    |true=>have q:=n3 hq;rw[h2 e]at q;cases q
   ·rw[n4];exact j1 a ha
   ·simp only[szF];omega
   ·simp only[dpF];omega
def YN:∀(L:LF)(i t neg:Bool)(d l:Int),0<=d->(∀a∈L,Ly i a)->(fmL t L neg d (l,false)).2.2=false->(∀c∈(fmL t L neg d (l,false)).1,BQ i c=true)/\(fmL t L neg d (l,false)).1.length=L.length/\(szL (fmL t L neg d (l,false)).1:Int)+(fmL t L neg d (l,false)).2.1=l/\(dpL (fmL t L neg d (l,false)).1:Int)<=d
 | [],i,t,neg,d,l,hd,_,_=>by rw[fmL];exact⟨(fun c h=>by cases h),rfl,by simp[szL],by simpa[dpL]using hd⟩
 |a::L,i,t,neg,d,l,hd,hl,h=>by
  rw[fmL]at h⊢;simp only at h⊢;have h0:=Ph a i (neg !=t) d l (hl a O);generalize fmB a (neg !=t) d (l,false)=r at h h0⊢;obtain⟨r,k,o⟩:=r;cases o with
  |true=>rw[RT _ _ _ _ rfl]at h;cases h
  |false=>
   obtain⟨g1,g2,g3⟩:=h0 rfl;obtain⟨j1,j2,j3,j4⟩:=YN L i false neg d k hd (fun c hc=>hl c (by simp[hc])) h;simp only at g1 g2 g3⊢;refine⟨fun c hc=>?_,by simp[j2],by simp only[szL];omega,by simp only[dpL];omega⟩;rcases BI.1 hc with rfl|hc
   ·exact g1
   ·exact j1 c hc
end
def dH{S:List Sgn}{f:Fml}(h:GD S f=true):DP (Fc f).1=true:=by
 simp only[GD,AZ,BD]at h;obtain⟨⟨⟨_,s⟩,_⟩,P⟩:=h;unfold Fc at P⊢;cases hl:KQ f with
 |false=>rw[s,hl]at P;cases P
 |true=>
  rw[hl]at P;rw[s]at P⊢;simp only[OS,DN]at P⊢;by_cases a:(fmB f false 20 (60,false)).2.2=true
  ·rw[AJ a]at P;cases P
  rw[AG a];have b:=s;simp only[Fy,AZ,BD]at b;have K:Ly false f:=Yx _ f false (AO _) U b.2 hl;obtain⟨q,c,w⟩:=Ph f false false 20 60 K (by simpa using a);have p:=(SZ f false 20 (60,false) ⟨by decide,by decide,fun _=>by decide⟩).2.2 (by simpa using a);simp only[DP,AZ,BD];refine⟨⟨by omega,by omega⟩,?_⟩;rw[OY U];exact q
def Wm{S:List Sgn}:∀(xs:List Int)(d:List Dty),(∀y∈d,LkS S y.now)->∀y∈Hm S d xs,LkS S y.now
 | [],d,h=>h
 |x::xs,d,h=>by
  rw[Hm];refine Wm xs _ fun y I=>?_;unfold Hs at I;by_cases G:d.any (fun y=>decide ((FH S y.now x).op=0))=true
  ·rw[AJ G]at I;cases I
  rw[AG G]at I;obtain⟨z,p,rfl⟩:=By.1 I;have E:(FH S z.now x).op≠0:=fun e=>G (Ia.2 ⟨z,p,by simpa using e⟩);exact(lC E (s:=fun _=>vlS S x) rfl).1
def lA{s:Spc}(T:Dx s=true)(t:Int):∀y∈GS s t,LkS s.sigs y.now:=fun y I=>by
 obtain⟨r,B,rfl⟩:=By.1 I;have N:=dH ((MG T).2.2 r B).2;exact(XG (by rw[li N];exact lh (QW (H4 N).2.2)) (lw T B)).1
def mB{S:List Sgn}{d:List Dty}{x:Int}:(Hs S d x).length<=d.length/\∀y∈Hs S d x,∃z∈d,y.req=z.req/\y.first=z.first:=by
 unfold Hs
 split
 ·exact⟨by simp,fun y I=>by cases I⟩
 ·refine⟨by simp,fun y I=>?_⟩;obtain⟨z,p,rfl⟩:=By.1 I;exact⟨z,p,rfl,rfl⟩
def Vg{S:List Sgn}:∀(xs:List Int)(d:List Dty),(Hm S d xs).length<=d.length/\∀y∈Hm S d xs,∃z∈d,y.req=z.req/\y.first=z.first
 | [],d=>⟨AO _,fun y I=>⟨y,I,rfl,rfl⟩⟩
 |x::xs,d=>by
  obtain⟨Z,W⟩:=Vg xs (Hs S d x);obtain⟨R,A⟩:=mB (S:=S) (d:=d) (x:=x);refine⟨Az Z R,fun y I=>?_⟩;obtain⟨z,p,f,a⟩:=W y I;obtain⟨u,o,N,n⟩:=A z p;exact⟨u,o,f.Q N,a.Q n⟩
def Qu(S:List Sgn)(x:Int):∀(xs:List Int)(d:List Dty),Hm S d (xs++[x])=Hs S (Hm S d xs) x
 | [],_=>rfl
 |y::xs,d=>Qu S x xs (Hs S d y)
def lB{s:Spc}{t:Int}(K:∀r∈s.reqs,szF r.formula<=120):∀y∈GS s t,szF y.req.formula<=1000000/\szF y.first<=1000000:=fun y I=>by
 obtain⟨r,d,rfl⟩:=By.1 I;refine⟨by have:=K r d;show szF r.formula<=_;omega,?_⟩;show szF (DV (Fc r.formula).1)<=_;unfold DV;by_cases N:DP (Fc r.formula).1=true
 ·rw[AJ N];have:=(H4 (QQ N)).1;omega
 ·rw[AG N];decide
def bO(w:World)(c d:LV)(y:Dty)(hc:dtyR.fits AL w c y)(hd:dtyR.fits AL w d y):Fn Zp 61 [.agg c.toArray,.agg d.toArray] w fun u w'=>u=.bool true/\Ext w w':=by
 obtain⟨o,v,r,l,E,D,a,e,x,m,V,q,f,i,p,rfl,f1,f2,f3⟩:=KI hc;obtain⟨X,T,K,z,s,C,F,G,t,H,M,P,W,I,Z,rfl,g1,g2,g3⟩:=KI hd;refine AM func61 rfl ntmps61 (go ?_);refine Ac (L:=[AA y.req.part,AA y.req.name,iV y.req.kind,o,v,r,l,E,iV y.since,D,a,e,x,m,V,q,f,i,p]) rfl (fun Q n1=>?_);refine Ac (L:=[AA y.req.part,AA y.req.name,iV y.req.kind,X,T,K,z,s,iV y.since,C,F,G,t,H,M,P,W,I,Z]) rfl (fun w2 R=>?_);have j:=n1.E.Q R.E;have A:=n1.D.E R.E O;have B:=R.D;have A1:Cells w2 w.heap.size (0+0+3) [o,v,r,l,E]:=A.cells.part 3 5;have A2:Cells w2 Q.heap.size (0+0+3) [X,T,K,z,s]:=B.cells.part 3 5;refine go ?_;refine CZ rfl rfl (fun _=>?_) (fun h=>absurd rfl h);refine go ?_;refine CZ rfl rfl (fun _=>?_) (fun h=>absurd rfl h);refine go ?_;refine Al (L:=[o,v,r,l,E]) rfl rfl A1 (go ?_);refine Al (L:=[X,T,K,z,s]) rfl rfl A2 ?_;refine gC (O6 w2 _ _ y.req.formula y.req.formula (f1.ext j) (g1.ext j)) ?_;rintro _ w3⟨b,rfl,S,g⟩;obtain rfl:=S.2 rfl;have N:=j.Q g;have A3:Cells w3 w.heap.size (0+9) [D,a,e,x,m]:=(A.E g O).cells.part 9 5;have A4:Cells w3 Q.heap.size (0+9) [C,F,G,t,H]:=(B.E g O).cells.part 9 5;have B3:=A.E g O;have B4:=B.E g O;refine go ?_;refine Al (L:=[D,a,e,x,m]) rfl rfl A3 (go ?_);refine Al (L:=[C,F,G,t,H]) rfl rfl A4 ?_;refine gC (O6 w3 _ _ y.first y.first (f2.ext N) (g2.ext N)) ?_;rintro _ w4⟨b,rfl,S,k⟩;obtain rfl:=S.2 rfl;have n:=N.Q k;have A5:Cells w4 w.heap.size (0+14) [V,q,f,i,p]:=(B3.E k O).cells.part 14 5;have A6:Cells w4 Q.heap.size (0+14) [M,P,W,I,Z]:=(B4.E k O).cells.part 14 5;refine go ?_;refine Al (L:=[V,q,f,i,p]) rfl rfl A5 (go ?_);refine Al (L:=[M,P,W,I,Z]) rfl rfl A6 ?_;refine gC (O6 w4 _ _ y.now y.now (f3.ext n) (g3.ext n)) ?_;rintro _ w5⟨b,rfl,S,k5⟩;obtain rfl:=S.2 rfl;refine gR ?_;exact⟨rfl,n.Q k5⟩
def gX(w:World)(a:Option Addr)(c:Nat)(Z:Option Addr)(j:Nat)(l:List Dty)(N:SlAt dtyR AL w (.slice a l.length c) l)(r:SlAt dtyR AL w (.slice Z l.length j) l):Fn Zp 21 [.slice a l.length c,.slice Z l.length j] w fun u w'=>u=.bool true/\Ext w w':=by
 obtain⟨_,_,e,A⟩:=N.len;refine AM func21 rfl ntmps21 (go ?_);refine Aj (α:=Nat) (fun k=>[(0,.slice a l.length c),(1,.slice Z l.length j),(5,iV (k:Int))]) (fun k W=>k<=l.length/\Ext w W) (fun k=>l.length-k) 0 ag ⟨by omega,Ext.refl _⟩ ?_;rintro k W Q⟨P,K⟩;refine go ?_;by_cases z:k<l.length
 ·obtain⟨y,I⟩:=gl z;obtain⟨b,o,d,rfl, -,x,i⟩:=(N.ext K).at (sz:=19) rfl I;obtain⟨t,m,g,rfl, -,s,n⟩:=(r.ext K).at (sz:=19) rfl I;refine go ?_;refine Ab (rd 0 8 (.alt 8 (.read 9 .done) .stop)) AX rD (fun X f T=>⟨Ext X,?_,?_⟩)
  ·exact sY
  refine go ?_;refine D_R (v:=.agg d.toArray) rfl rfl (fun V p=>by refine Al rfl (dtyR.len i) ((x.E f O).E p O) ?_;exact AB ⟨rfl,rfl,rfl⟩) ?_;refine go ?_;refine D_R (v:=.agg g.toArray) rfl rfl (fun V p=>by refine Al rfl (dtyR.len n) ((s.E f O).E p O) ?_;exact AB ⟨rfl,rfl,rfl⟩) ?_;refine D_E rfl ?_;refine AD (bO X d g y (dtyR.ext i f) (dtyR.ext n f)) rfl ?_;rintro _ B⟨rfl,q⟩;refine wNl q ?_;refine go ?_;exact⟨k+1,⟨rfl,ag,⟨by omega,(K.Q f).Q q⟩⟩,by omega⟩
 ·exact uH


def InS.drop{w:World}{a:Option Addr}{n c:Nat}{xs:List Int}(k:Nat)(h:InS w (.slice a n c) xs)(P:k<=n):InS w (.slice (adv c k 1 a) (n-k) (c-k)) (xs.drop k):=by
 obtain⟨Z,f,e,g,W,R,A⟩:=h;cases e;refine⟨_,_,by rw[HY],by rw[HY];omega,by omega,fun h=>?_,?_⟩
 ·unfold adv at h
  split at h
  ·omega
  ·cases a with
   |none=>have:=R rfl;omega
   |some a=>cases h
 ·by_cases H:xs.length<=k
  ·exact .inl (by rw[HY];omega)
  ·obtain⟨b,o,rfl,_,T⟩:=A.resolve_left U;refine .inr ⟨b,o+k,by unfold adv;rw[AG U];simp[Addr.add],trivial,fun i u d=>?_⟩;rw[Cl,KX,<-Cl]at d;rw[GH];exact T _ _ d
def InS.take{w:World}{a:Option Addr}{n c:Nat}{xs:List Int}(k:Nat)(h:InS w (.slice a n c) xs)(P:k<=n):InS w (.slice a k c) (xs.take k):=by
 obtain⟨Z,f,e,g,W,R,A⟩:=h;cases e;refine⟨a,c,by rw[DE,Ga P],by rw[DE];omega,W,R,?_⟩;rcases A with A|⟨b,o,rfl,t,T⟩
 ·exact .inl (by rw[DE];omega)
 ·refine .inr ⟨b,o,rfl,t,fun i u d=>T i u ?_⟩;rw[List.map_take,Ed]at d
  split at d
  ·exact d
  ·cases d
def InS.cap{w:World}{a:Option Addr}{n c:Nat}{xs:List Int}(h:InS w (.slice a n c) xs):n<=c:=by
 obtain⟨b,cap,e,Z,_⟩:=h;cases e;exact Z
def Sc(w:World)(a Z:Option Addr)(c j:Nat)(xs g:List Int)(V:InS w (.slice a xs.length c) xs)(I:InS w (.slice Z g.length j) g):
  Fn Zp 67 [.slice a xs.length c,.slice Z g.length j] w fun u w'=>u=.bool (decide (xs=g))/\Ext w w':=by
 obtain⟨_,N⟩:=V.len;refine AM func67 rfl ntmps67 ?_;by_cases d:xs.length=g.length;rotate_left
 ·refine gR ?_;exact⟨congrArg Value.bool (BC fun h=>d (by rw[h])).symm,Ext.refl _⟩
 refine go ?_;refine Aj (α:=Nat) (fun k=>[(0,.slice a xs.length c),(1,.slice Z g.length j),(12,iV (xs.length:Int)),(13,iV (k:Int))]) (fun k W=>k<=xs.length/\Ext w W/\∀i,i<k->xs[i]?=g[i]?) (fun k=>xs.length-k) 0 ag ⟨by omega,Ext.refl _,fun i h=>by omega⟩ ?_;rintro k W Q⟨P,K,l⟩;refine go ?_;by_cases z:k<xs.length
 ·obtain⟨x,C⟩:=gl z;obtain⟨y,f⟩:=gl (show k<g.length by omega);obtain⟨b,o,rfl,n⟩:=InS.at (V.ext K) C;obtain⟨q,m,rfl,s⟩:=InS.at (I.ext K) f;refine go ?_;refine Ab (rd 0 9 .done) AX rD (fun X e T=>⟨Ext X,?_,?_⟩)
  ·exact sY
  have p:CC X b (o+k) (iV x):=e.cell n O;have r:CC X q (m+k) (iV y):=e.cell s O;by_cases S:x=y
  ·refine go ?_;refine⟨k+1,⟨rfl,ag,⟨by omega,K.Q e,fun i F=>?_⟩⟩,by omega⟩;by_cases t:i=k
   ·rw[t,C,f,S]
   ·exact l i U
  ·refine go ?_;refine AC rfl ⟨congrArg Value.bool (BC fun h=>S (by rw[h,f]at C;exact(Ae C).symm)).symm,K.Q e⟩
 ·obtain rfl:k=xs.length:=by omega
  refine go ?_;refine AC rfl ⟨congrArg Value.bool (BE (H1 fun i=>?_)).symm,K⟩;by_cases F:i<xs.length
  ·exact l i F
  ·rw[EF U,EF U]
def Jj(l:List Int):Nat->Nat->Nat
 |0,n=>n
 |k+1,n=>if l.length%n=0/\l.drop n=l.take (l.length-n)then n else Jj l k (n+1)
def I0(l:List Int):Nat:=Jj l (l.length-1) 1
def Ya(l:List Int):∀k n,n<=Jj l k n/\Jj l k n<=n+k
 |0,n=>⟨AO _,AO _⟩
 |k+1,n=>by
  rw[Jj]
  split
  ·omega
  ·have:=Ya l k (n+1);omega
def gH(w:World)(a:Option Addr)(c:Nat)(l:List Int)(h:InS w (.slice a l.length c) l)(Z:1<=l.length):Fn Zp 126 [.slice a l.length c] w fun u w'=>u=iV (I0 l:Int)/\Ext w w':=by
 obtain⟨_,N⟩:=h.len;have R:=h.cap;refine AM func126 rfl ntmps126 (go ?_);refine Aj (α:=Nat) (fun n=>[(0,.slice a l.length c),(3,iV (n:Int))]) (fun n W=>1<=n/\n<=l.length/\Ext w W/\Jj l (l.length-n) n=I0 l) (fun n=>l.length-n) 1 ag ⟨by omega,Z,Ext.refl _,rfl⟩ ?_;rintro n W Q⟨H,G,K,C⟩;refine go ?_;by_cases k:n<l.length
 ·obtain⟨m,r⟩:∃m,l.length-n=m+1:=⟨l.length-n-1,by omega⟩;rw[r,Jj]at C;have B:(l.length:Int)%(n:Int)=((l.length%n:Nat):Int):=rfl
  have z:(¬(l.length%n=0/\l.drop n=l.take (l.length-n)))->Jj l (l.length-(n+1)) (n+1)=I0 l:=fun h=>by
   rw[AG h]at C;rw[<-C,show l.length-(n+1)=m by omega]
  refine go ?_;refine Ab (rd 0 15 (.alt 15 (.read 16 .done) .stop)) AX rD (fun X b j=>⟨Ext X,?_,?_⟩)
  ·exact sY
  have e:=K.Q b;by_cases v:l.length%n=0
  ·refine go ?_
   have t:InS W (.slice (adv c ((n:Int)).toNat 1 a) (l.drop n).length (c-((n:Int)).toNat)) (l.drop n):=by
    rw[HY];exact InS.drop n (h.ext K) U
   have i:InS W (.slice a (l.take (l.length-n)).length c) (l.take (l.length-n)):=by
    have:=InS.take (l.length-n) (h.ext K) U
    rwa [DE,Ga U]
   have f:l.length-((n:Int)).toNat=(l.drop n).length:=by rw[HY];rfl
   have g:((l.length:Int)-(n:Int)).toNat=(l.take (l.length-n)).length:=by rw[DE];omega
   rw[f,g];refine D_E rfl ?_;refine gC (Sc X _ _ _ _ _ _ (t.ext b) (i.ext b)) ?_;rintro _ o⟨rfl,x⟩;refine wNl x ?_;have d:=K.Q (b.Q x);by_cases T:l.drop n=l.take (l.length-n)
   ·rw[BE T];rw[AJ ⟨v,T⟩]at C;refine gR ?_;exact⟨congrArg (fun n:Nat=>iV (n:Int)) C,d⟩
   ·rw[BC T];refine go ?_;exact⟨n+1,⟨rfl,ag,⟨by omega,by omega,d,z fun h=>T h.2⟩⟩,by omega⟩
  ·refine gE ?_;refine AP rfl ?_;refine wNl (Ext.refl _) ?_;refine go ?_;exact⟨n+1,⟨rfl,ag,⟨by omega,by omega,e,z fun h=>v h.1⟩⟩,by omega⟩
 ·obtain rfl:n=l.length:=by omega
  refine go ?_;rw[Ot]at C;exact AC rfl ⟨congrArg (fun n:Nat=>iV (n:Int)) C,K⟩
def dl{z A B:LV}(h:z.length=A.length+B.length):splice (splice z 0 A) A.length B=A++B:=by
 simp[splice,h]
def iF(w:World)(a:Option Addr)(c:Nat)(l:List Int)(k:Nat)(h:InS w (.slice a l.length c) l)(P:k<=l.length)(K:l.length<=1000):Fn Zp 128 [.slice a l.length c,iV (k:Int)] w fun u w'=>Ext w w'/\∃G V,u=.slice G (l.drop k++l.take k).length V/\Sl (fun b=>w.heap.size<=b) w' u (l.drop k++l.take k).length ((l.drop k++l.take k).map (.int .i64)):=by
 have R:=InS.cap h;have t:(l.drop k).length=l.length-k:=HY;have m:(l.take k).length=k:=by rw[DE];omega
 refine AM func128 rfl ntmps128 (go ?_);refine Mg (n:=l.length) rfl rfl rfl rfl rfl U U (fun Q D=>?_);have j:=D.size
 have C:InS Q (.slice (adv c ((k:Int)).toNat 1 a) (l.drop k).length (c-((k:Int)).toNat)) (l.drop k):=by
  rw[t];exact InS.drop k (h.ext D.E) P
 refine go ?_;refine YE (g:=w.heap.size) (off:=0) (cs:=(l.drop k).map (.int .i64)) rfl rfl D.D O (fun v=>⟨rfl,?_⟩) O (by intro u p;obtain⟨i, -,rfl⟩:=By.1 p;rfl) (fun L E=>?_)
 ·obtain⟨_,_,e,_,_,_,f⟩:=id C;cases e;obtain⟨b,o,e,_,T⟩:=f.resolve_left (by simp at v;omega);exact⟨b,o,e,T⟩
 rw[Es,t];have s:Ext w L:=D.E.E E.E O;refine go ?_;refine Ab (rd 0 6 (.alt 6 .done .stop)) AX rD (fun X W I=>⟨Keep [w.heap.size] X,?_,?_⟩)
 ·exact tK
 have x:=E.D.E W O;refine gE ?_
 have F:InS X (.slice a (l.take k).length c) (l.take k):=by
  rw[m];exact InS.take k (h.ext (s.Q W)) P
 refine YE (g:=w.heap.size) (off:=l.length-k) (cs:=(l.take k).map (.int .i64)) rfl rfl x (by rw[Es,m];show k=min k _;omega) (fun v=>⟨?_,?_⟩) (by simp[splice];omega) (by intro u p;obtain⟨i, -,rfl⟩:=By.1 p;rfl) (fun H q=>?_)
 ·simp at v;unfold adv;rw[AG U];simp[Addr.add];omega
 ·obtain⟨_,_,e,_,_,_,f⟩:=id F;cases e;obtain⟨b,o,e,_,T⟩:=f.resolve_left (by simp at v;omega);exact⟨b,o,e,T⟩
 have N:Ext w H:=(s.Q W).E q.E O;refine wNl q.E ?_;refine go ?_
 have y:splice (splice (List.replicate l.length (iV 0)) 0 ((l.drop k).map (.int .i64))) (l.length-k) ((l.take k).map (.int .i64))=(l.drop k++l.take k).map (.int .i64):=by
  have:=dl (z:=List.replicate l.length (iV 0)) (A:=(l.drop k).map (.int .i64)) (B:=(l.take k).map (.int .i64)) rE;rw[Es,t]at this;rw[this,FB]
 have r:=q.D;rw[y]at r;have d:(l.drop k++l.take k).length=l.length:=by rw[A9,t,m];omega
 exact AC rfl ⟨N,some ⟨w.heap.size,0,none⟩,l.length,by rw[d];rfl,some ⟨w.heap.size,0,none⟩,l.length,by rw[d];rfl,by omega,by omega,(fun h=>by cases h),.inr ⟨_,_,rfl,AO _,r.cells⟩⟩
def ph:(madeCells (iV 0).cells (0*1)).toList=[]:=by kernel_rfl
def eH(w:World)(a:Option Addr)(c:Nat)(l:List Int)(f:InS w (.slice a l.length c) l)(N:l.length<=1000):
  Fn Zp 127 [.slice a l.length c] w fun u w'=>Ext w w'/\∃p V,u=.slice p l.length V/\Sl (fun b=>w.heap.size<=b) w' u l.length (l.map (.int .i64)):=by
 refine AM func127 rfl ntmps127 (go ?_);refine XE rfl ?_;cases a with
 |none=>
  have v:l.length=0:=by
   obtain⟨_,_,e,_,_,_,h⟩:=f;cases e;rcases h with h|⟨b,o,e,_⟩
   ·exact h
   ·cases e
  refine gR ?_;exact⟨Ext.refl _,none,0,by rw[v];rfl,none,0,by rw[v];rfl,by omega,by omega,fun _=>rfl,.inl v⟩
 |some a=>
  refine go ?_;refine Ay (out:=[]) rfl U (by rw[ph];rfl) (fun Q D=>?_);refine go ?_;have j:=D.own (n:=0) (size:=1) rfl rL (AO _);refine Bk (B:=w.heap.size) (n:=0) rfl rfl j (f.ext D.E) U rfl O (by intro u m;obtain⟨i, -,rfl⟩:=By.1 m;rfl) U U (by have:=D.size;omega) (fun r W R=>?_);refine go ?_;have d:=R.own;rw[Bs,Ef]at d;have E:Sl (fun b=>w.heap.size<=b) W r l.length (l.map (.int .i64)):=BG d fun g k=>(Ao d k).1;obtain⟨q,M,rfl, -⟩:=id E;exact AC rfl ⟨D.E.E R.E (fun y I=>(Ao j (Aw.1 I)).1),q,M,rfl,E⟩
def nrF(M I:List Int):Nat->Nat->Nat×Nat
 |0,b=>(0,b)
 |k+1,b=>if M[k]?=I[I.length-1-b]? then nrF M I k ((b+1)%I.length)else(k+1,b)
def lpP(I:List Int):List Int:=I.take (I0 I)
def LY(M I:List Int):List Int:=M.take (nrF M (lpP I) M.length 0).1
def Pt(M I:List Int):Nat:=((lpP I).length-(nrF M (lpP I) M.length 0).2)%(lpP I).length
def Pu(M I:List Int):List Int:=(lpP I).drop (Pt M I)++(lpP I).take (Pt M I)
def Y1(B:Nat)(w:World)(c:LV)(M I:List Int):Prop:=∃H a G N,c=[.slice H M.length a,.slice G I.length N]/\Sl (fun b=>B<=b) w (.slice H M.length a) M.length (M.map (.int .i64))/\Sl (fun b=>B<=b) w (.slice G I.length N) I.length (I.map (.int .i64))
set_option maxHeartbeats 1000000 in
def OH(w:World)(c:LV)(M I:List Int)(h:LasG w c M I)(hs:M.length<=60)(h1:1<=I.length)(h2:I.length<=40):Fn Zp 66 [.agg c.toArray] w fun u w'=>∃j:LV,u=.agg j.toArray/\Ext w w'/\Y1 w.heap.size w' j (LY M I) (Pu M I):=by
 obtain⟨sa,sc,G,N,rfl,s,f⟩:=h;have b5:=InS.cap f;have b6:=InS.cap s;obtain⟨a6,b0⟩:=Ya I (I.length-1) 1;have K:(lpP I).length=I0 I:=by unfold lpP;rw[DE];unfold I0;omega
 obtain⟨p,C⟩:∃p,p=I0 I:=⟨_,rfl⟩;have a6:1<=p:=by rw[C];exact a6
 have b0:p<=I.length:=by rw[C];unfold I0;omega
 rw[<-C]at K;refine AM func66 rfl ntmps66 (go ?_);refine Ac (L:=[.slice sa M.length sc,.slice G I.length N]) rfl (fun w1 D=>?_);refine Ai (fun w2 R=>?_);have z1:=D.size;have z2:=R.size;have e2:=D.E.Q R.E;have l:=D.D.E R.E O;have B2:=R.D;refine go ?_;refine Ab (rd 0 4 (.alt 4 (.read 5 (.read 6 .done)) .stop)) AX rD (fun X a T=>⟨Ext X,?_,?_⟩)
 ·exact sY
 have Z:=e2.Q a;have C1:=l.E a O;refine gE ?_;refine AD (gH X G N I (f.ext Z) h1) rfl ?_;rintro _ w3⟨rfl,g⟩;refine wNl g ?_;have Q:=Z.Q g;have z3:=Q.size;have q:=a.Q g;have D1:=l.E q O;have D2:=B2.E q O;rw[<-C];have S:∀W,Ext w W->InS W (.slice G (lpP I).length N) (lpP I):=fun W k=>by rw[K,C];exact InS.take (I0 I) (f.ext k) U
 refine go ?_
 refine Aj (α:=Nat×Nat) (fun u=>[(1,pt w.heap.size),(2,pt w1.heap.size),(3,.slice G p N),(4,iV (p:Int)),(5,iV (u.1:Int)),(6,iV (u.2:Int))])
  (fun u W=>u.1<=M.length/\u.2<p/\Ext w3 W/\nrF M (lpP I) u.1 u.2=nrF M (lpP I) M.length 0) (fun u=>u.1) (M.length,0) ag ⟨by simp,by simp only;omega,Ext.refl _,rfl⟩ ?_
 rintro⟨k,b⟩W fr⟨P,hb,n,H⟩;simp only at P hb n H;have eW:=Q.Q n;have E1:=D1.E n O;have E2:=D2.E n O;refine go ?_;refine Ab (rd 0 18 .done) AX rD (fun X a T=>⟨Ext X,?_,?_⟩)
 ·exact sY
 have d:=eW.Q a;have F1:=E1.E a O;have F2:=E2.E a O;have kX:=n.Q a
 have a2:k=0\/(∃m,k=m+1/\¬M[m]?=(lpP I)[p-1-b]?)->nrF M (lpP I) M.length 0=(k,b):=fun h=>by
  rw[<-H];rcases h with rfl|⟨m,rfl,a9⟩
  ·rfl
  ·rw[nrF,K,AG a9]
 by_cases z:∃m,k=m+1/\M[m]?=(lpP I)[p-1-b]?
 ·obtain⟨m,rfl,a3⟩:=z;obtain⟨x,e⟩:=gl (show m<M.length by omega);obtain⟨ba,oa,rfl,a0⟩:=InS.at (s.ext d) e;have t:(lpP I)[p-1-b]?=some x:=by rw[<-a3];exact e
  obtain⟨bb,ob,rfl,a1⟩:=InS.at (S X d) t;have E:(((m+1:Nat):Int)-1)=(m:Int):=by omega
  have a4:((p:Int)-1-(b:Int))=((p-1-b:Nat):Int):=by omega
  have hr:((b:Int)+1)%(p:Int)=(((b+1)%p:Nat):Int):=by rw[Nn,BB];rfl
  have a8:=Kx (b+1) (show 0<p by omega);refine go ?_;refine⟨(m,(b+1)%p),⟨rfl,⟨rfl,rfl,rfl,rfl,?_,?_,trivial⟩,⟨by simp only;omega,by simpa using a8,kX,?_⟩⟩,by simp⟩
  ·exact congrArg (Value.int .i64) E
  ·exact congrArg (Value.int .i64) hr
  ·simp only;rw[<-H,nrF,K,AJ a3]
 ·have F:nrF M (lpP I) M.length 0=(k,b):=a2 (by
   cases k with
   |zero=>exact .inl rfl
   |succ m=>exact .inr ⟨m,rfl,fun h=>z ⟨m,rfl,h⟩⟩)
  have hq:Pt M I=(p-b)%p:=by unfold Pt;rw[F,K]
  have a5:LY M I=M.take k:=by unfold LY;rw[F]
  have b1:((p:Int)-(b:Int))%(p:Int)=(((p-b)%p:Nat):Int):=by rw[Nn,Int.natCast_sub U]
  have a7:∀V,Ext w V->InS V (.slice sa (M.take k).length sc) (M.take k):=fun V kV=>by
   have:=InS.take k (s.ext kV) P
   rwa [DE,Ga P]
  have r:(M.take k).length=k:=by rw[DE];omega
  clear a2 H F;rcases k with _|m;rotate_left;obtain⟨x,e⟩:=gl (show m<M.length by omega);obtain⟨y,t⟩:=gl (show p-1-b<(lpP I).length by omega);obtain⟨ba,oa,rfl,a0⟩:=InS.at (s.ext d) e;obtain⟨bb,ob,rfl,a1⟩:=InS.at (S X d) t;have b2:¬x=y:=fun h=>z ⟨m,rfl,by rw[e,t,h]⟩;have E:(((m+1:Nat):Int)-1)=(m:Int):=by omega
  have a4:((p:Int)-1-(b:Int))=((p-1-b:Nat):Int):=by omega
  refine go ?_;clear E a4 a0 a1 b2;rotate_left;refine go ?_
  all_goals
   refine Ab (rd 0 4 (rd 5 6 (.alt 4 (.alt 11 (.read 12 (.alt 13 .done .stop)) .stop) .stop))) AX rD (fun X a T=>⟨Keep [w1.heap.size] X,?_,?_⟩)
   ·exact tK
   have B:=d.Q a;have G1:=F1.E a O;have G2:=F2.E a O;have zY:=((q.Q kX).Q a).size;refine go ?_;have hc:=eH X _ _ _ (a7 X B) (by rw[r];omega);rw[r]at hc;refine D_E rfl ?_;refine AD hc rfl ?_;rintro _ o⟨v,va,vc,rfl,i1⟩;refine wNl v.any ?_;refine go ?_;rw[b1];have ht:=iF o _ _ (lpP I) ((p-b)%p) (S o (B.Q v)) (by rw[K];exact Nat.le_of_lt (Kx _ U)) U;rw[K,<-hq]at ht;rw[<-hq];refine D_E rfl ?_;refine AD ht rfl ?_;rintro _ v2⟨j2,ua,uc,rfl,i2⟩;have A:=v.Q j2;refine wNl A.any ?_;refine gE ?_;refine Aa (cs:=[.slice va _ vc,.slice ua _ uc]) rfl rfl rfl (Ak rfl) (G2.E A O) O (fun v3 i=>?_);refine wNl (A.any.Q i.E (fun x h _=>h)) ?_;refine go ?_;have e9:Ext w v3:=(B.Q A).E i.E rE;have b7:=v.size;have b3:=(i1.ext j2).E i.E (fun x(h:X.heap.size<=x)hm=>by rw[Bj]at hm;omega);have b4:=i2.E i.E (fun x(h:o.heap.size<=x)hm=>by rw[Bj]at hm;omega);refine Ar rfl rfl rfl i.D.cells ⟨_,rfl,e9,va,vc,ua,uc,by rw[a5,r];rfl,?_,b4.mono fun x(h:o.heap.size<=x)=>by omega⟩;rw[a5,r];exact b3.mono fun x(h:X.heap.size<=x)=>by omega
def lL(w:World)(c:LV)(M I:List Int)(h:LasG w c M I)(E:M.length<=60)(Z:1<=I.length)(W:I.length<=40)(z:∀x∈M,0<=x/\x<64)(A:∀x∈I,0<=x/\x<64):Fn Zp 24 [.agg c.toArray,.agg c.toArray] w fun u w'=>u=.bool true/\Ext w w':=by
 have v:=h;obtain⟨H,r,k,N,rfl,a1,a0⟩:=h;refine AM func24 rfl ntmps24 (go ?_);refine Ac (L:=[.slice H M.length r,.slice k I.length N]) rfl (fun Q D=>?_);refine Ac (L:=[.slice H M.length r,.slice k I.length N]) rfl (fun w2 R=>?_);have z1:=D.size;have t:=D.E.Q R.E;have l:=D.D.E R.E O;have s:=R.D;refine gC (Nw w2 _ M I (v.ext t) E Z W z A) ?_;rintro _ w3⟨rfl,e⟩;have y:=t.Q e;have P:=l.E e O;have S:=s.E e O;refine gC (Nw w3 _ M I (v.ext y) E Z W z A) ?_;rintro _ w4⟨rfl,b⟩;have e4:=y.Q b;have T:=P.E b O;have D2:=S.E b O;refine go ?_;refine Ab (.alt 0 (.alt 1 (.alt 2 (.alt 3 (.alt 4 (.alt 5 .done .stop) .stop) .stop) .stop) (.alt 2 (.alt 1 (.alt 3 (.alt 4 (.alt 5 .done .stop) .stop) .stop) .stop) .stop)) (.alt 2 (.alt 0 (.alt 1 (.alt 3 (.alt 4 (.alt 5 .done .stop) .stop) .stop) .stop) .stop) .stop)) AX rD (fun a j ed=>⟨Keep [w.heap.size,Q.heap.size] a,?_,?_⟩)
 ·exact tK
 have G:=e4.Q j;have q:=T.E j O;have f:=D2.E j O
 refine JP (α:=LV) (.alt 3 (.alt 4 (.alt 5 .done .stop) .stop) .stop) (fun u=>[(2,pt w.heap.size),(3,pt Q.heap.size),(14,.agg u.toArray),(15,.agg [.slice H M.length r,.slice k I.length N].toArray)])
  (fun u V=>Ext a V/\Y1 a.heap.size V u (LY M I) (Pu M I)) ?_ (fun p=>?_)
 rotate_left
 ·refine D_A rfl ?_ ?_
  ·refine Cu rfl q rfl ?_;refine wNl (Keep.refl _ _) ?_;refine D_A rfl ?_ ?_
   ·refine AD (OH a _ M I (v.ext G) E Z W) rfl ?_;rintro _ B⟨d,rfl,X,C⟩;refine wNl X.any ?_;refine D_E rfl ?_;refine Cu rfl (f.E X O) rfl ?_;refine wNl X.any ?_;exact p d _ _ ag ⟨X,C⟩
   ·refine D_E rfl ?_;refine Cu rfl f rfl ?_;exact tk
  ·refine D_E rfl ?_;refine Cu rfl f rfl ?_;refine wNl (Keep.refl _ _) ?_;refine D_E rfl ?_;refine Cu rfl q rfl ?_;exact tk
 rintro d f' V⟨K,C⟩;have eV:=G.Q K;refine D_E rfl ?_;refine AD (OH V _ M I (v.ext eV) E Z W) rfl ?_;rintro _ v2⟨c2,rfl,o,l2⟩;have m:=K.Q o;refine wNl m.any ?_;obtain⟨pa,pc,qa,qc,rfl,m1,m2⟩:=C;obtain⟨ra,rc,ta,tc,rfl,m3,m4⟩:=l2;refine D_E rfl ?_;refine Aa (cs:=[.slice pa _ pc,.slice qa _ qc]) rfl rfl rfl (Ak rfl) (q.E m O) O (fun v3 i=>?_);refine wNl (m.any.Q i.E (fun x h _=>by simp at h;simp[h])) ?_;refine D_E rfl ?_;refine Aa (cs:=[.slice ra _ rc,.slice ta _ tc]) rfl rfl rfl (Ak rfl) ((f.E m O).E i.E rE) O (fun F g=>?_);refine wNl ((m.any.Q i.E (fun x h _=>by simp at h;simp[h])).Q g.E (fun x h _=>by simp at h;simp[h])) ?_;have zd:=(e.Q (b.Q j)).size;have z2:=R.size;have zV:=K.size;have e9:Ext w F:=(((G.Q m).E i.E O).E g.E rE);have t1:=((m1.ext o).E i.E (fun x(h:a.heap.size<=x)hm=>by rw[Bj]at hm;omega)).E g.E (fun x(h:a.heap.size<=x)hm=>by rw[Bj]at hm;omega);have t2:=((m2.ext o).E i.E (fun x(h:a.heap.size<=x)hm=>by rw[Bj]at hm;omega)).E g.E (fun x(h:a.heap.size<=x)hm=>by rw[Bj]at hm;omega);have t3:=(m3.E i.E (fun x(h:V.heap.size<=x)hm=>by rw[Bj]at hm;omega)).E g.E (fun x(h:V.heap.size<=x)hm=>by rw[Bj]at hm;omega);have t4:=(m4.E i.E (fun x(h:V.heap.size<=x)hm=>by rw[Bj]at hm;omega)).E g.E (fun x(h:V.heap.size<=x)hm=>by rw[Bj]at hm;omega);have G1:=i.D.E g.E rE;have G2:=g.D;refine gC (Sc F _ _ _ _ (LY M I) (LY M I) (t1.mono fun _ _=>trivial) (t3.mono fun _ _=>trivial)) ?_;rintro _ v5⟨rfl,n⟩;rw[BE rfl];have G3:=G1.E n O;have G4:=G2.E n O;refine gC (Sc v5 _ _ _ _ (Pu M I) (Pu M I) ((t2.ext n).mono fun _ _=>trivial) ((t4.ext n).mono fun _ _=>trivial)) ?_;rintro _ v6⟨rfl,j6⟩;rw[BE rfl];refine gR ?_;exact⟨rfl,(e9.Q n).Q j6⟩
def cZ(S:List Sgn)(H:Option Addr)(G:Nat):∀(N:Nat)(f:Fml),szF f<=N->∀(w:World)(v:Value),SlAt sgnR AL w (.slice H S.length G) S->FAt AL w v f->Fn Zp 119 [.slice H S.length G,v] w fun u w'=>∃b:Bool,u=.bool b/\Ext w w':=by
 intro N
 induction N with
 |zero=>intro f A;have:=Ey f;omega
 |succ N ih=>
 intro f A w v c o;have a3:=Bn f;obtain⟨c5,rfl,F,a2⟩:=o.cells;obtain⟨x0,x1,x2,x3,x4,rfl⟩:=An F;refine AM func119 rfl ntmps119 (go ?_);refine Ac (L:=[x0,x1,x2,x3,x4]) rfl (fun Q D=>?_);have z1:=D.size;have C:PF AL Q w.heap.size 0 f:=⟨trivial,_,rfl,D.D.cells,o.ext D.E⟩;obtain⟨aa,ac,a0,q0,q1,Z,q3,q4,qa⟩:=C.all;by_cases e3:f.op=3
 ·refine gC (Ra Q _ S f.name (c.ext D.E)) ?_;rintro _ _⟨rfl,rfl⟩;rcases QZ S f.name with⟨r, -⟩|⟨i,s,r,E, -⟩
  ·rw[r];refine go ?_;refine Ab (rd 0 18 .done) AX rD (fun X a T=>⟨Ext X,?_,?_⟩)
   ·exact sY
   refine gR ?_;exact⟨false,rfl,D.E.Q a⟩
  ·rw[r];have a1:=(Ah.1 E).1;obtain⟨_,sb,so,rfl,_,M⟩:=c.sig E;have B:=M 2 _ rfl;refine go ?_;refine Ab (rd 0 18 .done) AX rD (fun X a T=>⟨Ext X,?_,?_⟩)
   ·exact sY
   have s1:CC X w.heap.size (0+2) (iV f.val):=a.cell Z O;have s2:CC X sb (so+i*3+2) (iV s.size):=(D.E.Q a).cell B O;by_cases g0:0<=f.val
   ·by_cases g1:f.val<s.size
    ·refine gR ?_;exact⟨true,rfl,D.E.Q a⟩
    ·refine gR ?_;exact⟨false,rfl,D.E.Q a⟩
   ·refine gR ?_;exact⟨false,rfl,D.E.Q a⟩
 ·refine go ?_;refine Aj (α:=Nat) (fun k=>[(0,.slice H S.length G),(3,pt w.heap.size),(6,iV (k:Int))]) (fun k W=>k<=f.args.length/\Ext Q W) (fun k=>f.args.length-k) 0 ag ⟨by omega,Ext.refl _⟩ ?_;rintro k W fr⟨hk,K⟩;have y:=D.E.Q K;have r4:=K.cell q4 O;refine go ?_;by_cases z:k<f.args.length
  ·obtain⟨x,p⟩:=gl z;obtain⟨q,m,rfl,R⟩:=qa k x p;obtain⟨_,d,I,g,j⟩:=R;obtain⟨e,P,V,h,n,rfl⟩:=An I;have l:Cells W q (m+k*5) [e,P,V,h,n]:=g.E K O;have a4:=Ci (BA p);refine go ?_;refine Al (L:=[e,P,V,h,n]) rfl rfl l ?_;refine gC (ih x U W _ (c.ext y) (j.ext K)) ?_;rintro _ w5⟨b,rfl,t⟩;cases b with
   |true=>
    refine go ?_;exact⟨k+1,⟨rfl,ag,⟨by omega,K.Q t⟩⟩,by omega⟩
   |false=>
    refine gR ?_;exact⟨false,rfl,y.Q t⟩
  ·refine gR ?_;exact⟨true,rfl,y⟩
def Z4(w:World)(H:Option Addr)(G:Nat)(S:List Sgn)(v:Value)(f:Fml)(i:SlAt sgnR AL w (.slice H S.length G) S)(K:FAt AL w v f):Fn Zp 62 [.slice H S.length G,v] w fun u w'=>∃b:Bool,u=.bool b/\Ext w w':=by
 obtain⟨P,rfl,F,T⟩:=K.cells;obtain⟨E,d,I,k,j,rfl⟩:=An F;refine AM func62 rfl ntmps62 (go ?_);refine Ac (L:=[E,d,I,k,j]) rfl (fun Q D=>?_);have z1:=D.size;have C:PF AL Q w.heap.size 0 f:=⟨trivial,_,rfl,D.D.cells,K.ext D.E⟩;obtain⟨M,s,R,V,W,X,Z,q4,qa⟩:=C.all;refine gC (OL Q _ f 400 U (K.ext D.E)) ?_;rintro _ z⟨rfl,m⟩;have a:=D.E.Q m;have h:=D.D.E m O;cases decide (szF f<=400)with
 |false=>
  refine gR ?_;exact⟨false,rfl,a⟩
 |true=>
 refine gC (TW z H G S _ f (i.ext a) (K.ext a)) ?_;rintro _ A⟨e,rfl,g, -⟩;have N:=a.Q g;have y:=h.E g O;by_cases B:e=0
 ·refine gR ?_;exact⟨true,rfl,N⟩
 refine gC (N0 A _ S (i.ext N)) ?_;rintro _ t⟨rfl,o⟩;have n:=N.Q o;have p:=y.E o O;cases Bo S with
 |false=>
  refine gR ?_;exact⟨false,rfl,n⟩
 |true=>
 refine gC (fY t _ f (K.ext n)) ?_;rintro _ c⟨b,rfl,x, -⟩;have l:=n.Q x;have r:=p.E x O;cases b with
 |false=>
  refine gR ?_;exact⟨false,rfl,l⟩
 |true=>
 refine gC (cZ S H G _ f (AO _) c _ (i.ext l) (K.ext l)) ?_;rintro _ w6⟨b,rfl,q⟩;refine gR ?_;exact⟨b,rfl,l.Q q⟩
def jv(w:World)(H:Option Addr)(G:Nat)(S:List Sgn)(v:Value)(f:Fml)(c:LV)(M I:List Int)(i:SlAt sgnR AL w (.slice H S.length G) S)(E:Bo S=true)(g:FAt AL w v f)(N:LasG w c M I):Fn Zp 22 [.slice H S.length G,v,.agg c.toArray] w fun u w'=>∃b:Bool,u=.bool b/\Ext w w':=by
 have p:=N;obtain⟨a,Z,r,t,rfl,a3,a1⟩:=N;obtain⟨c5,rfl,F,a2⟩:=g.cells;obtain⟨x0,x1,x2,x3,x4,rfl⟩:=An F;refine AM func22 rfl ntmps22 (go ?_);refine Ac (L:=[x0,x1,x2,x3,x4]) rfl (fun y D=>?_);have z1:=D.size;have C:PF AL y w.heap.size 0 f:=⟨trivial,_,rfl,D.D.cells,g.ext D.E⟩;obtain⟨aa,ac,a0,q0,d,e,l,q4,qa⟩:=C.all;refine Ac (L:=[.slice a M.length Z,.slice r I.length t]) rfl (fun w2 R=>?_);have B:=D.E.Q R.E;have z:=D.D.E R.E O;have s:=R.D;refine go ?_;refine Ab (.read 0 (.alt 1 (rd 2 3 (.alt 5 (rd 6 3 (.read 10 (.alt 9 (.alt 11 (.read 12 (.read 13 .done)) .stop) .stop))) .stop)) .stop)) AX rD (fun j W ed=>⟨Ext j,?_,?_⟩)
 ·exact sY
 have m:=B.Q W;have D1:=z.E W O;have A:=s.E W O;have l2:∀V,Ext j V->Cells V y.heap.size 0 [.slice a M.length Z,.slice r I.length t]:=fun V k=>(A.E k O).cells;refine gE ?_;refine AD (Wb j _ M I (p.ext m)) rfl ?_;rintro _ P⟨b,rfl,X⟩;have d:=m.Q X;refine wNl X ?_;cases b with
 |false=>
  refine gE ?_;refine AP rfl ?_;refine wNl X ?_;refine gE ?_;refine AP rfl ?_;refine wNl X ?_;refine gE ?_;refine AP rfl ?_;refine wNl X ?_;refine gR ?_;exact⟨false,rfl,d⟩
 |true=>
 refine gE ?_;refine gC (Z4 P H G S _ f (i.ext d) (g.ext d)) ?_;rintro _ n⟨b,rfl,o⟩;have e:=d.Q o;have K:=X.Q o;refine wNl K ?_;cases b with
 |false=>
  refine gE ?_;refine AP rfl ?_;refine wNl K ?_;refine gE ?_;refine AP rfl ?_;refine wNl K ?_;refine gR ?_;exact⟨false,rfl,e⟩
 |true=>
 refine gE ?_;refine gC (Td n _ S (i.ext e) E) ?_;rintro _ T⟨rfl,q⟩;have l:=e.Q q;have x:=K.Q q;refine wNl x ?_;refine gE ?_;refine gC (VG T _ _ M I (p.ext l)) ?_;rintro _ v4⟨b,rfl,Q, -⟩;refine wNl (x.Q Q) ?_;refine gR ?_;exact⟨b,rfl,l.Q Q⟩
set_option maxHeartbeats 4000000 in
def Z9(w:World)(H:Option Addr)(G:Nat)(ra:Option Addr)(rc:Nat)(s:Spc)(la:Option Addr)(lc:Nat)(xs:List Int)(c:LV)(M I:List Int)(i:SlAt sgnR AL w (.slice H s.sigs.length G) s.sigs)(hr:SlAt reqR AL w (.slice ra s.reqs.length rc) s.reqs)
  (hx:InS w (.slice la xs.length lc) xs)(hl:LasG w c M I)(hP:GP w)(D:GF w)(N:KY w)(P:10<=w.heap.size):
  Fn Zp 4 [.agg #[.slice H s.sigs.length G,.slice ra s.reqs.length rc],.slice la xs.length lc,.agg c.toArray] w fun u w'=>u=.bool true/\Ext w w':=by
 have hl0:=hl;obtain⟨f8,f7,f6,lc2,rfl,g9,hlp⟩:=hl;have h2:=hx.len;refine AM func4 rfl ntmps4 (go ?_);refine Ac (L:=[.slice H s.sigs.length G,.slice ra s.reqs.length rc]) rfl (fun w1 n1=>?_);refine Ac (L:=[.slice f8 M.length f7,.slice f6 I.length lc2]) rfl (fun w2 n2=>?_);have A:=n1.E.Q n2.E;have B3:=n1.D.E n2.E O;have B5:=n2.D;refine gC (bh w2 (hP.ext A) (D.ext A) (N.E A O) (Az P A.size)) ?_;rintro _ w3⟨rfl,k3⟩;have e3:=A.Q k3;have C3:=B3.E k3 O;have C5:=B5.E k3 O;refine go ?_;refine Ab (.read 0 (.alt 1 (rd 2 8 (.alt 10 (rd 11 5 (.read 17 (.alt 16 (.alt 18 (.read 19 (.read 20 .done)) .stop) .stop))) .stop)) .stop)) AX rD (fun f a ed=>⟨Ext f,?_,?_⟩)
 ·exact sY
 have ed':=e3.Q a;have D3:=C3.E a O;have D5:=C5.E a O;refine gE ?_;refine AD (bZ f H G ra rc s (i.ext ed') (hr.ext ed') (hP.ext ed')) rfl ?_;rintro _ v1⟨b,rfl,n,hb⟩;have q1:=ed'.Q n;refine wNl n ?_;cases b with
 |false=>
  exact tl
 |true=>
 obtain⟨m,b0,ts,hlex⟩:=hb rfl;have e7:=nw m hlex;have h0:=Yc m b0;have hval:Bo s.sigs=true:=(MG m).1;have g7:s.reqs.length<=16:=(MG m).2.1;by_cases h1:8<xs.length
 ·exact tl
 refine gE ?_;refine gC (Wb v1 _ M I (hl0.ext q1)) ?_;rintro _ v2⟨o,rfl,j2⟩;have q2:=q1.Q j2;have r2:=n.Q j2;refine wNl r2 ?_;cases o with
 |false=>
  refine gE ?_;refine AP rfl ?_;refine wNl r2 ?_;refine gE ?_;refine AP rfl ?_;refine wNl r2 ?_;refine gR ?_;exact⟨rfl,q2⟩
 |true=>
 refine gE ?_;refine gC (Td v2 _ s.sigs (i.ext q2) hval) ?_;rintro _ v3⟨rfl,j3⟩;have q3:=q2.Q j3;have r3:=r2.Q j3;refine wNl r3 ?_;refine gE ?_;refine gC (VG v3 _ _ M I (hl0.ext q3)) ?_;rintro _ v4⟨p,rfl,j4,d3⟩;have E:=q3.Q j4;have r4:=r3.Q j4;refine wNl r4 ?_;cases p with
 |false=>
  refine gR ?_;exact⟨rfl,E⟩
 |true=>
 obtain⟨g1,g2,g3,g4,g5⟩:=d3 rfl;have E3:=D3.E r4 O;have E5:=D5.E r4 O;refine gC (SB v4 [.slice H s.sigs.length G,.slice ra s.reqs.length rc] s ⟨_,_,rfl,i.ext E,hr.ext E⟩ (hP.ext E) U) ?_;rintro _ v5⟨rfl,j5⟩;rw[Yd m];have q5:=E.Q j5;refine gC (Uu v5 _ s (hP.ext q5).gk e7) ?_;rintro _ v6⟨c6,rfl,j6,sv,rv,rfl,b6,b5⟩;have q6:=q5.Q j6;obtain⟨ta,tc,rfl,_⟩:=b6.len;obtain⟨ua,uc,rfl,_⟩:=b5.len;refine go ?_;refine CL (cs:=[.slice ta s.sigs.length tc,.slice ua s.reqs.length uc]) rfl rfl rF (Ak rfl) (fun v7 n7=>?_);have b3:=(j5.Q j6).Q n7.E;have q7:=E.Q b3;have F3:=E3.E b3 O;have F5:=E5.E b3 O;have F8:=n7.D;have b7:=b6.ext n7.E;have d0:=b5.ext n7.E;obtain⟨cT,d5⟩:∃cT,cT=v6.heap.size:=⟨_,rfl⟩;rw[<-d5]at F8⊢;have b9:∀r∈s.reqs,szF r.formula<=1000000:=fun r hr'=>by have:=b0 r hr';omega
 refine gC (Q1 v7 H G ra rc s 3 U (i.ext q7) (hr.ext q7) b9 (D.ext q7) (N.E q7 O) (Az P q7.size)) ?_;rintro _ v8⟨dv,e8,rfl,R,d9,d6⟩;obtain rfl:=d9.2 m;have c7:=d6 m;have q8:=q7.Q R;have G3:=F3.E R O;have G5:=F5.E R O;have G8:=F8.E R O;refine gC (Q1 v8 ta tc ua uc s 3 U (b7.ext R) (d0.ext R) b9 (D.ext q8) (N.E q8 O) (Az P q8.size)) ?_;rintro _ v9⟨dw,e9,rfl,l,e0,d7⟩;obtain rfl:=e0.2 m;have c8:=c7.ext l;have c9:=d7 m;have q9:=q8.Q l;have j:=G3.E l O;have g:=G5.E l O;have H8:=G8.E l O;have d1:=(b7.ext R).ext l;have hssz:=lB (t:=3) b0;have g8:(GS s 3).length=s.reqs.length:=by simp[GS]
 refine go ?_
 refine Aj (α:=Nat×Value×Value) (fun u=>[(1,.slice la xs.length lc),(3,pt w.heap.size),(5,pt w1.heap.size),(7,.bool true),(8,pt cT),(11,u.2.1),(13,u.2.2),(15,iV (u.1:Int))])
  (fun u W=>u.1<=xs.length/\Ext v9 W/\SlAt dtyR AL W u.2.1 (Hm s.sigs (GS s 3) (xs.take u.1))/\SlAt dtyR AL W u.2.2 (Hm s.sigs (GS s 3) (xs.take u.1))) (fun u=>xs.length-u.1) (0,dv,dw) ag ⟨by omega,Ext.refl _,c8,c9⟩ ?_
 rintro⟨k,dv,dw⟩W fr⟨hk,K,C,hB⟩;simp only at hk K C hB;have qW:=q9.Q K;replace j:=j.E K O;replace g:=g.E K O;replace H8:=H8.E K O;obtain⟨a1,c1,rfl, -⟩:=C.len;obtain⟨a2,c2,rfl, -⟩:=hB.len;obtain⟨c0,b2⟩:=Vg (S:=s.sigs) (xs.take k) (GS s 3)
 have hts:∀y∈Hm s.sigs (GS s 3) (xs.take k),szF y.req.formula<=1000000/\szF y.first<=1000000:=fun y hy=>by
  obtain⟨z,hz,e1,A⟩:=b2 y hy;rw[e1,A];exact hssz z hz
 refine go ?_;by_cases e4:k<xs.length
 ·obtain⟨x,hxk⟩:=gl e4;obtain⟨bx,ox,rfl,a9⟩:=InS.at (hx.ext qW) hxk;have htk:xs.take (k+1)=xs.take k++[x]:=by rw[CT,hxk];rfl
  refine go ?_;refine Ab (rd 0 7 (.alt 7 (.read 8 .done) .stop)) AX rD (fun f a ed=>⟨Ext f,?_,?_⟩)
  ·exact sY
  have I3:=j.E a O;have I8:=H8.E a O;have f9:=a.cell a9 O;have qd:=qW.Q a;refine gE ?_;refine AD (RW f H G s.sigs a1 c1 _ x (i.ext qd) (C.ext a) U hts (D.ext qd) (N.E qd O) (Az P qd.size)) rfl ?_;rintro t1 u1⟨i1,a8⟩;refine wNl i1 ?_;have y1:=a.Q i1;have J8:=H8.E y1 O;have g0:=y1.cell a9 O;refine go ?_;refine Ab (rd 0 7 (.alt 7 (.read 8 .done) .stop)) AX rD (fun f a ed=>⟨Ext f,?_,?_⟩)
  ·exact sY
  have y2:=y1.Q a;have K8:=H8.E y2 O;have cz1:=y2.cell a9 O;have qe:=qW.Q y2;refine gE ?_;refine AD (RW f ta tc s.sigs a2 c2 _ x ((d1.ext K).ext y2) (hB.ext y2) U hts (D.ext qe) (N.E qe O) (Az P qe.size)) rfl ?_;rintro t2 u2⟨i2,hB2⟩;refine wNl i2 ?_;refine go ?_;refine⟨(k+1,t1,t2),⟨rfl,ag,⟨by simp only;omega,(K.Q y2).Q i2,?_,?_⟩⟩,by simp only;omega⟩
  ·simp only;rw[htk,Qu];exact(a8.ext a).ext i2
  ·simp only;rw[htk,Qu];exact hB2
 ·obtain rfl:k=xs.length:=by omega
  rw[Co]at C hB c0 b2 hts⊢;have b8:=Wm (S:=s.sigs) xs _ (lA m 3);obtain⟨Q,d8⟩:∃Q,Q=Hm s.sigs (GS s 3) xs:=⟨_,rfl⟩;rw[<-d8]at C hB c0 b2 hts b8⊢;refine gC (gX W a1 c1 a2 c2 Q C hB) ?_;rintro _ x1⟨rfl,m1⟩;have p1:=qW.Q m1;replace j:=j.E m1 O;replace g:=g.E m1 O;have a8:=C.ext m1;refine go ?_;refine Aj (α:=Nat) (fun k=>[(3,pt w.heap.size),(5,pt w1.heap.size),(7,.bool true),(11,.slice a1 Q.length c1),(16,iV (k:Int))]) (fun k W=>k<=Q.length/\Ext x1 W) (fun k=>Q.length-k) 0 ag ⟨by omega,Ext.refl _⟩ ?_;rintro k X fr2⟨hk2,e⟩;have pX:=p1.Q e;replace j:=j.E e O;replace g:=g.E e O;refine go ?_;by_cases e5:k<Q.length
  ·obtain⟨y,hy⟩:=gl e5;obtain⟨yb,yo,d,rfl,h3,hd,hfy⟩:=(a8.ext e).at (sz:=19) rfl hy;obtain⟨o0,o1,o2,o3,o4,a0,a1,a2,a3,a4,T,q,o,Z,p,rfl, -, -,f3⟩:=KI hfy;have cb:Cells X yb (yo+k*19+14) [T,q,o,Z,p]:=hd.part 14 5;have a5:=b8 y (BA hy);have b1:=fZ a5.1;have h4:=(H4 a5.1).1;refine go ?_;refine Al (L:=[T,q,o,Z,p]) rfl rfl cb ?_;refine gC (SA X _ y.now f3 (hP.ext pX) U) ?_;rintro _ x2⟨rfl,m2⟩;rw[qY b1];have p2:=pX.Q m2;refine go ?_;refine CZ rfl rfl (fun h=>absurd h (pS b1)) (fun _=>?_);refine gC (Vx x2 _) ?_;rintro _ x3⟨b,rfl,m3,e6⟩;have p3:=p2.Q m3;have c3:=m2.Q m3;cases b with
   |false=>
    refine go ?_;exact⟨k+1,⟨rfl,ag,⟨by omega,e.Q c3⟩⟩,by omega⟩
   |true=>
   obtain⟨h5,f0⟩:=e6 rfl;refine gC (gD x3 _ y.now (hP.ext p3).gk (mI b1 f0)) ?_;rintro _ x4⟨ck,rfl,m4,fk⟩;obtain⟨e2,c5⟩:=id fk;obtain⟨k0,f1,f2,k3',f4,rfl⟩:=An e2;refine go ?_;refine CL (cs:=[k0,f1,f2,k3',f4]) rfl rfl rF (fmlR.one fk) (fun x5 n5=>?_);have B:=(c3.Q m4).Q n5.E;have p5:=pX.Q B;replace j:=j.E B O;replace g:=g.E B O;have K7:=n5.D;obtain⟨cK,d4⟩:∃cK,cK=x4.heap.size:=⟨_,rfl⟩;rw[<-d4]at K7⊢;have c4:Cells x5 yb (yo+k*19+14) [T,q,o,Z,p]:=cb.E B O;have f5:=f3.ext B;have a7:=c5.ext n5.E;refine go ?_;refine Ab (rd 0 9 (.alt 9 (rd 10 7 (.alt 17 (rd 18 5 (rd 24 8 (.alt 23 (.alt 32 (rd 33 3 .done) .stop) .stop))) .stop)) .stop)) AX rD (fun f a ed=>⟨Ext f,?_,?_⟩)
   ·exact sY
   have pd:=p5.Q a;have L3:=j.E a O;have L5:=g.E a O;have L7:=K7.E a O;have b4:∀V,Ext f V->Cells V yb (yo+k*19+14) [T,q,o,Z,p]:=fun V hV=>(c4.E a O).E hV O;refine go ?_;refine D_R (v:=.agg [T,q,o,Z,p].toArray) rfl rfl (fun V hV=>by refine AE rfl (Al rfl rfl (b4 V hV) ?_);exact AB ⟨rfl,rfl,rfl⟩) ?_;refine D_E rfl ?_;refine gC (O6 f _ _ y.now y.now (a7.ext a) (f5.ext a)) ?_;rintro _ u1⟨b,rfl,d2,s1⟩;obtain rfl:=d2.2 rfl;have p6:=pd.Q s1;refine wNl s1 ?_;refine gE ?_;refine gC (jv u1 H G s.sigs _ y.now _ M I (i.ext p6) hval ((a7.ext a).ext s1) (hl0.ext p6)) ?_;rintro _ u2⟨b,rfl,s2⟩;have F:=p6.Q s2;have s12:=s1.Q s2;refine wNl s12 ?_;cases b with
   |false=>
    refine gE ?_;refine AP rfl ?_;refine wNl s12 ?_;refine gE ?_;refine AP rfl ?_;refine wNl s12 ?_;refine go ?_;exact⟨k+1,⟨rfl,ag,⟨by omega,((e.Q B).Q a).Q s12⟩⟩,by omega⟩
   |true=>
   refine go ?_;refine D_R (v:=.agg [T,q,o,Z,p].toArray) rfl rfl (fun V hV=>by refine AE rfl (Al rfl rfl (b4 V hV) ?_);exact AB ⟨rfl,rfl,rfl⟩) ?_;refine gE ?_;refine gC (Ul u2 H G s.sigs _ y.now _ M I (i.ext F) hval ((a7.ext a).ext s12) a5 (hl0.ext F) g1 g2 g3 g4 g5 (D.ext F) (N.E F O) (Az P F.size)) ?_;rintro _ u3⟨rfl,s3⟩;have p8:=F.Q s3;have a6:=s12.Q s3;refine wNl a6 ?_;refine D_E rfl ?_;refine gC (Ul u3 H G s.sigs _ y.now _ M I (i.ext p8) hval ((f5.ext a).ext a6) a5 (hl0.ext p8) g1 g2 g3 g4 g5 (D.ext p8) (N.E p8 O) (Az P p8.size)) ?_;rintro _ u4⟨rfl,s4⟩;refine wNl (a6.Q s4) ?_;generalize tv (sem (wdG s.sigs (M++I) M.length I.length) y.now 0)=bw;cases bw
   all_goals
    refine go ?_;exact⟨k+1,⟨rfl,ag,⟨by omega,((e.Q B).Q a).Q (a6.Q s4)⟩⟩,by omega⟩
  ·obtain rfl:k=Q.length:=by omega
   obtain⟨hn1,g6⟩:=MM hval;refine gC (lL X _ M I (hl0.ext pX) g1 g2 g3 (fun x h=>by have:=g4 x h;omega) (fun x h=>by have:=g5 x h;omega)) ?_;rintro _ x2⟨rfl,m2⟩;refine gR ?_;exact⟨rfl,pX.Q m2⟩
end Go.Proofs.YtjbocjodncbogaaGreatDoor
