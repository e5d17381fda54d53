/- TopTextDuties, part 9 of 15: lemmas. Conditions: none. -/
import Derived.Test.YtjbocjodncbogaaGreatDoorDX8
import Derived.Test.YtjbocjodncbogaaGreatDoorShl
namespace Go.Proofs.YtjbocjodncbogaaGreatDoor
open Go.RowKit Go.Proofs.Tryz
set_option linter.unusedVariables false
set_option linter.defProp false
def UQ:=@List.map_congr_left
def UP:=@List.getD_cons_zero
def Kp:=@List.map_nil
section
variable {mk:Prop}[MK mk]
def Ep(s:Wd)(op:Int)(l:LF)(t:Nat):Prop:=if op=5 then∀a∈l,sem s a t else∃a∈l,sem s a t
def Si{op:Int}(h:op=5\/op=6)(s:Wd)(c:LU)(v b:Int)(l:LF)(t:Nat):sem s (.mk op c v b l) t↔Ep s op l t:=by
 rw[Ye];simp only[Fml.op,Fml.name,Fml.val,Fml.bound,Fml.args];rcases h with rfl|rfl
 ·simp[opS,opP,Ep]
 ·have e:Ep s 6 l t↔∃a∈l,sem s a t:=by unfold Ep;rw[AG rI]
  rw[e];simp only[opS,opP];simp;exact⟨fun⟨_,⟨a,ha,e⟩,h⟩=>⟨a,ha,by rw[e];exact h⟩,fun⟨a,ha,h⟩=>⟨_,⟨a,ha,rfl⟩,h⟩⟩
def WZ{op:Int}(h:op=5\/op=6)(s:Wd)(t:Nat):sem s (En (Dk op)) t↔op=5:=by
 rcases h with rfl|rfl<;>simp[En,Dk,sem,opS,opP]
def Rd{op:Int}(h:op=5\/op=6)(s:Wd)(t:Nat):sem s (En (DA op)) t↔op=6:=by
 rcases h with rfl|rfl<;>simp[En,DA,sem,opS,opP]
def WW{op:Int}(h:op=5\/op=6)(s:Wd)(t:Nat):Ep s op [] t↔op=5:=by
 rcases h with rfl|rfl<;>simp[Ep]
def WX{op:Int}(s:Wd)(a:Fml)(t:Nat):Ep s op [a] t↔sem s a t:=by
 unfold Ep;split<;>simp
def km{op:Int}(s:Wd){l m:LF}(t:Nat)(h:∀x,x∈l↔x∈m):Ep s op l t↔Ep s op m t:=by
 unfold Ep
 split
 ·exact⟨fun k a G=>k a ((h a).2 G),fun k a G=>k a ((h a).1 G)⟩
 ·exact⟨fun⟨a,G,k⟩=>⟨a,(h a).1 G,k⟩,fun⟨a,G,k⟩=>⟨a,(h a).2 G,k⟩⟩
def gY{op:Int}(s:Wd){l:LF}(g:Fml->LF)(t:Nat)(h:∀c∈l,(Ep s op (g c) t↔sem s c t)):Ep s op (l.flatMap g) t↔Ep s op l t:=by
 unfold Ep at*
 split
 ·rename_i h5;simp only[AJ h5]at h
  exact⟨fun k c T=>(h c T).1 fun a G=>k a (Ib.2 ⟨c,T,G⟩),fun k a G=>by
   obtain⟨c,T,G⟩:=Ib.1 G;exact(h c T).2 (k c T) a G⟩
 ·rename_i h5;simp only[AG h5]at h
  exact⟨fun⟨a,G,k⟩=>by
   obtain⟨c,T,G⟩:=Ib.1 G;exact⟨c,T,(h c T).1 ⟨a,G,k⟩⟩,fun⟨c,T,k⟩=>by
   obtain⟨a,G,k⟩:=(h c T).2 k;exact⟨a,Ib.2 ⟨c,T,G⟩,k⟩⟩
def pP{op:Int}(h:op=5\/op=6)(s:Wd)(t:Nat){c:Fml}(T:Sh c):Ep s op (Fl op c) t↔sem s c t:=by
 unfold Fl;by_cases Z:c.op=op
 ·rw[AJ Z];obtain⟨o,d,v,b,l⟩:=c;have Z:o=op:=Z;subst Z;exact(Si h s d v b l t).symm
 rw[AG Z];by_cases W:c.op=Dk op
 ·rw[AJ W,WW h];have a:c.op=1\/c.op=2:=by rw[W];exact(Ja h).2.2.2.2
  rw[My T a,W];exact(WZ h s t).symm
 rw[AG W];exact WX s c t
def qf{op:Int}{c:Fml}(T:Sh c):∀a∈Fl op c,Sh a:=by
 intro a G;unfold Fl at G
 split at G
 ·exact(Sx T).2.2 a G
 ·split at G
  ·cases G
  ·simp at G;rw[G];exact T
def nq{f:Fml}(K:Sh f)(A:f.op=4)(s:Wd)(t:Nat):sem s f t↔¬sem s (f.args.getD 0 Ad) t:=by
 obtain⟨op,c,v,b,l⟩:=f;have A:op=4:=A;subst A;obtain⟨_,⟨_,G,_⟩,_⟩:=sh_iff.1 K;have N:l.length=1:=by simpa[Am]using G
 obtain⟨a,rfl⟩:=FU N;simp[sem,Hy,opS,opP,Fml.args]
def jS{op:Int}(h:op=5\/op=6)(s:Wd){A:LF}(C:∀c∈A,Sh c)(t:Nat):sem s (GT op A) t↔Ep s op A t:=by
 rw[In h];cases hz:DL op A with
 |true=>
  rw[AJ rfl,Rd h];obtain⟨c,T,b⟩:=zAny_true.1 hz;have o:c.op=1\/c.op=2:=by rw[b];exact(Ja h).2.2.2.1
  have E:sem s c t↔op=6:=by rw[My (C c T) o,b];exact Rd h s t
  unfold Ep;rcases h with rfl|rfl
  ·rw[AJ rfl];exact⟨fun e=>absurd e rI,fun k=>E.1 (k c T)⟩
  ·rw[AG rI];exact⟨fun e=>⟨c,T,E.2 e⟩,fun _=>rfl⟩
 |false=>
  rw[AG CX,<-gY s (Fl op) t fun c T=>pP h s t (C c T),<-km s t fun x=>(mem_dist (l:=A.flatMap (Fl op)) (x:=x))]
  have f:∀a∈Dl (A.flatMap (Fl op)),Sh a:=fun a G=>by
   obtain⟨c,T,G⟩:=Ib.1 (mem_dist.1 G);exact qf (C c T) a G
  generalize Dl (A.flatMap (Fl op))=d at f;rw[J1];by_cases b:Fg d=true
  ·rw[AJ b,Rd h];obtain⟨x,V,i,I⟩:=opp_iff.1 b;have H:=nq (f x V) i s t;unfold Ep;rcases h with rfl|rfl
   ·rw[AJ rfl];exact⟨fun e=>absurd e rI,fun k=>absurd (k _ I) (H.1 (k x V))⟩
   ·rw[AG rI];refine⟨fun _=>?_,fun _=>rfl⟩;by_cases g:sem s (x.args.getD 0 Ad) t
    ·exact⟨_,I,g⟩
    ·exact⟨x,V,H.2 g⟩
  ·rw[AG b]
   match d with
   | []=>rw[WW h];exact WZ h s t
   | [a]=>exact(WX s a t).symm
   |a::c::d=>exact Si h s [] 0 0 _ t
def Ry{f:Fml}(K:Sh f)(T:Cz f=true)(s:Wd):(∀t,sem s f t)\/∀t,¬sem s f t:=by
 have a:=isCon_iff.1 T;rw[My K a];rcases a with h|h<;>rw[h]
 ·exact .inl fun t=>by simp[En,sem,opS,opP]
 ·exact .inr fun t=>by simp[En,sem,opS,opP]
def Mx(s:Wd)(op v b:Int)(a:LU)(l:LF):sem s (.mk op a v b l)=opS s op a v b (l.map (sem s)):=Ye s _
def UZ(s:Wd):∀{f:Fml},Sh f->∀t,sem s (Ba f) t↔sem s f t
 | .mk op nm v b args,hf,t=>by
  obtain⟨S,j,h⟩:=sh_iff.1 hf
  have r:(args.map Ba).map (sem s)=args.map (sem s):=by
   rw[HF];refine UQ fun a G=>?_
   funext t
   exact propext (UZ s (h a G) t)
  have T:∀a∈args.map Ba,Sh a:=fun a G=>by
   obtain⟨c,T,rfl⟩:=By.1 G;exact Sr (RO (h c T))
  have E:sem s (.mk op nm v b args)=sem s (.mk op nm v 0 (args.map Ba)):=by rw[Mx,Mx,r,S]
  rw[E,Im];have d:(args.map Ba).length=args.length:=by simp
  obtain⟨m,G,_⟩:=j;rw[<-d]at G;generalize args.map Ba=l at T G;by_cases Z:op=5\/op=6
  ·rw[Si Z];unfold Dr;rw[AJ Z];exact jS Z s T t
  by_cases M:op=8
  ·subst M;obtain⟨c,rfl⟩:=FU (l:=l) rO;rw[Kk];by_cases P:Cz c=true
   ·rw[AJ (by simpa using P)];rw[Mx];simp only[UP,EG,Kp];simp only[opS,opP];rcases Ry (T c O) P s with k|k<;>simp[k]
   ·rw[AG (by simpa using P)]
  by_cases g:op=9
  ·subst g;obtain⟨p,q,rfl⟩:=GM (l:=l) rO;rw[Kl];simp only[UP,List.getD_cons_succ];by_cases P:Cz q=true\/p.op=2
   ·rw[AJ P,Mx];have e:opS s 9 nm v 0 ([p,q].map (sem s))=EN (sem s p) (sem s q):=by simp[opS,opP]
    rw[e,MC];rcases P with P|P
    ·rcases Ry (T q O) P s with k|k
     ·simp[k]
     ·simp only[k,false_or,false_iff];rintro⟨_,x,_,V,_⟩;exact k x V
    ·have i:¬sem s p t:=by
      rw[My (T p O) (.inr P),P];simp[En,sem,opS,opP]
     simp[i]
   ·rw[AG P]
  by_cases I:op=10
  ·subst I;obtain⟨p,q,rfl⟩:=GM (l:=l) rO;rw[Kf];simp only[UP,List.getD_cons_succ];by_cases P:Cz q=true\/p.op=1
   ·rw[AJ P,Mx];have e:opS s 10 nm v 0 ([p,q].map (sem s))=FK (sem s p) (sem s q):=by simp[opS,opP]
    rw[e,WM];rcases P with P|P
    ·rcases Ry (T q O) P s with k|k
     ·simp only[k,true_and,true_iff];exact .inr fun x _=>.inl (k x)
     ·simp[k]
    ·have R:sem s p t:=by
      rw[My (T p O) (.inl P),P];simp[En,sem,opS,opP]
     simp[R]
   ·rw[AG P]
  rw[Km Z M g I]
end


section
variable {mk:Prop}[MK mk]
end
section
variable {mk:Prop}[MK mk]
def pR{f g:Fml}:f=g↔f.op=g.op/\f.name=g.name/\f.val=g.val/\f.bound=g.bound/\f.args=g.args:=by
 obtain⟨a,b,c,d,e⟩:=f;obtain⟨Z,q,j,h,i⟩:=g;simp[Fml.op,Fml.name,Fml.val,Fml.bound,Fml.args]
def O2(a b:Int)(w:World):Fn Zp 101 [iV a,iV b] w fun v w'=>∃c:Int,v=iV c/\(c=0↔a=b)/\w'=w:=by
 refine AM func101 rfl ntmps101 (go ?_);by_cases Z:a<b
 ·refine gR ?_;exact⟨-1,rfl,by omega,rfl⟩
 ·refine go ?_;by_cases W:b<a
  ·refine gR ?_;exact⟨1,rfl,by omega,rfl⟩
  ·refine gR ?_;exact⟨0,rfl,by omega,rfl⟩
def oq{P:Program}{a:Array Oper}{Z:Fr->DS->List PanicEntry->World->Prop}{K:Fr->DS->World->Prop}{rest:List Oper}{f:Fr}{ds:DS}{w:World}{d:Nat}{j:TypeId}{p:String}{o:Array Edge}{i c:TypeId}{x y:Operand}{s t:LU}
  (V:ev f x=AA s)(I:ev f y=AA t)(h:∀b:Bool,AF P a Z K rest (upd f d (.bool b)) ds w):AF P a Z K (⟨some d,.binOp .lss i x y c,j,p,o,none⟩::rest) f ds w:=
 At (v:=.bool (Op.bytesLess s t)) rfl (by simp[execOp,V,I,eqGuard,binOp,Op.stringOp]) (h _)
def cX:∀(n:Nat)(f g:Fml),SizeOf.sizeOf f<=n->∀(w:World)(v v':Value),FAt AL w v f->FAt AL w v' g->Fn Zp 41 [v,v'] w fun r w'=>∃c:Int,r=iV c/\(c=0↔f=g)/\Ext w w':=by
 intro n
 induction n with
 |zero=>intro f g hn;cases f;simp at hn
 |succ n ih=>
 intro f g hn w v v' hf hg;obtain⟨av,rfl,L,hS,hL,Z,hA⟩:=hf.form;obtain⟨bv,rfl,M,a5,c0,a3,a9⟩:=hg.form;obtain⟨N,s,rfl,_⟩:=id hS;obtain⟨D,u,rfl,_⟩:=id a5;have c1:f.args.length<=9223372036854775807:=by obtain⟨_,_,hv,g1,g2,_⟩:=id hS;cases hv;omega
 have b7:∀x∈f.args,SizeOf.sizeOf x<=n:=by
  intro x V;cases f with
  |mk o nm vl bd args=>
   have:=P8 V;simp[Fml.args]at this hn;omega
 refine AM func41 rfl ntmps41 (go ?_);refine Ac (L:=[iV f.op,AA f.name,iV f.val,iV f.bound,.slice N f.args.length s]) rfl (fun Q n1=>?_);refine Ac (L:=[iV g.op,AA g.name,iV g.val,iV g.bound,.slice D g.args.length u]) rfl (fun w2 n2=>?_);have d:Blk w2 w.heap.size 37 [iV f.op,AA f.name,iV f.val,iV f.bound,.slice N f.args.length s]:=n1.D.E n2.E O;have k:=n2.D;have m:Ext w w2:=n1.E.Q n2.E;refine gC (O2 _ _ _) ?_;rintro _ B⟨t,rfl,h0,rfl⟩;refine AT (AS rfl (AB ?_));refine Fx ?_;refine Gn ?_;refine CE (α:=Int) (fun c=>[(2,pt w.heap.size),(3,pt Q.heap.size),(4,iV 0),(5,iV c)]) (fun c W=>Blk W w.heap.size 37 [iV f.op,AA f.name,iV f.val,iV f.bound,.slice N f.args.length s]/\Blk W Q.heap.size 37 [iV g.op,AA g.name,iV g.val,iV g.bound,.slice D g.args.length u]/\Ext w W/\(c=0↔f.op=g.op/\f.name=g.name)) ?_ ?_
 ·refine nX ?_;by_cases l:t=0
  ·by_cases a8:f.name=g.name
   ·(refine AN (AS rfl (IH rfl rfl U (AH rfl (AE rfl (AV rfl (AE rfl (AQ rfl (Blk.cell rG rF) ?_)))))))<;>refine AE rfl (AV rfl (AE rfl (AQ rfl (Blk.cell rG rF) ?_)))<;>(refine AE rfl ?_;refine Mt rfl rfl (fun hc=>?_) (fun hc=>?_))<;>refine BF rfl (AH rfl (AB ?_)))
    ·exact absurd a8 rG
    refine nY ?_;exact Af t ag ⟨d,k,m,by simp_all⟩
   ·(refine AN (AS rfl (IH rfl rfl U (AH rfl (AE rfl (AV rfl (AE rfl (AQ rfl (Blk.cell rG rF) ?_)))))))<;>refine AE rfl (AV rfl (AE rfl (AQ rfl (Blk.cell rG rF) ?_)))<;>(refine AE rfl ?_;refine Mt rfl rfl (fun hc=>?_) (fun hc=>?_))<;>refine BF rfl (AH rfl (AB ?_)))
    rotate_left
    ·exact absurd rG a8
    refine go ?_;refine oq rfl rfl (fun b=>go ?_);cases b with
    |true=>
     refine go ?_;exact Af (-1) ag ⟨d,k,m,by simp_all⟩
    |false=>
     refine go ?_;exact Af 1 ag ⟨d,k,m,by simp_all⟩
  ·refine go ?_;exact Af t ag ⟨d,k,m,by simp_all⟩
 clear d k m;rintro c B a⟨d,k,m,C⟩;refine Gn ?_;refine CE (α:=Int) (fun c=>[(2,pt w.heap.size),(3,pt Q.heap.size),(4,iV 0),(5,iV c)]) (fun c W=>Blk W w.heap.size 37 [iV f.op,AA f.name,iV f.val,iV f.bound,.slice N f.args.length s]/\Blk W Q.heap.size 37 [iV g.op,AA g.name,iV g.val,iV g.bound,.slice D g.args.length u]/\Ext w W/\(c=0↔f.op=g.op/\f.name=g.name/\f.val=g.val)) ?_ ?_
 ·refine go ?_;by_cases l:c=0
  ·exact tH
  ·exact uB
 clear d k m C;rintro c B a⟨d,k,m,C⟩;refine Gn ?_;refine CE (α:=Int) (fun c=>[(2,pt w.heap.size),(3,pt Q.heap.size),(4,iV 0),(5,iV c)]) (fun c W=>Blk W w.heap.size 37 [iV f.op,AA f.name,iV f.val,iV f.bound,.slice N f.args.length s]/\Blk W Q.heap.size 37 [iV g.op,AA g.name,iV g.val,iV g.bound,.slice D g.args.length u]/\Ext w W/\(c=0↔f.op=g.op/\f.name=g.name/\f.val=g.val/\f.bound=g.bound)) ?_ ?_
 ·refine go ?_;by_cases l:c=0
  ·exact tH
  ·exact uB
 clear d k m C;rintro c B a⟨d,k,m,C⟩;refine Gn ?_;refine CE (α:=Int) (fun c=>[(2,pt w.heap.size),(3,pt Q.heap.size),(4,iV 0),(5,iV c)]) (fun c W=>Blk W w.heap.size 37 [iV f.op,AA f.name,iV f.val,iV f.bound,.slice N f.args.length s]/\Blk W Q.heap.size 37 [iV g.op,AA g.name,iV g.val,iV g.bound,.slice D g.args.length u]/\Ext w W/\(c=0↔f.op=g.op/\f.name=g.name/\f.val=g.val/\f.bound=g.bound/\f.args.length=g.args.length)) ?_ ?_
 ·refine go ?_;by_cases l:c=0
  ·exact tH
  ·exact uB
 clear d k m C;rintro c B a⟨d,k,m,C⟩;refine Gn ?_;refine Gn (go ?_)
 refine Aj (α:=Nat×Int) (fun x=>[(2,pt w.heap.size),(3,pt Q.heap.size),(4,iV 0),(5,iV x.2),(6,iV (x.1:Int))])
  (fun x W=>x.1<=f.args.length/\Ext B W/\(x.2=0↔(f.op=g.op/\f.name=g.name/\f.val=g.val/\f.bound=g.bound/\f.args.length=g.args.length)/\∀j,j<x.1->f.args[j]?=g.args[j]?)) (fun x=>f.args.length-x.1) (0,c) ag
  ⟨by simp,Ext.refl _,by simp only;rw[C];exact⟨fun h=>⟨h,fun j F=>by omega⟩,fun h=>h.1⟩⟩ ?_
 rintro⟨i,G⟩w4 f4⟨hi,z,P⟩;simp only at hi P⊢;refine go ?_
 have a6:∀(W:World),Ext B W->(G=0->i=f.args.length)->∃t:Int,iV G=iV t/\(t=0↔f=g)/\Ext w W:=by
  intro W kW hii;refine⟨G,rfl,?_,m.Q kW⟩;rw[pR];constructor
  ·intro h;obtain⟨⟨T,h2,R,A,Z⟩,p⟩:=P.1 h;refine⟨T,h2,R,A,H1 fun j=>?_⟩;by_cases F:j<i
   ·exact p j F
   ·have:=hii h;rw[EF U,EF U]
  ·rintro⟨T,h2,R,A,Z⟩;exact P.2 ⟨⟨T,h2,R,A,by rw[Z]⟩,fun j _=>by rw[Z]⟩
 have a4:=d.E z O;have b4:=k.E z O;by_cases a7:i<f.args.length
 ·by_cases l:G=0
  ·have c2:f.args.length=g.args.length:=(P.1 l).1.2.2.2.2;have S:=m.Q z;obtain⟨x,V⟩:∃x,f.args[i]?=some x:=⟨_,AU a7⟩;obtain⟨y,hy⟩:∃y,g.args[i]?=some y:=⟨_,AU U⟩;obtain⟨H,a0⟩:∃H,L[i]?=some H:=⟨_,AU U⟩;obtain⟨K,a1⟩:∃K,M[i]?=some K:=⟨_,AU U⟩;have b2:=(hA i H x a0 V).ext S;have b3:=(a9 i K y a1 hy).ext S;have b8:=Z H (BA a0);have b9:=a3 K (BA a1);obtain⟨bx,ox,rfl,_,b0⟩:=(hS.ext S).fml Z a0 a7;obtain⟨a2,oy,rfl,_,b1⟩:=(a5.ext S).fml a3 a1 U;obtain⟨x0,x1,x2,x3,x4,rfl⟩:=An b8;obtain⟨y0,y1,y2,y3,y4,rfl⟩:=An b9;refine go ?_;refine Ab (rd 0 10 (.alt 10 (.read 11 .done) .stop)) AX rD (fun X q ed=>⟨Ext X,?_,?_⟩)
   ·exact sY
   have fa:∀W:World,Ext X W->CC W w.heap.size (0+4) (.slice (sn bx ox) f.args.length s):=fun W e=>((a4.E q O).E e O).cell rfl;have fb:∀W:World,Ext X W->CC W Q.heap.size (0+4) (.slice (sn a2 oy) g.args.length u):=fun W e=>((b4.E q O).E e O).cell rfl;have fc:∀W:World,Ext X W->Cells W bx (ox+i*5) [x0,x1,x2,x3,x4]:=fun W e=>(b0.E q O).E e O;have fd:∀W:World,Ext X W->Cells W a2 (oy+i*5) [y0,y1,y2,y3,y4]:=fun W e=>(b1.E q O).E e O;(refine D_R rfl rfl (fun W I=>AV rfl Z3) (D_R rfl rfl (fun W I=>AQ rfl (fa W I) Z3) (D_R rfl rfl (fun W I=>AS rfl Z3) (D_R rfl rfl (fun W I=>DZ rfl rfl rfl U Z3) ?_)))<;>(apply D_R rfl rfl;(intro W I;refine Al rfl rF (fc W I) ?_;exact Z3))<;>refine D_R rfl rfl (fun W I=>AV rfl Z3) (D_R rfl rfl (fun W I=>AQ rfl (fb W I) Z3) (D_R rfl rfl (fun W I=>AS rfl Z3) (D_R rfl rfl (fun W I=>DZ rfl rfl rfl U Z3) ?_)))<;>(apply D_R rfl rfl;(intro W I;refine Al rfl rF (fd W I) ?_;exact Z3)))
   refine D_E rfl ?_;refine AD (ih x y (b7 x (BA V)) X _ _ (b2.ext q) (b3.ext q)) rfl ?_;rintro _ w6⟨c6,rfl,p,k6⟩;refine AB ⟨Ext w6,fun W e=>k6.Q e,Ext.refl _,?_⟩;refine go ?_;refine⟨(i+1,c6),⟨rfl,⟨rfl,rfl,rfl,rfl,?_,trivial⟩,⟨by simp only;omega,(z.Q q).Q k6,?_⟩⟩,by simp only;omega⟩
   ·show iV ((i:Int)+1)=_;rw[BB];rfl
   ·simp only;rw[p];obtain⟨hh,b6⟩:=P.1 l;constructor
    ·rintro rfl;refine⟨hh,fun j F=>?_⟩;by_cases b5:j=i
     ·subst b5;rw[V,hy]
     ·exact b6 j U
    ·rintro⟨_,F⟩;have:=F i U;rw[V,hy]at this;exact Ae this
  ·refine go ?_;exact AC rfl (a6 w4 z (fun h=>absurd h l))
 ·refine go ?_;exact AC rfl (a6 w4 z (fun h=>by omega))
def O6(w:World)(v B:Value)(f g:Fml)(K:FAt AL w v f)(y:FAt AL w B g):Fn Zp 12 [v,B] w fun r w'=>∃b:Bool,r=.bool b/\(b=true↔f=g)/\Ext w w':=by
 obtain⟨k,rfl,o,A⟩:=K.cells;obtain⟨z,rfl,u,C⟩:=y.cells;obtain⟨l,n,p,i,s,rfl⟩:=An o;obtain⟨q,P,V,t,G,rfl⟩:=An u;refine AM func12 rfl ntmps12 (go ?_);refine Ac (L:=[l,n,p,i,s]) rfl (fun Q D=>?_);refine Ac (L:=[q,P,V,t,G]) rfl (fun j R=>?_);have x:=D.D.E R.E O;have h:=R.D;have m:Ext w j:=D.E.Q R.E;refine gC (cX _ f g (AO _) j _ _ (K.ext m) (y.ext m)) ?_;rintro _ E⟨c,rfl,I,d⟩;by_cases a:c=0
 ·refine gR ?_;exact⟨true,rfl,by simp[I.1 a],m.Q d⟩
 ·refine gR ?_;exact⟨false,rfl,by simp;exact fun e=>a (I.2 e),m.Q d⟩
def PU(w:World)(op:Int)(ok:Nat->Prop)(a:Option Addr)(c:Nat)(L:List (LV))(l:LF)(i:Sl ok w (.slice a l.length c) l.length L.flatten)(j:FsAt ok w L l):
  Fn Zp 301 [iV op,.slice a l.length c] w fun v w'=>Ext w w'/\FAt ok w' v ⟨op,[],0,0,l⟩:=by
 refine AM func301 rfl ntmps301 (go ?_);refine Ai (fun Q D=>?_);have q:Blk Q w.heap.size 37 zero5:=D.D;refine go ?_;refine Aa (cs:=[iV op,AA [],iV 0,iV 0,.slice a l.length c]) rfl rfl rfl (Ak rfl) q rK (fun b E=>?_);have h:Blk b w.heap.size 37 [iV op,AA [],iV 0,iV 0,.slice a l.length c]:=E.D;refine go ?_;have m:Ext w b:=D.E.E E.E O;exact Ar rfl rfl rfl h.cells ⟨m,FAt.node op [] 0 0 (i.ext m) (j.ext m)⟩
def Rb(w:World)(op Q:Int)(ok:Nat->Prop)(a:Option Addr)(c:Nat)(L:List (LV))(l:LF)(i:Sl ok w (.slice a l.length c) l.length L.flatten)(j:FsAt ok w L l):
  Fn Zp 306 [iV op,iV Q,.slice a l.length c] w fun v w'=>Ext w w'/\FAt ok w' v ⟨op,[],Q,0,l⟩:=by
 refine AM func306 rfl ntmps306 (go ?_);refine Ai (fun d D=>?_);have q:Blk d w.heap.size 37 zero5:=D.D;refine go ?_;refine Aa (cs:=[iV op,AA [],iV Q,iV 0,.slice a l.length c]) rfl rfl rfl (Ak rfl) q rK (fun b E=>?_);have h:Blk b w.heap.size 37 [iV op,AA [],iV Q,iV 0,.slice a l.length c]:=E.D;refine go ?_;have m:Ext w b:=D.E.E E.E O;exact Ar rfl rfl rfl h.cells ⟨m,FAt.node op [] Q 0 (i.ext m) (j.ext m)⟩
def FAt.ret{ok:Nat->Prop}{w w':World}{v:Value}{f:Fml}{b:Nat}{cs:LV}(h:FAt (fun x=>ok x/\x≠b) w v f)(e:v=.agg cs.toArray)(k:Keep [b] w w'):FAt ok w' (.agg cs.toArray) f:=by
 rw[<-e];exact(h.E k (fun x V=>by simpa using V.2)).mono fun x V=>V.1
def WO(w:World)(op:Int)(ok:Nat->Prop)(v:Value)(f:Fml)(K:FAt ok w v f)(P:ok w.heap.size)(g:∀x,w.heap.size<=x->ok x):Fn Zp 300 [iV op,v] w fun v w'=>Ext w w'/\FAt ok w' v ⟨op,[],0,0,[f]⟩:=by
 have y:=K.lt;obtain⟨k,rfl,o,E⟩:=K.cells;obtain⟨d,I,D,i,s,rfl⟩:=An o;refine AM func300 rfl ntmps300 (go ?_);refine Ac (L:=[d,I,D,i,s]) rfl (fun Q l=>?_);refine Ai (fun u R=>?_);have C:=l.D.E R.E O;have h:Blk u Q.heap.size 37 zero5:=R.D;have m:Ext w u:=l.E.Q R.E;have j:=l.size;have F:=R.size;refine go ?_;refine Ay (out:=[d,I,D,i,s]) rfl U rP (fun B a=>?_);have G:=a.size;obtain⟨A,z⟩:=FsAt.fresh (ok:=fun x=>ok x/\x≠Q.heap.size) (L:=[[d,I,D,i,s]]) a (FsAt.one ((y.ext m).mono fun x V=>⟨V.1,by omega⟩) rfl) ⟨g _ U,by omega⟩ O;refine AD (PU B op _ _ _ _ [f] A z) rfl ?_;rintro v t⟨b,n⟩;have p:=(h.E a.E O).E b O;refine Cv rfl rfl n p rfl (fun c k e o q H r=>go ?_);exact Ar rfl rfl o r.cells ⟨((m.Q a.E).Q b).E q rE,n.ret e q⟩
def WR(w:World)(op:Int)(ok:Nat->Prop)(v B:Value)(f g:Fml)(K:FAt ok w v f)(y:FAt ok w B g)(T:∀x,w.heap.size<=x->ok x):Fn Zp 302 [iV op,v,B] w fun v w'=>Ext w w'/\FAt ok w' v ⟨op,[],0,0,[f,g]⟩:=by
 have Q:=K.lt;have S:=y.lt;obtain⟨k,rfl,o,Z⟩:=K.cells;obtain⟨X,rfl,N,C⟩:=y.cells;obtain⟨d,I,D,i,s,rfl⟩:=An o;obtain⟨b,P,V,h,G,rfl⟩:=An N;refine AM func302 rfl ntmps302 (go ?_);refine Ac (L:=[d,I,D,i,s]) rfl (fun w1 n=>?_);refine Ac (L:=[b,P,V,h,G]) rfl (fun A R=>?_);refine Ai (fun E a=>?_);have W:=(n.D.E R.E O).E a.E O;have H:=R.D.E a.E O;have M:Blk E A.heap.size 37 zero5:=a.D;have l:Ext w E:=(n.E.Q R.E).Q a.E;have z1:=n.size;have z2:=R.size;have z3:=a.size;refine go ?_;refine Ay (out:=[d,I,D,i,s,b,P,V,h,G]) rfl U rZ (fun t c=>?_);have z4:=c.size;obtain⟨z,F⟩:=FsAt.fresh (ok:=fun x=>ok x/\x≠A.heap.size) (L:=[[d,I,D,i,s],[b,P,V,h,G]]) c (FsAt.two ((Q.ext l).mono fun x j=>⟨j.1,by omega⟩) rfl ((S.ext l).mono fun x j=>⟨j.1,by omega⟩) rfl) ⟨T _ U,by omega⟩ O;refine AD (PU t op _ _ _ _ [f,g] z F) rfl ?_;rintro v w5⟨u,p⟩;have r:=(M.E c.E O).E u O;refine Cv rfl rfl p r rfl (fun w6 k e o q z6 m=>go ?_);exact Ar rfl rfl o m.cells ⟨((l.Q c.E).Q u).E q rE,p.ret e q⟩
def FAt.any{ok ok':Nat->Prop}{w w':World}{v:Value}{f:Fml}(h:FAt ok w v f)(b:f.args=[]):FAt ok' w' v f:=by
 cases h with
 |mk op nm vl bd args av L hS hL h5 hA=>
  have G:args=[]:=b;subst G;obtain⟨a,c,rfl,Z,W,R,_⟩:=hS;exact .mk op nm vl bd [] _ [] ⟨a,c,rfl,Z,W,R,.inl rfl⟩ rfl (fun c T=>by cases T) (fun i c g h=>by simp at h)
end
section
variable {mk:Prop}[MK mk]
end
section
variable {mk:Prop}[MK mk]
def ql(w:World)(v:Value)(l:List (LU))(s:LU)(f:Sl AL w v l.length (l.map AA)):Fn Zp 189 [v,AA s] w fun v w'=>v=.bool (decide (s∈l))/\w'=w:=by
 obtain⟨a,c,rfl,d,j,_,g⟩:=f;refine AM func189 rfl ntmps189 (go ?_);refine Aj (α:=Nat) (fun k=>[(0,.slice a l.length c),(1,AA s),(5,iV (k:Int))]) (fun k W=>k<=l.length/\s∉l.take k/\W=w) (fun k=>l.length-k) 0 ag ⟨by omega,by simp,rfl⟩ ?_;rintro k L D⟨P,H,rfl⟩;refine nX ?_;by_cases i:k<l.length
 ·obtain⟨b,o,rfl,_,z⟩:=g.resolve_left U;obtain⟨y,I⟩:∃y,l[k]?=some y:=⟨_,AU i⟩;have x:L.cell? ⟨b,o+k,none⟩=some (AA y):=z k _ (by simp[I]);have M:l.take (k+1)=l.take k++[y]:=by rw[CT,I];rfl
  refine AN (AS rfl (BY rfl (Cj rfl (FX rfl rfl U ?_))));refine nX ?_;by_cases h:y=s
  ·(refine AN (BY rfl (AS rfl (HS rfl rfl rfl U (AQ rfl rG ?_))))<;>refine BL rfl ?_<;>refine CZ rfl rfl (fun T=>?_) (fun T=>?_)<;>refine AB ?_)
   case refine_2=>exact absurd h rG
   refine nX ?_;refine AN (AT (AH rfl ?_));refine nX ?_;exact AC rfl ⟨by rw[BE (BA (h▸I):s∈l)];rfl,rfl⟩
  ·(refine AN (BY rfl (AS rfl (HS rfl rfl rfl U (AQ rfl rG ?_))))<;>refine BL rfl ?_<;>refine CZ rfl rfl (fun T=>?_) (fun T=>?_)<;>refine AB ?_)
   case refine_1=>exact absurd rG h
   refine go ?_;refine⟨k+1,⟨rfl,⟨rfl,rfl,?_,trivial⟩,⟨by omega,by rw[M];simp[H];exact fun e=>h e.symm,rfl⟩⟩,by omega⟩;show iV ((k:Int)+1)=_;rw[BB];rfl
 ·obtain rfl:k=l.length:=by omega
  refine go ?_;rw[Co]at H;exact AC rfl ⟨by rw[BC H];rfl,rfl⟩
def au(w:World):Fn Zp 190 [] w fun v w'=>Sl AL w' v keysL.length (keysL.map AA)/\Ext w w':=by
 refine AM func190 rfl ntmps190 (go ?_);exact tY
def Qe(s:LU)(w:World):Fn Zp 130 [AA s] w fun v w'=>v=.bool (BP s)/\Ext w w':=by
 refine AM func130 rfl ntmps130 (go ?_);by_cases Z:s.length<1
 ·refine gR ?_;exact⟨by rw[HO,BC (show¬1<=s.length by omega)];rfl,Ext.refl _⟩
 by_cases B:12<s.length
 ·refine gR ?_;exact⟨by rw[HO,BC (show¬s.length<=12 by omega)];simp[upd,Nat.beq],Ext.refl _⟩
 refine gC (au w) ?_;rintro v Q⟨f,b⟩;obtain⟨A,M,rfl,_⟩:=id f;refine gC (ql Q _ keysL s f) ?_;rintro _ C⟨rfl,n⟩;obtain rfl:=n.symm;refine go ?_;by_cases E:s∈keysL
 ·rw[BE E];refine gR ?_;exact⟨by rw[HO,BE E];simp[upd,Nat.beq],b⟩
 rw[BC E];refine go ?_;refine Aj (α:=Nat) (fun k=>[(0,AA s),(3,iV (k:Int))]) (fun k W=>k<=s.length/\(∀(i:Nat)(c:UInt8),i<k->s[i]?=some c->EZ i c=true)/\W=Q) (fun k=>s.length-k) 0 ag ⟨by omega,fun i c F=>by omega,rfl⟩ ?_;rintro k L q⟨P,j,rfl⟩;refine nX ?_;by_cases z:k<s.length
 ·have y:s[k]?=some s[k]:=AU z;generalize s[k]=c at y;have p:=c.toNat_lt
  have t:EZ k c=true->∀(i:Nat)(d:UInt8),i<k+1->s[i]?=some d->EZ i d=true:=fun m i d F x=>by
   by_cases l:i=k
   ·subst l;rw[y]at x;cases x;exact m
   ·exact j i d U x
  refine AN (AS rfl (BL rfl (EM rfl (FX rfl rfl U ?_))));refine nX ?_;refine CE (α:=Unit) (fun _=>[(0,AA s),(3,iV (k:Int)),(4,.bool (Bp c))]) (fun _ W=>L=W) ?_ ?_
  ·by_cases G:97<=c.toNat
   ·by_cases S:c.toNat<=122
    ·rw[show Bp c=true by simp[Bp,G,S]];exact sh
    ·rw[show Bp c=false by simp[Bp,G,S]];exact sh
   ·rw[show Bp c=false by simp[Bp,G]];exact sh
  rintro _ _ a rfl;refine nX ?_;refine CE (α:=Unit) (fun _=>[(0,AA s),(3,iV (k:Int)),(4,.bool (Bp c)),(5,.bool (Ag c||decide (c.toNat=95)))]) (fun _ W=>L=W) ?_ ?_
  ·by_cases G:48<=c.toNat
   ·by_cases S:c.toNat<=57
    ·rw[show(Ag c||decide (c.toNat=95))=true by simp[Ag,G,S]];exact sh
    ·by_cases o:c.toNat=95
     ·rw[show(Ag c||decide (c.toNat=95))=true by simp[o]];exact sh
     ·rw[show(Ag c||decide (c.toNat=95))=false by simp[Ag,o,G,S]];exact sh
   ·rw[show(Ag c||decide (c.toNat=95))=false by simp[Ag,G];omega];exact sh
  rintro _ _ r rfl;refine go ?_
  have g:EZ k c=false->BP s=false:=fun h=>by
   have e:Hl s=false:=by
    cases hsb:Hl s with
    |false=>rfl
    |true=>rw[(L6 s U).1 hsb k c y]at h;cases h
   rw[HO,e];simp
  have D:EZ k c=(Bp c||(decide (0<k)&&(Ag c||decide (c.toNat=95)))):=rfl;cases hsm:Bp c with
  |true=>
   refine go ?_;refine⟨k+1,⟨rfl,⟨rfl,?_,trivial⟩,⟨by omega,t (by rw[D,hsm];rfl),rfl⟩⟩,by omega⟩;show iV ((k:Int)+1)=_;rw[BB];rfl
  |false=>
   by_cases u:k=0
   ·have S:=g (by rw[D,hsm,BC (show¬0<k by omega)];rfl);refine gR ?_;exact⟨by rw[S];rfl,b⟩
   ·cases hrs:(Ag c||decide (c.toNat=95))with
    |true=>
     refine go ?_;refine⟨k+1,⟨rfl,⟨rfl,?_,trivial⟩,⟨by omega,t (by rw[D,hsm,hrs,BE (show 0<k by omega)];rfl),rfl⟩⟩,by omega⟩;show iV ((k:Int)+1)=_;rw[BB];rfl
    |false=>
     have S:=g (by rw[D,hsm,hrs];simp);refine gR ?_;exact⟨by rw[S];rfl,b⟩
 ·obtain rfl:k=s.length:=by omega
  have e:Hl s=true:=(L6 s U).2 fun i c T=>j i c (Ah.1 T).1 T;refine gR ?_;exact⟨by rw[HO,e,BC E,BE (show 1<=s.length by omega),BE (show s.length<=12 by omega)];rfl,b⟩
def G.bind_assoc{α β γ:Type}(p:G α)(u:α->G β)(q:β->G γ):(p.bind u).bind q=p.bind fun a=>(u a).bind q:=by
 induction p with
 |ret a=>rfl
 |fail=>rfl
 |look k ih=>simp only[G.bind];congr 1;funext o;exact ih o
 |next g ih=>simp only[G.bind];rw[ih]
 |call nt k ih=>simp only[G.bind];congr 1;funext v;exact ih v
def Id{S:NT->Prop}{x:BT}{α:Type}{s:LU}{q:Bool->G α}(V:Ax s (some x)=false)(P:C0 S x false (q true))(K:∀b,C0 S x b (q false))(b:Bool):C0 S x b ((Cw s).bind q):=by
 refine⟨fun y=>?_,.inr (.inr ⟨?_,?_⟩)⟩
 ·show C0 S x true (G.bind (if Ax s (some y)=true then .next (.ret true)else .ret false) q)
  split
  ·exact⟨rfl,P⟩
  ·exact K true
 ·show G.bind (if Ax s none=true then .next (.ret true)else .ret false) q=G.bind (if Ax s (some x)=true then .next (.ret true)else .ret false) q;rw[V];rfl
 ·exact K false
def TY{S:NT->Prop}{x:BT}{α:Type}{s:LU}{q:Unit->G α}(h:C0 S x false (q ()))(b:Bool):C0 S x b ((Di s).bind q):=by
 refine⟨fun y=>?_,.inr (.inl rfl)⟩;show C0 S x true (G.bind (if Ax s (some y)=true then .next (.ret ())else .fail) q)
 split
 ·exact⟨rfl,h⟩
 ·trivial
def fF{S:NT->Prop}{x:BT}{α:Type}{q:LU->G α}(h:∀s,C0 S x false (q s))(b:Bool):C0 S x b (nameG.bind q):=by
 refine⟨fun y=>?_,.inr (.inl rfl)⟩;show C0 S x true (G.bind (if decide (y.1=1)&&BP y.2 then .next (.ret y.2)else .fail) q)
 split
 ·exact⟨rfl,h _⟩
 ·trivial
def QP{S:NT->Prop}{x:BT}{α:Type}{q:Int->G α}(h:∀n,C0 S x false (q n))(b:Bool):C0 S x b (numberG.bind q):=by
 refine⟨fun y=>?_,.inr (.inl rfl)⟩;show C0 S x true (G.bind (if decide (y.1=2)then .next (.ret (EY y.2))else .fail) q)
 split
 ·exact⟨rfl,h _⟩
 ·trivial
def Um{S:NT->Prop}{x:BT}{α:Type}{P:List (LU×Opr)}{q:Option Opr->G α}(V:P.lookup x.2=none)(h:∀p,C0 S x false (q (some p)))(H:∀b,C0 S x b (q none))(b:Bool):C0 S x b ((Hr P).bind q):=by
 refine⟨fun y=>?_,.inr (.inr ⟨?_,H false⟩)⟩
 ·show C0 S x true (G.bind (match P.lookup y.2 with|some p=>.next (.ret (some p))|none=>.ret none) q);cases P.lookup y.2 with
  |none=>exact H true
  |some p=>exact⟨rfl,h p⟩
 ·show q none=G.bind (match P.lookup x.2 with|some p=>.next (.ret (some p))|none=>.ret none) q;rw[V];rfl
def Ty{S:NT->Prop}{x:BT}{α:Type}{o:Opr}{q:Option Int->G α}(V:Ax [91] (some x)=false)(h:∀n b,C0 S x b (q n))(b:Bool):C0 S x b ((FZ o).bind q):=by
 unfold FZ
 split
 ·exact h none b
 ·rw[G.bind_assoc];refine Id V ?_ (fun b=>h none b) b;show C0 S x false ((numberG.bind fun n=>(Di [93]).bind fun _=>.ret (some n)).bind q);rw[G.bind_assoc];refine QP (fun n=>?_) false;rw[G.bind_assoc];exact TY (h _ _) false
def Fq{S:NT->Prop}{x:BT}{α:Type}{b:Bool}{nt:NT}{k:nt.T->G α}(E:S nt)(h:∀v,C0 S x false (k v)):C0 S x b (.call nt k):=And.intro E h
def Ev{S:NT->Prop}{x:BT}{α:Type}{b:Bool}{a:α}:C0 S x b (.ret a):=trivial
def S9:NT->Prop
 | .formula=>True
 | .orN=>True
 | .orL=>True
 | .andN=>True
 | .andL=>True
 | .untilN=>True
 | .unary=>True
 | .primary=>True
 |_=>False
structure Yk(x:BT):Prop where
 imp:Ax [45,62] (some x)=false
 or:Ax [124] (some x)=false
 and:Ax [38] (some x)=false
 tru:Ax [116,114,117,101] (some x)=false
 fls:Ax [102,97,108,115,101] (some x)=false
 opn:Ax [40] (some x)=false
 eq:Ax [61] (some x)=false
 ne:Ax [33,61] (some x)=false
 br:Ax [91] (some x)=false
 pre:prefixT.lookup x.2=none
 inf:infixT.lookup x.2=none
def aH{S:NT->Prop}{x:BT}(i:∀nt,S9 nt->S nt)(h:Yk x):∀nt,S9 nt->C0 S x false (body nt)
 | .formula,_=>Fq (i .orN trivial) fun a=>by
  refine Id h.imp ?_ (fun _=>?_) false
  ·exact Fq (i .formula trivial) fun _=>Ev
  ·exact Ev
 | .orN,_=>Fq (i .andN trivial) fun a=>Fq (i .orL trivial) fun _=>Ev
 | .orL,_=>by
  refine Id h.or ?_ (fun _=>?_) false
  ·exact Fq (i .andN trivial) fun a=>Fq (i .orL trivial) fun _=>Ev
  ·exact Ev
 | .andN,_=>Fq (i .untilN trivial) fun a=>Fq (i .andL trivial) fun _=>Ev
 | .andL,_=>by
  refine Id h.and ?_ (fun _=>?_) false
  ·exact Fq (i .untilN trivial) fun a=>Fq (i .andL trivial) fun _=>Ev
  ·exact Ev
 | .untilN,_=>Fq (i .unary trivial) fun a=>by
  refine Um h.inf (fun o=>?_) (fun _=>?_) false
  ·refine Ty h.br (fun n b=>?_) false;exact Fq (i .untilN trivial) fun _=>Ev
  ·exact Ev
 | .unary,_=>by
  refine Um h.pre (fun o=>?_) (fun _=>?_) false
  ·refine Ty h.br (fun n b=>?_) false;exact Fq (i .unary trivial) fun _=>Ev
  ·exact Fq (i .primary trivial) fun _=>Ev
 | .primary,_=>by
  refine Id h.tru ?_ (fun b=>?_) false
  ·exact Ev
  refine Id h.fls ?_ (fun b=>?_) b
  ·exact Ev
  refine Id h.opn ?_ (fun b=>?_) b
  ·refine Fq (i .formula trivial) fun f=>?_;refine TY ?_ false;exact Ev
  refine fF (fun s=>?_) b;refine Id h.eq ?_ (fun b=>?_) false
  ·refine QP (fun n=>?_) false;exact Ev
  refine Id h.ne ?_ (fun _=>?_) b
  ·refine QP (fun n=>?_) false;exact Ev
  ·exact Ev
def dn:Yk (3,[41]):=⟨by decide,by decide,by decide,by decide,by decide,by decide,by decide,by decide,by decide,by decide,by decide⟩
def Hj{β:Type}{s:LU}{q:Bool->G β}{x:Tok}{l:List Tok}{r:Ans β}(h:Ax s (some (bare x))=true)(Q:Run (q true) l r):Run ((Cw s).bind q) (x::l) r:=by
 have:Run (Cw s) (x::l) (.ok (true,l)):=Run.look (by
  show Run (if Ax s (some (bare x))=true then .next (.ret true)else .ret false) _ _;rw[AJ h];exact Run.next (Run.ret _ _))
 exact this.bind Q
def FG{β:Type}{s:LU}{q:Bool->G β}{l:List Tok}{r:Ans β}(h:Ax s (l.head?.map bare)=false)(Q:Run (q false) l r):Run ((Cw s).bind q) l r:=by
 have:Run (Cw s) l (.ok (false,l)):=Run.look (by
  show Run (if Ax s (l.head?.map bare)=true then .next (.ret true)else .ret false) _ _;rw[h];exact Run.ret _ _)
 exact this.bind Q
def H6{β:Type}{s:LU}{q:Unit->G β}{x:Tok}{l:List Tok}{r:Ans β}(h:Ax s (some (bare x))=true)(Q:Run (q ()) l r):Run ((Di s).bind q) (x::l) r:=by
 have:Run (Di s) (x::l) (.ok ((),l)):=Run.look (by
  show Run (if Ax s (some (bare x))=true then .next (.ret ())else .fail) _ _;rw[AJ h];exact Run.next (Run.ret _ _))
 exact this.bind Q
def Oj{β:Type}{q:LU->G β}{x:Tok}{l:List Tok}{r:Ans β}(P:x.kind=1)(H:BP x.text=true)(Q:Run (q x.text) l r):Run (nameG.bind q) (x::l) r:=by
 have:Run nameG (x::l) (.ok (x.text,l)):=Run.look (by
  show Run (if decide (x.kind=1)&&BP x.text then .next (.ret x.text)else .fail) _ _;rw[AJ (by simp[P,H])];exact Run.next (Run.ret _ _))
 exact this.bind Q
def Qf{β:Type}{q:Int->G β}{x:Tok}{l:List Tok}{r:Ans β}(P:x.kind=2)(Q:Run (q (EY x.text)) l r):Run (numberG.bind q) (x::l) r:=by
 have:Run numberG (x::l) (.ok (EY x.text,l)):=Run.look (by
  show Run (if decide (x.kind=2)then .next (.ret (EY x.text))else .fail) _ _;rw[AJ (by simp[P])];exact Run.next (Run.ret _ _))
 exact this.bind Q
def WS{β:Type}{P:List (LU×Opr)}{q:Option Opr->G β}{x:Tok}{l:List Tok}{o:Opr}{r:Ans β}(h:P.lookup x.text=some o)(Q:Run (q (some o)) l r):Run ((Hr P).bind q) (x::l) r:=by
 have:Run (Hr P) (x::l) (.ok (some o,l)):=Run.look (by
  show Run (match P.lookup x.text with|some p=>.next (.ret (some p))|none=>.ret none) _ _;rw[h];exact Run.next (Run.ret _ _))
 exact this.bind Q
def Ni{β:Type}{P:List (LU×Opr)}{q:Option Opr->G β}{l:List Tok}{r:Ans β}(h:∀x,l.head?=some x->P.lookup x.text=none)(Q:Run (q none) l r):Run ((Hr P).bind q) l r:=by
 have:Run (Hr P) l (.ok (none,l)):=Run.look (by
  cases l with
  |nil=>exact Run.ret _ _
  |cons x l=>
   show Run (match P.lookup x.text with|some p=>.next (.ret (some p))|none=>.ret none) _ _;rw[h x rfl];exact Run.ret _ _)
 exact this.bind Q
def qt{x y:Tok}{A:List Tok}{f:Fml}(r:List Tok)(V:bare x=(3,[40]))(I:bare y=(3,[41]))(h:RunN .formula A (.ok (f,[]))):RunN .unary (x::(A++y::r)) (.ok (f,r)):=by
 have Z:RunN .formula (A++y::r) (.ok (f,y::r)):=RunN.stop (S:=S9) (nt:=.formula) (fun v=>aH (fun _ h=>h) (by rw[I];exact dn) v) trivial r h;have a:x.text=[40]:=congrArg Prod.snd V
 have C:RunN .primary (x::(A++y::r)) (.ok (f,r)):=by
  refine FG (by show Ax _ (some (bare x))=false;rw[V];decide) (FG (by show Ax _ (some (bare x))=false;rw[V];decide) (Hj (by rw[V];decide) ?_));exact Run.call Z (H6 (by rw[I];decide) (Run.ret _ _))
 refine Ni (fun z p=>?_) (Run.call C (Run.ret _ _));cases p;rw[a];decide
def lI{l r:List Tok}{f:Fml}(h:RunN .unary l (.ok (f,r)))(B:∀x,r.head?=some x->infixT.lookup x.text=none):RunN .untilN l (.ok (f,r)):=
 Run.call h (Ni B (Run.ret _ _))
def qD{l r:List Tok}{f:Fml}(h:RunN .untilN l (.ok (f,r)))(B:Ax [38] (r.head?.map bare)=false):RunN .andN l (.ok (f,r)):=
 Run.call h (Run.call (show RunN .andL r (.ok ([],r))from FG B (Run.ret _ _)) (Run.ret _ _))
def qz{l r:List Tok}{f:Fml}(h:RunN .andN l (.ok (f,r)))(B:Ax [124] (r.head?.map bare)=false):RunN .orN l (.ok (f,r)):=
 Run.call h (Run.call (show RunN .orL r (.ok ([],r))from FG B (Run.ret _ _)) (Run.ret _ _))
def qE{l r:List Tok}{f:Fml}(h:RunN .orN l (.ok (f,r)))(B:Ax [45,62] (r.head?.map bare)=false):RunN .formula l (.ok (f,r)):=
 Run.call h (FG B (Run.ret _ _))
inductive ReadL:LU->List BT->Prop
 |nil:ReadL [] []
 |gap {c:UInt8} {s:LU} {bs:List BT} (h:c=32\/c=10) (hr:ReadL s bs):ReadL (c::s) bs
 |tok {k:Int} {y s:LU} {bs:List BT} (hy:1<=y.length) (hs:BZ (y++s) 0 []=.ok (y.length,[⟨k,y,0⟩])) (hr:ReadL s bs):ReadL (y++s) ((k,y)::bs)
def Uj{c:UInt8}(h:c=32\/c=10)(s:LU)(ts:List Tok):BZ (c::s) 0 ts=.ok (1,ts):=by
 rcases h with rfl|rfl<;>rfl
def ReadL.det{s:LU}{P:List BT}(h:ReadL s P):∀{B A},ReadL B A->s=B->P=A:=by
 induction h with
 |nil=>
  intro B A Q e;cases Q with
  |nil=>rfl
  |gap=>cases e
  |tok hy=>have:=congrArg List.length e.symm;rw[A9]at this;simp only[FP]at this;omega
 |gap hc hr ih=>
  intro B A Q e;cases Q with
  |nil=>cases e
  |gap _ hr'=>cases e;exact ih hr' rfl
  |tok hy hs=>
   rw[<-e,Uj hc]at hs;simp at hs
 |tok hy hs hr ih=>
  intro B A Q e;cases Q with
  |nil=>have:=congrArg List.length e;rw[A9]at this;simp only[FP]at this;omega
  |gap hc hr'=>
   rw[e,Uj hc]at hs;simp at hs
  |tok hy' hs' hr'=>
   rw[e,hs']at hs;simp only[X6,JB,I7,Tok.mk.injEq,KG]at hs;obtain⟨Z,rfl,rfl⟩:=hs;rw[ih hr' (List.append_cancel_left e)]
def gt{v u:LU}{B:Nat}{x:Tok}{ts:List Tok}(h:BZ u 0 []=.ok (B,[x]))(T:ts.length=2000):BZ (v++u) v.length ts=.error (2,v.length):=by
 unfold BZ at h⊢;have b:=J6 v u 0;simp only[HG]at b;rw[b]
 split at h
 ·simp[It]at h
 ·simp[IN]at h
 ·rename_i hk;unfold EX at h⊢;have c:=Il (q:=Bl) v u 1
  split at h
  ·cases h
  ·rename_i hn;rw[c,AG (by simp only[Bs]at hn;omega)];unfold CH;rw[AJ T]
 ·rename_i hk;unfold C8 at h⊢;have S:=OI v u 0;simp only[HG]at S;rw[S]
  split at h
  ·cases h
  ·rename_i hn;rw[AG hn];unfold CH;rw[AJ T]
 ·unfold ET at h⊢;have a:=Mi v u 0;simp only[HG,N4]at a;rw[a]
  split at h
  ·rename_i y hy;rw[N4]at hy;rw[hy];show CH (v++u) v.length ts 3 _=_;unfold CH;rw[AJ T]
  ·cases h
 ·cases h
def ReadL.scan{s:LU}{P:List BT}(h:ReadL s P):∀(v:LU)(ts:List Tok),ts.length<=2000->
  (∃W,W.map bare=P/\Fe (v++s) v.length ts=.ok ((v++s).length,ts++W))\/∃p,Fe (v++s) v.length ts=.error (2,p):=by
 induction h with
 |nil=>
  intro v ts T;refine .inl ⟨[],rfl,?_⟩;rw[Ch,Ch];exact OM
 | @gap c s P T hr ih=>
  intro v ts N;rw[JE O]
  have Z:BZ (v++c::s) v.length ts=.ok (v.length+1,ts):=by
   have b:=J6 v (c::s) 0;simp only[HG]at b;unfold BZ;rw[b];rcases T with rfl|rfl<;>rfl
  rw[Z];have:=ih (v++[c]) ts N;simp only[Cg,A9,C9,FP,Ee,Ef]at this⊢;exact this
 | @tok k y s P hy hs hr ih=>
  intro v ts N;rw[JE rE];by_cases K:ts.length=2000
  ·rw[gt hs K];exact .inr ⟨_,rfl⟩
  ·have Z:=oD (v:=v) (ts:=ts) (ts':=[]) hs rE;simp only[Kp,Ch,HG,EG]at Z;rw[Z];have:=ih (v++y) (ts++[shT v.length ⟨k,y,0⟩]) rE;simp only[Cg,A9]at this⊢;rcases this with⟨W,e,a⟩|⟨p,a⟩
   ·refine .inl ⟨shT v.length ⟨k,y,0⟩::W,by rw[EG,e];rfl,?_⟩;simpa using a
   ·exact .inr ⟨p,a⟩
def ReadL.lex{s:LU}{P:List BT}(h:ReadL s P):(∃W,W.map bare=P/\C7 s=.ok W)\/∃p,C7 s=.error (2,p):=by
 by_cases N:s.length<=6000
 ·rw[R4 N];rcases h.scan [] [] O with⟨W,e,Z⟩|⟨p,Z⟩
  ·simp only[Ef,FP]at Z;rw[Z];exact .inl ⟨W,e,rfl⟩
  ·simp only[Ef,FP]at Z;rw[Z];exact .inr ⟨p,rfl⟩
 ·unfold C7;rw[AJ U];exact .inr ⟨_,rfl⟩
def Gv:Option UInt8->Bool
 |none=>true
 |some c=> !(Ct c||Ag c||decide (c.toNat=95))
def ReadL.sym{s:LU}{a:List BT}{y:LU}(I:1<=y.length)(P:∃k,EA (y.getD 0 0)=some (k+4))(K:symsL.find? (DG (y++s))=some y)(h:ReadL s a):ReadL (y++s) ((3,y)::a):=by
 refine .tok I ?_ h;obtain⟨k,P⟩:=P;unfold BZ
 have:(y++s).getD 0 0=y.getD 0 0:=by
  cases y with
  |nil=>simp at I
  |cons c y=>rfl
 rw[this,P];show ET _ 0 []=_;unfold ET;rw[N4,K];show CH _ 0 [] 3 (0+y.length)=_;unfold CH;rw[AG O,Bs];simp
structure Sty where
 sign:LU
 level:Nat
 first:Nat
 next:Nat
 least:Nat
 most:Nat
 val:Nat
 bound:Nat
 usual:Nat
def Ps:Nat:=1099511627776
def styL:List (Int×Sty):=[
 (1,⟨[116,114,117,101],5,0,0,0,0,0,0,0⟩),
 (2,⟨[102,97,108,115,101],5,0,0,0,0,0,0,0⟩),
 (3,⟨[61],5,0,0,0,0,9999,0,1⟩),
 (4,⟨[33],4,4,0,1,1,0,0,0⟩),
 (5,⟨[32,38,32],2,3,3,2,Ps,0,0,0⟩),
 (6,⟨[32,124,32],1,2,2,2,Ps,0,0,0⟩),
 (7,⟨[32,45,62,32],0,1,0,2,2,0,0,0⟩),
 (8,⟨[88,32],4,4,0,1,1,0,0,0⟩),
 (9,⟨[32,85,32],3,4,3,2,2,0,0,0⟩),
 (10,⟨[32,82,32],3,4,3,2,2,0,0,0⟩),
 (11,⟨[70,32],4,4,0,1,1,0,0,0⟩),
 (12,⟨[71,32],4,4,0,1,1,0,0,0⟩),
 (13,⟨[70,91],4,4,0,1,1,0,9999,0⟩),
 (14,⟨[71,91],4,4,0,1,1,0,9999,0⟩),
 (15,⟨[89,32],4,4,0,1,1,1,0,0⟩),
 (16,⟨[32,83],3,4,3,2,2,9999,0,0⟩),
 (17,⟨[32,84],3,4,3,2,2,9999,0,1⟩),
 (18,⟨[79,32],4,4,0,1,1,0,0,0⟩),
 (19,⟨[72,32],4,4,0,1,1,0,0,0⟩)]
def Bh(op:Int):Option Sty:=styL.lookup op
def BH(op:Int):Sty:=(Bh op).getD ⟨[],4,0,0,0,0,0,0,0⟩
def DW(n:Nat):LU:=if n<10 then[UInt8.ofNat (48+n)]else DW (n/10)++[UInt8.ofNat (48+n%10)]
def Br(n:Int):LU:=DW n.toNat
def sgT(op:Int)(l:LU)(v b:Int):LU:=
 if op=3 then(if v=1 then l else l++[61]++Br v)
 else if op=13\/op=14 then(BH op).sign++Br b++[93,32]
 else if op=15 then(if v=0 then[89,32]else[90,32])
 else if op=16\/op=17 then(if v=((BH op).usual:Int)then(BH op).sign++[32]else(BH op).sign++[91]++Br v++[93,32])
 else(BH op).sign
def NJ(b:Bool)(s:LU):LU:=if b then[40]++(s++[41])else s
mutual
def prF:Nat->Fml->LU
 |n,.mk op nm v b args=>NJ (decide ((BH op).level<n)) (prA (BH op).first (BH op).next (sgT op nm v b) args)
def prA:Nat->Nat->LU->LF->LU
 |_,_,sg,[]=>sg
 |first,next,sg,a::l=>(if l.isEmpty then sg else[])++(prF first a++prR next sg l)
def prR:Nat->LU->LF->LU
 |_,_,[]=>[]
 |next,sg,a::l=>sg++(prF next a++prR next sg l)
end
def E4(op:Int)(l:LU)(v b:Int)(n:Nat):Bool:=match Bh op with
 |none=>false
 |some s=>decide (s.least<=n/\n<=s.most/\0<=v/\v<=(s.val:Int)/\0<=b/\b<=(s.bound:Int))&&(if op=3 then BP l else l.isEmpty)
mutual
def okF:Fml->Bool
 | .mk op nm v b args=>E4 op nm v b args.length&&okL args
def okL:LF->Bool
 | []=>true
 |a::l=>okF a&&okL l
end
def sgK(op:Int)(l:LU)(v b:Int):List BT:=
 if op=1 then[(1,[116,114,117,101])]else if op=2 then[(1,[102,97,108,115,101])]
 else if op=3 then(1,l)::(if v=1 then[]else[(3,[61]),(2,Br v)])
 else if op=4 then[(3,[33])]else if op=5 then[(3,[38])]else if op=6 then[(3,[124])]else if op=7 then[(3,[45,62])]
 else if op=8 then[(1,[88])]else if op=9 then[(1,[85])]else if op=10 then[(1,[82])]else if op=11 then[(1,[70])]else if op=12 then[(1,[71])]
 else if op=13 then[(1,[70]),(3,[91]),(2,Br b),(3,[93])]else if op=14 then[(1,[71]),(3,[91]),(2,Br b),(3,[93])]
 else if op=15 then(if v=0 then[(1,[89])]else[(1,[90])])
 else if op=16 then(1,[83])::(if v=0 then[]else[(3,[91]),(2,Br v),(3,[93])])
 else if op=17 then(1,[84])::(if v=1 then[]else[(3,[91]),(2,Br v),(3,[93])])
 else if op=18 then[(1,[79])]else[(1,[72])]
def Pp(b:Bool)(s:List BT):List BT:=if b then(3,[40])::(s++[(3,[41])])else s
mutual
def tkF:Nat->Fml->List BT
 |n,.mk op nm v b args=>Pp (decide ((BH op).level<n)) (tkA (BH op).first (BH op).next (sgK op nm v b) args)
def tkA:Nat->Nat->List BT->LF->List BT
 |_,_,sg,[]=>sg
 |first,next,sg,a::l=>(if l.isEmpty then sg else[])++(tkF first a++tkR next sg l)
def tkR:Nat->List BT->LF->List BT
 |_,_,[]=>[]
 |next,sg,a::l=>sg++(tkF next a++tkR next sg l)
end
def HJ{n:Nat}(h:n<10):DW n=[UInt8.ofNat (48+n)]:=by rw[DW,AJ h]
def Jz{n:Nat}(h:10<=n):DW n=DW (n/10)++[UInt8.ofNat (48+n%10)]:=by rw[DW,AG U]
def Jy{k:Nat}(h:k<10):(UInt8.ofNat (48+k)).toNat=48+k:=by simp;omega
def Vd:∀(m n:Nat),n<=m->∀c∈DW n,Ag c=true
 |0,n,h,c,T=>by
  rw[HJ U]at T;simp only[Bj]at T;subst T;simp only[Ag,Jy (show n<10 by omega)];simp;omega
 |m+1,n,h,c,T=>by
  by_cases Z:n<10
  ·rw[HJ Z]at T;simp only[Bj]at T;subst T;simp only[Ag,Jy Z];simp;omega
  ·rw[Jz U]at T;rcases DM.1 T with T|T
   ·exact Vd m (n/10) U c T
   ·simp only[Bj]at T;subst T;simp only[Ag,Jy (show n%10<10 by omega)];simp;omega
def RR(n:Nat):1<=(DW n).length:=by
 rw[DW];split<;>simp
def Ob{n:Nat}(h:n<=9999):(DW n).length<=4:=by
 by_cases Z:n<10
 ·rw[HJ Z];simp
 rw[Jz U];by_cases W:n/10<10
 ·rw[HJ W];simp
 rw[Jz U];by_cases R:n/10/10<10
 ·rw[HJ R];simp
 rw[Jz U];rw[HJ U];simp
def Uk{a b:LU}{i:Nat}(h:i<a.length):(a++b).getD i 0=a.getD i 0:=by
 simp[D4 h]
def Ud:∀(m n:Nat),n<=m->10<=n->((DW n).getD 0 0).toNat≠48
 |0,n,h,h1=>by omega
 |m+1,n,h,h1=>by
  rw[Jz h1];by_cases W:n/10<10
  ·rw[HJ W];show(UInt8.ofNat (48+n/10)).toNat≠48;rw[Jy W];omega
  ·have C:=RR (n/10);have:=Ud m (n/10) U U;rw[Uk U];exact this
def T5:∀(m n:Nat),n<=m->EY (DW n)=(n:Int)
 |0,n,h=>by
  rw[HJ U];show 10*(0:Int)+(((UInt8.ofNat (48+n)).toNat:Int)-48)=_;rw[Jy U];omega
 |m+1,n,h=>by
  by_cases Z:n<10
  ·rw[HJ Z];show 10*(0:Int)+(((UInt8.ofNat (48+n)).toNat:Int)-48)=_;rw[Jy Z];omega
  ·rw[Jz U];have a:=T5 m (n/10) U;unfold EY at a⊢;rw[List.foldl_append,a];show 10*((n/10:Nat):Int)+(((UInt8.ofNat (48+n%10)).toNat:Int)-48)=_;rw[Jy U];omega
def Qc{n:Int}(h:0<=n):EY (Br n)=n:=by
 unfold Br;rw[T5 _ _ (AO _)];omega
end
def Ql:=@List.isEmpty_nil
section
variable {mk:Prop}[MK mk]
def T4{β:Type}{a:Int}{b:β}:∀{l:List (Int×β)},l.lookup a=some b->a∈l.map (·.1)
 | [],h=>by cases h
 |(k,v)::l,h=>by
  rw[Jo]at h;by_cases P:a=k
  ·simp[P]
  ·rw[show(a==k)=false by simpa using P]at h;have:=T4 (l:=l) h;simp only[EG,BI];exact .inr this
def J3{op:Int}{s:Sty}(h:Bh op=some s):op=1\/op=2\/op=3\/op=4\/op=5\/op=6\/op=7\/op=8\/op=9\/op=10\/op=11\/op=12\/op=13\/op=14\/op=15\/op=16\/op=17\/op=18\/op=19:=by
 have:=T4 h;simpa[styL]using this
def Lz{op v b:Int}{l:LU}{n:Nat}(h:E4 op l v b n=true):∃s,Bh op=some s/\s.least<=n/\n<=s.most/\0<=v/\v<=(s.val:Int)/\0<=b/\b<=(s.bound:Int)/\(op=3->BP l=true)/\(op≠3->l=[]):=by
 unfold E4 at h;cases hs:Bh op with
 |none=>rw[hs]at h;cases h
 |some s=>
  rw[hs]at h;simp only[AZ,BD]at h;obtain⟨⟨Z,W,R,a,c,p⟩,A⟩:=h;refine⟨s,rfl,Z,W,R,a,c,p,fun e=>?_,fun e=>?_⟩
  ·rw[AJ e]at A;exact A
  ·rw[AG e]at A;simpa using A
def jX:∀c:UInt8,Bp c=true->EA c=some 2:=by
 intro c h;have:c.toNat∈(List.range 26).map (·+97):=by simp[Bp]at h;simp;exact⟨c.toNat-97,by omega,by omega⟩
 have e:c=UInt8.ofNat c.toNat:=by simp
 rw[e];revert this;generalize c.toNat=n;intro H;simp only[List.range,List.range.loop,EG,Kp,BI,FA,FD]at H;rcases H with rfl|rfl|rfl|rfl|rfl|rfl|rfl|rfl|rfl|rfl|rfl|rfl|rfl|rfl|rfl|rfl|rfl|rfl|rfl|rfl|rfl|rfl|rfl|rfl|rfl|rfl<;>rfl
def jV:∀c:UInt8,Ag c=true->EA c=some 3:=by
 intro c h;have:c.toNat∈(List.range 10).map (·+48):=by simp[Ag]at h;simp;exact⟨c.toNat-48,by omega,by omega⟩
 have e:c=UInt8.ofNat c.toNat:=by simp
 rw[e];revert this;generalize c.toNat=n;intro H;simp only[List.range,List.range.loop,EG,Kp,BI,FA,FD]at H;rcases H with rfl|rfl|rfl|rfl|rfl|rfl|rfl|rfl|rfl|rfl<;>rfl
def RA{p:UInt8->Bool}{u:LU}(o:∀c,u.head?=some c->p c=false):∀s:LU,s.all p=true->(s++u).takeWhile p=s
 | [],_=>by
  cases u with
  |nil=>rfl
  |cons c u=>simp[o c rfl]
 |c::s,h=>by
  simp only[Gc,AZ]at h;rw[Ee,Ll,AJ h.1,RA o s h.2]
def iv{u:LU}(h:Gv u.head?=true):∀c,u.head?=some c->Bl c=false:=by
 intro c T;rw[T]at h;simp only[Gv,Ct,Bl,D7,H0]at h⊢;exact⟨⟨h.1.1.1,h.1.2⟩,h.2⟩
def XP{u:LU}(h:Gv u.head?=true):∀c,u.head?=some c->Ag c=false/\Ct c=false/\c.toNat≠95:=by
 intro c T;rw[T]at h;simp only[Gv,D7,H0,Ec]at h;exact⟨h.1.2,h.1.1,h.2⟩
def Gd{l:LU}(H:BP l=true):1<=l.length/\l.length<=12/\Bp (l.getD 0 0)=true/\l.all Bl=true/\l∉keysL:=by
 simp only[BP,AZ,BD,D7,Ec]at H;exact⟨H.1.1.1.1,H.1.1.1.2,H.1.1.2,H.1.2,H.2⟩
def OR{l u:LU}(Z:1<=l.length)(W:l.length<=12)(R:Bp (l.getD 0 0)=true)(A:l.all Bl=true)(o:Gv u.head?=true):BZ (l++u) 0 []=.ok (l.length,[⟨1,l,0⟩]):=by
 cases l with
 |nil=>simp at Z
 |cons c s=>
  have A:s.all Bl=true:=by
   simp only[Gc,AZ]at A;exact A.2
  have e:As Bl (c::s++u) (0+1)=s.length+1:=by
   show 0+1+((s++u).takeWhile Bl).length=_;rw[RA (iv o) s A];omega
  unfold BZ;rw[show(c::s++u).getD 0 0=c from rfl,jX c R];show EX _ 0 []=_;unfold EX;simp only[C9]at W;rw[e,AG U];unfold CH;rw[AG O];simp
def jk{n:Nat}{u:LU}(H:n<=9999)(o:Gv u.head?=true):BZ (DW n++u) 0 []=.ok ((DW n).length,[⟨2,DW n,0⟩]):=by
 have C:=RR n;have N:=Ob H;have x:=Vd n n (AO _);have b:(DW n).all Ag=true:=Bu.2 x;have y:(DW n++u).getD 0 0=(DW n).getD 0 0:=Uk U
 have v:Ag ((DW n).getD 0 0)=true:=by
  rw[Ce,AU U];exact x _ (E9 _)
 have e:As Ag (DW n++u) 0=(DW n).length:=by
  show 0+((DW n++u).takeWhile Ag).length=_;rw[RA (fun c T=>(XP o c T).1) _ b];omega
 have S:B6 (DW n++u) 0=false:=by
  unfold B6;rw[e,y];simp only[H0,NX,Ec];refine⟨⟨by omega,?_⟩,?_⟩
  ·by_cases I:n<10
   ·left;rw[HJ I];simp
   ·right;exact Ud n n (AO _) U
  ·cases u with
   |nil=>left;simp
   |cons c u=>
    right;have T:(DW n++c::u).getD (DW n).length 0=c:=by simp
    rw[T];obtain⟨_,Z,W⟩:=XP o c rfl;exact⟨Z,W⟩
 unfold BZ;rw[y,jV _ v];show C8 _ 0 []=_;unfold C8;rw[S,e];show CH _ 0 [] 2 _=_;unfold CH;rw[AG O];simp
def ReadL.name{l s:LU}{P:List BT}(H:BP l=true)(h:ReadL s P)(E:Gv s.head?=true):ReadL (l++s) ((1,l)::P):=by
 obtain⟨Z,W,R,A,_⟩:=Gd H;exact .tok Z (OR Z W R A E) h
def ReadL.num{n:Int}{s:LU}{P:List BT}(H:n<=9999)(h:ReadL s P)(E:Gv s.head?=true):ReadL (Br n++s) ((2,Br n)::P):=
 .tok (RR _) (jk U E) h
def ReadL.one{c:UInt8}{s:LU}{P:List BT}(T:c=40\/c=41\/c=91\/c=93\/c=59\/c=58\/c=123\/c=125\/c=124\/c=38\/c=61)(h:ReadL s P):ReadL (c::s) ((3,[c])::P):=by
 refine ReadL.sym (y:=[c]) O ?_ ?_ h
 ·rcases T with rfl|rfl|rfl|rfl|rfl|rfl|rfl|rfl|rfl|rfl|rfl<;>exact⟨0,rfl⟩
 ·rcases T with rfl|rfl|rfl|rfl|rfl|rfl|rfl|rfl|rfl|rfl|rfl<;>simp[symsL,DG]
def ReadL.imp{s:LU}{P:List BT}(h:ReadL s P):ReadL (45::62::s) ((3,[45,62])::P):=ReadL.sym (y:=[45,62]) O ⟨0,rfl⟩ (by simp[symsL,DG]) h
def ReadL.not{s:LU}{P:List BT}(h:ReadL s P)(E:s.head?≠some 61):ReadL (33::s) ((3,[33])::P):=by
 refine ReadL.sym (y:=[33]) O ⟨0,rfl⟩ ?_ h;cases s with
 |nil=>simp[symsL,DG]
 |cons c s=>
  have T:c≠61:=fun e=>E (by rw[e];rfl);simp[symsL,DG,T]
def ReadL.big{c:UInt8}{d:UInt8}{s:LU}{P:List BT}(T:c∈[88,89,90,79,72,70,71,85,82,83,84])(x:d=32\/d=91)(h:ReadL (d::s) P):ReadL (c::d::s) ((1,[c])::P):=by
 refine .tok (y:=[c]) O ?_ h;simp only[BI,FA,FD]at T;rcases T with rfl|rfl|rfl|rfl|rfl|rfl|rfl|rfl|rfl|rfl|rfl<;>rcases x with rfl|rfl<;>rfl
def ReadL.index{v:Int}{s:LU}{P:List BT}(a:v<=9999)(h:ReadL s P):ReadL (91::(Br v++93::32::s)) ((3,[91])::(2,Br v)::(3,[93])::P):=
 ReadL.one O (ReadL.num a (ReadL.one O (ReadL.gap (.inl rfl) h)) rfl)
def Fol(s:LU):Prop:=Gv s.head?=true/\s.head?≠some 61
def Jv(s:LU):Fol (32::s):=⟨rfl,by simp⟩
def We{l s:LU}(Z:1<=l.length)(h:Bp (l.getD 0 0)=true):(l++s).head?≠some 61:=by
 cases l with
 |nil=>simp at Z
 |cons c l=>
  intro e;simp only[Ee,List.head?_cons,Jn]at e;subst e;exact absurd (show Bp 61=true from h) rI
def Qh{op v b:Int}{l:LU}{n:Nat}(h:E4 op l v b n=true){s:LU}{P:List BT}(B:ReadL s P)(E:n=0->Gv s.head?=true)(f:s.head?≠some 61):
  ReadL (sgT op l v b++s) (sgK op l v b++P)/\(sgT op l v b++s).head?≠some 61/\(2<=n->Fol (sgT op l v b++s)):=by
 obtain⟨i,d,Z,W,R,A,g,p,e,M⟩:=Lz h;have S:∀{t:LU}{c:List BT},ReadL t c->ReadL (32::t) c:=fun q=>ReadL.gap (.inl rfl) q;rcases J3 d with rfl|rfl|rfl|rfl|rfl|rfl|rfl|rfl|rfl|rfl|rfl|rfl|rfl|rfl|rfl|rfl|rfl|rfl|rfl<;>simp[Bh,styL,List.lookup]at d<;>subst d<;>simp only at Z W A p
 ·have E:=E U;exact⟨.tok (y:=[116,114,117,101]) O (OR O O rI rI E) B,by simp[sgT,BH,Bh,styL],fun _=>by omega⟩
 ·have E:=E U;exact⟨.tok (y:=[102,97,108,115,101]) O (OR O O rI rI E) B,by simp[sgT,BH,Bh,styL,List.lookup],fun _=>by omega⟩
 ·have E:=E U;have H:=e rfl;obtain⟨D,_,w,_⟩:=Gd H;by_cases a:v=1
  ·refine⟨?_,?_,fun _=>by omega⟩
   ·simp only[sgT,sgK,AJ a];exact ReadL.name H B E
   ·rw[show sgT 3 l v b=l by simp[sgT,a]];exact We D w
  ·refine⟨?_,?_,fun _=>by omega⟩
   ·simp only[sgT,sgK,AG a];have:=ReadL.name H (ReadL.one (c:=61) O (ReadL.num (n:=v) U B E)) rfl;simpa using this
   ·rw[show sgT 3 l v b=l++[61]++Br v by simp[sgT,a],Cg,Cg];exact We D w
 ·exact⟨ReadL.not B f,by simp[sgT,BH,Bh,styL,List.lookup],fun _=>by omega⟩
 ·exact⟨S (ReadL.one O (S B)),by simp[sgT,BH,Bh,styL,List.lookup],fun _=>Jv _⟩
 ·exact⟨S (ReadL.one O (S B)),by simp[sgT,BH,Bh,styL,List.lookup],fun _=>Jv _⟩
 ·exact⟨S (ReadL.imp (S B)),by simp[sgT,BH,Bh,styL,List.lookup],fun _=>Jv _⟩
 ·exact tA
 ·exact⟨S (ReadL.big O (.inl rfl) (S B)),by simp[sgT,BH,Bh,styL,List.lookup],fun _=>Jv _⟩
 ·exact⟨S (ReadL.big O (.inl rfl) (S B)),by simp[sgT,BH,Bh,styL,List.lookup],fun _=>Jv _⟩
 ·exact tA
 ·exact tA
 ·refine⟨?_,by simp[sgT,BH,Bh,styL,List.lookup],fun _=>by omega⟩;have:=ReadL.big (c:=70) O (.inr rfl) (ReadL.index (v:=b) U B);simpa[sgT,sgK,BH,Bh,styL,List.lookup]using this
 ·refine⟨?_,by simp[sgT,BH,Bh,styL,List.lookup],fun _=>by omega⟩;have:=ReadL.big (c:=71) O (.inr rfl) (ReadL.index (v:=b) U B);simpa[sgT,sgK,BH,Bh,styL,List.lookup]using this
 ·by_cases a:v=0
  ·simp only[sgT,sgK,AJ a];exact⟨ReadL.big O (.inl rfl) (S B),by simp,fun _=>by omega⟩
  ·simp only[sgT,sgK,AG a];exact⟨ReadL.big O (.inl rfl) (S B),by simp,fun _=>by omega⟩
 ·by_cases a:v=0
  ·subst a;exact⟨S (ReadL.big (c:=83) O (.inl rfl) (S B)),by simp[sgT,BH,Bh,styL,List.lookup],fun _=>Jv _⟩
  ·have:=S (ReadL.big (c:=83) O (.inr rfl) (ReadL.index (v:=v) U B));refine⟨?_,by simp[sgT,BH,Bh,styL,List.lookup,a],fun _=>?_⟩
   ·simpa[sgT,sgK,BH,Bh,styL,List.lookup,a]using this
   ·simp only[Fol,sgT,BH,Bh,styL,List.lookup];simp[a,Gv,Ct,Bp,Je,Ag]
 ·by_cases a:v=1
  ·subst a;exact⟨S (ReadL.big (c:=84) O (.inl rfl) (S B)),by simp[sgT,BH,Bh,styL,List.lookup],fun _=>Jv _⟩
  ·have:=S (ReadL.big (c:=84) O (.inr rfl) (ReadL.index (v:=v) U B));refine⟨?_,by simp[sgT,BH,Bh,styL,List.lookup,a],fun _=>?_⟩
   ·simpa[sgT,sgK,BH,Bh,styL,List.lookup,a]using this
   ·simp only[Fol,sgT,BH,Bh,styL,List.lookup];simp[a,Gv,Ct,Bp,Je,Ag]
 ·exact tA
 ·exact tA
def PI(f:Fml):Prop:=∀(n:Nat)(s:LU)(P:List BT),ReadL s P->Fol s->ReadL (prF n f++s) (tkF n f++P)/\(prF n f++s).head?≠some 61
def EU:∀{l:LF},okL l=true->∀a∈l,okF a=true
 | [],_,a,h=>by cases h
 |c::l,h,a,G=>by
  simp only[okL,AZ]at h;rcases BI.1 G with rfl|G
  ·exact h.1
  ·exact EU h.2 a G
def Tc{op v b:Int}{d:LU}{k:Nat}(h:E4 op d v b k=true)(e:2<=k)(next:Nat):∀(l:LF),(∀a∈l,PI a)->∀(s:LU)(P:List BT),ReadL s P->Fol s->ReadL (prR next (sgT op d v b) l++s) (tkR next (sgK op d v b) l++P)/\Fol (prR next (sgT op d v b) l++s)
 | [],_,s,P,hr,hs=>⟨hr,hs⟩
 |a::l,hl,s,P,hr,hs=>by
  obtain⟨g,z⟩:=Tc h e next l (fun c T=>hl c rR) s P hr hs
  obtain⟨K,D⟩:=hl a O next _ _ g z
  obtain⟨u,_,f⟩:=Qh h K (fun i=>by omega) D;simp only[prR,tkR,Cg];exact⟨u,f e⟩
def Tp{op v b:Int}{f:LU}{args:LF}(h:E4 op f v b args.length=true)(first next:Nat)(N:∀a∈args,PI a){s:LU}{P:List BT}(B:ReadL s P)(E:Fol s):
  ReadL (prA first next (sgT op f v b) args++s) (tkA first next (sgK op f v b) args++P)/\(prA first next (sgT op f v b) args++s).head?≠some 61:=by
 match args,h,N with
 | [],h,N=>
  obtain⟨u,g,_⟩:=Qh h B (fun _=>E.1) E.2;simp only[prA,tkA];exact⟨u,g⟩
 | [a],h,N=>
  obtain⟨K,D⟩:=N a O first _ _ B E
  obtain⟨u,g,_⟩:=Qh h K (fun i=>by simp at i) D;simp only[prA,tkA,prR,tkR,Ql,AJ,Cg,Ch];exact⟨u,g⟩
 |a::c::l,h,N=>
  obtain⟨T,z⟩:=Tc h O next (c::l) (fun d x=>N d (by simp at x;simp[x])) s P B E
  obtain⟨K,D⟩:=N a O first _ _ T z
  have e:(c::l).isEmpty=false:=rfl;simp only[prA,tkA,e,D6,Dh,Cg,Ef];exact⟨K,D⟩
def Sg:∀(m:Nat)(f:Fml),SizeOf.sizeOf f<=m->okF f=true->PI f
 |0,f,hm,_=>by cases f;simp at hm
 |m+1,.mk op nm v b args,hm,hok=>by
  simp only[okF,AZ]at hok;have N:∀a∈args,PI a:=fun a G=>Sg m a (by have:=P8 G;simp at hm;omega) (EU hok.2 a G);intro n s P B E;simp only[prF,tkF];by_cases d:(BH op).level<n
  ·rw[BE d];obtain⟨T,_⟩:=Tp hok.1 (BH op).first (BH op).next N (ReadL.one (c:=41) O B) ⟨rfl,by simp⟩
   have:=ReadL.one (c:=40) O T;refine⟨?_,by simp[NJ]⟩;simpa[NJ,Pp]using this
  ·rw[BC d];exact Tp hok.1 (BH op).first (BH op).next N B E
end
def Qk:=@List.filter_cons
section
variable {mk:Prop}[MK mk]
attribute [local semireducible] WC AF CO B0 Cx B8 Cc CB
variable {P:Program}{ops:Array Oper}{rr:Option Nat}
def Yp(l:List Oper):Bool:=(List.range l.length).all fun i=>match l[i]? with
 |some o=>o.after.toList.all fun e=>Nat.blt e.on i
 |none=>true
theorem iY{l:List Oper}(h:Yp l=true){i:Nat}{o:Oper}(a:l[i]?=some o):∀e∈o.after,e.on<i:=by
 intro e B;have F:i<l.length:=(Ah.1 a).1;have:=Bu.1 h i (HZ.2 F);rw[a]at this;have:=Bu.1 this e (by simpa using B);rw[Ip]at this;exact this
theorem Ue{p q:Nat->Bool}{j:Nat}(V:∀x,q x=true->p x=true)(C:p j=true)(a:q j=false):∀{l:List Nat},j∈l->(l.filter q).length<(l.filter p).length
 | [],h=>by cases h
 |x::l,h=>by
  have G:∀m:List Nat,(m.filter q).length<=(m.filter p).length:=by
   intro m
   induction m with
   |nil=>exact AO _
   |cons y m n=>
    rw[Qk,Qk];cases hy:q y with
    |true=>rw[V y hy];simp;exact n
    |false=>cases p y<;>simp<;>omega
  rw[Qk,Qk];rcases BI.1 h with rfl|h
  ·rw[C,a];have:=G l;simp;omega
  ·have n:=Ue V C a h;cases hx:q x with
   |true=>rw[V x hx];simp;exact n
   |false=>cases p x<;>simp<;>omega
theorem iI{n:Nat}{Q:CQ}{Inv:(Nat->Bool)->Fr->DS->World->Prop}(a3:ops.toList.all (Eo n rr.isSome)=true)(M:∀(i:Nat)(o:Oper),ops[i]?=some o->∀e∈o.after,e.on<i)
  (a6:∀(L:Nat->Bool)(f:Fr)(ds:DS)(w:World)(i:Nat)(o:Oper),Inv L f ds w->ops[i]?=some o->L i=false->(∀e∈o.after,Region.binds .any e=true->L e.on=true)->
   AF P ops (fun f ds A w=>Q (.panic A) f ds w) (fun K G w'=>Inv (fun j=>j==i||L j) K G w') [o] f ds w)
  (N:∀(L:Nat->Bool)(f:Fr)(ds:DS)(w:World),Inv L f ds w->(∀i,i<ops.size->L i=true)->Q .normal f ds w):
  ∀(D:Nat)(E:Array Bool)(a:Act)(w:World),E.size=ops.size->((List.range ops.size).filter fun i=> !E.getD i true).length<=D->a.tmps.size=n->Inv (fun i=>E.getD i true) (Bi a) a.defers w->
   wpAnyIn (rnd rr) 0 P .any ops (El n Q) D E a w:=by
 have r:∀(E:Array Bool),E.size=ops.size->Region.ready .any ops E=[]->∀i,i<ops.size->E.getD i true=true:=by
  intro E u B i
  induction i using Nat.strongRecOn with
  |ind i ih=>
   intro F;cases hl:E.getD i true with
   |true=>rfl
   |false=>
    exfalso;have k:ops[i]?=some ops[i]:=Jm F
    have:i∈Region.ready .any ops E:=by
     refine Pk.2 ⟨hl,_,k,fun e g S=>?_⟩;have z:=M i _ k e g;have:=ih e.on z U;rw[I2,Jm U]at this⊢;exact this
    rw[B]at this;cases this
 have y:∀(E:Array Bool)(a:Act)(w:World),E.size=ops.size->a.tmps.size=n->Inv (fun i=>E.getD i true) (Bi a) a.defers w->Region.ready .any ops E=[]->El n Q .normal a w:=
  fun E a w u H c B=>⟨H,N _ _ _ _ c (fun i F=>r E u B i F)⟩
 intro D
 induction D with
 |zero=>
  intro E a w u T H c
  have B:Region.ready .any ops E=[]:=by
   cases hrd:Region.ready .any ops E with
   |nil=>rfl
   |cons j t=>
    exfalso;obtain⟨C,oj,a2,_⟩:=Pk.1 (show j∈Region.ready .any ops E by rw[hrd];simp);have a0:j<ops.size:=(FM.1 a2).1;have hm:j∈(List.range ops.size).filter fun i=> !E.getD i true:=List.mem_filter.2 ⟨HZ.2 a0,by rw[C];rfl⟩;have:=List.length_pos_of_mem hm;omega
  exact⟨B,y E a w u H c B⟩
 |succ D ih=>
  intro E a w u T H c;refine⟨y E a w u H c,fun i F=>?_⟩;obtain⟨l,h,d,X⟩:=Pk.1 F;have v:i<ops.size:=(FM.1 d).1;have I:Eo n rr.isSome h=true:=Bu.1 a3 h (by simpa using Lh d)
  have a4:∀e∈h.after,Region.binds .any e=true->E.getD e.on true=true:=fun e g S=>by
   have Z:=X e g S;have z:=M i _ d e g;rw[I2,Jm U]at Z⊢;exact Z
  have a5:=a6 _ _ _ _ i h c d l a4;refine TR d H I ?_ a5;intro m w' a1 R
  have s:(fun j=>(E.setIfInBounds i true).getD j true)=fun j=>j==i||E.getD j true:=by
   funext j
   by_cases b:j=i
   ·subst b;rw[I2,Array.getElem?_setIfInBounds_self,AJ U];simp
   ·rw[I2,TH (FE b),<-I2];simp[b]
  refine ih (E.setIfInBounds i true) m w' (by simp[u]) ?_ a1 (by rw[s];exact R)
  have z:=Ue (p:=fun j=> !E.getD j true) (q:=fun j=> !(E.setIfInBounds i true).getD j true) (j:=i) (fun x V=>by
   have W:(E.setIfInBounds i true).getD x true=(x==i||E.getD x true):=congrFun s x;rw[W]at V;simp only[D7,H0]at V⊢;exact V.2) (by rw[l];rfl) (by have W:(E.setIfInBounds i true).getD i true=(i==i||E.getD i true):=congrFun s i;rw[W];simp) (HZ.2 v)
  omega
def Yb(Q:CQ):CQ:=fun e f s w=>match e with
 | .normal=>Q .normal f s w
 |_=>False
theorem qI{n:Cf}{Q:CQ}{id:Nat}{l:List Oper}{f:Fr}{ds:DS}{w:World}(Inv:(Nat->Bool)->Fr->DS->World->Prop)(h:P.follows .mixedOrders=true)(T:(l.all (Eo n.n n.r.isSome)&&Yp l)=true)
  (E:∀b,Ext w b->b.heap=w.heap->Inv (fun i=> !Nat.blt i l.length) f ds b)
  (t:∀(L:Nat->Bool)(f:Fr)(ds:DS)(w:World)(i:Nat)(o:Oper),Inv L f ds w->l[i]?=some o->L i=false->(∀e∈o.after.toList,Region.binds .any e=true->L e.on=true)->
   AF P l.toArray (fun _ _ _ _=>False) (fun d c w'=>Inv (fun j=>j==i||L j) d c w') [o] f ds w)
  (g:∀(L:Nat->Bool)(f:Fr)(ds:DS)(w:World),Inv L f ds w->(∀i,i<l.length->L i=true)->Q .normal f ds w):WC P n (.region id l.toArray true) Q f ds w:=by
 simp only[AZ]at T;rintro a H rfl rfl;refine Hi (Q:=El n.n (Yb Q)) (wpIn_region_any h ?_) ?_
 ·refine iI (P:=P) (Q:=Yb Q) (Inv:=Inv) (ops:=l.toArray) (rr:=n.r) T.1 (fun i o k e B=>iY T.2 (by simpa using k) e B) (fun L f ds w i o Z W R A=>t L f ds w i o Z (by simpa using W) R (fun e B=>A e (by simpa using B))) (fun L f ds w Z W=>g L f ds w Z (fun i F=>W i rm)) _ _ a _ O ?_ H ?_
  ·exact Az (List.length_filter_le _ _) O
  ·have:=E {w with drawn:=w.drawn+1} ⟨rfl,rfl,rfl,AO _,fun _ _ _=>rfl,fun _=>Us rfl,Jx _⟩ rfl
   have e:(fun i=>(Array.replicate l.toArray.size false).getD i true)=fun i=> !Nat.blt i l.length:=by
    funext i
    rw[I2,Array.getElem?_replicate];by_cases F:i<l.length
    ·simp[F]
    ·have S:Nat.blt i l.length=false:=by rw[Bool.eq_false_iff,ne_eq,Ip];exact F
     simp[F,S]
   rw[e];exact this
 ·intro e a w V;obtain⟨Z,W⟩:=V;cases e with
  |normal=>exact⟨Z,W⟩
  |_=>exact W.elim
end
def iN:=@List.mem_zipIdx_iff_getElem?
section
variable {mk:Prop}[MK mk]
def Bz(s:Sty):LV:=[AA s.sign,iV (s.level:Int),iV (s.first:Int),iV (s.next:Int),iV (s.least:Int),iV (s.most:Int),iV (s.val:Int),iV (s.bound:Int),iV (s.usual:Int)]
def BM(s:Sty):Value:=.agg (Bz s).toArray
def Kw(s:Sty):oneC (Bz s):=by
 intro u o;simp only[Bz,BI,FA,FD]at o;rcases o with rfl|rfl|rfl|rfl|rfl|rfl|rfl|rfl|rfl<;>rfl
def pfx:Sty:=⟨[],4,4,0,1,1,0,0,0⟩
def ifx:Sty:=⟨[],3,4,3,2,2,0,0,0⟩
def KT(k:Nat):Sty:=((styL.map (·.2))[k-1]?).getD pfx
def AY(k:Nat):Value:=BM (KT k)
def fn1:Value:=.func (.func 156) #[] #[]
def fn2:Value:=.func (.func 157) #[] #[]
def fn3:Value:=.func (.func 158) #[] #[]
def sty0:LV:=[AA [],iV 0,iV 0,iV 0,iV 0,iV 0,iV 0,iV 0,iV 0]
instance:JT Zp 157 (.agg sty0.toArray):=Oq underlying157 underlying3 rD
def JG(w:World)(s:Sty)(g:LU):Fn Zp 156 [BM s,AA g] w fun v w'=>v=BM {s with sign:=g}/\Ext w w':=by
 refine AM func156 rfl ntmps156 (go ?_);refine Ac (L:=Bz s) rfl (fun Q D=>?_);refine Ai (fun c R=>?_);have b1:=D.D.E R.E O;have b2:Blk c Q.heap.size 163 sty0:=R.D;have j:=D.size;refine go ?_;refine AW rfl rfl rfl b1 (by simp[Bz]) (fun d i=>?_);have e:Blk d w.heap.size 163 (Bz {s with sign:=g}):=i.D;have b:=b2.E i.E rE;refine go ?_;refine Aa (cs:=Bz {s with sign:=g}) rfl rfl rfl (Kw _) b (by simp[sty0,Bz]) (fun t a=>?_);have p:Blk t Q.heap.size 163 (Bz {s with sign:=g}):=a.D;refine go ?_;exact Ar rfl rfl rfl p.cells ⟨rfl,((D.E.Q R.E).E i.E O).E a.E rE⟩
def Tq(w:World)(s:Sty)(g:LU):Fn Zp 158 [BM s,AA g] w fun v w'=>v=BM {s with sign:=g,bound:=9999}/\Ext w w':=by
 refine AM func158 rfl ntmps158 (go ?_);refine Ac (L:=Bz s) rfl (fun Q D=>?_);refine Ai (fun e R=>?_);have b1:=D.D.E R.E O;have b2:Blk e Q.heap.size 163 sty0:=R.D;have j:=D.size;refine go ?_;refine AW rfl rfl rfl b1 (by simp[Bz]) (fun h i=>?_);have d:Blk h w.heap.size 163 (Bz {s with sign:=g}):=i.D;refine go ?_;refine AW rfl rfl rfl d (by simp[Bz]) (fun t a=>?_);have p:Blk t w.heap.size 163 (Bz {s with sign:=g,bound:=9999}):=a.D;have b:=(b2.E i.E rE).E a.E rE;refine go ?_;refine Aa (cs:=Bz {s with sign:=g,bound:=9999}) rfl rfl rfl (Kw _) b (by simp[sty0,Bz]) (fun c x=>?_);have r:Blk c Q.heap.size 163 (Bz {s with sign:=g,bound:=9999}):=x.D;refine go ?_;exact Ar rfl rfl rfl r.cells ⟨rfl,(((D.E.Q R.E).E i.E O).E a.E O).E x.E rE⟩
def RC(w:World)(s:Sty)(g:LU)(m u:Nat):Fn Zp 157 [BM s,AA g,iV (m:Int),iV (u:Int)] w fun v w'=>v=BM {s with sign:=g,val:=m,usual:=u}/\Ext w w':=by
 refine AM func157 rfl ntmps157 (go ?_);refine Ac (L:=Bz s) rfl (fun Q D=>?_);refine Ai (fun h R=>?_);have b1:=D.D.E R.E O;have b2:Blk h Q.heap.size 163 sty0:=R.D;have j:=D.size;refine go ?_;refine AW rfl rfl rfl b1 (by simp[Bz]) (fun k i=>?_);have d:Blk k w.heap.size 163 (Bz {s with sign:=g}):=i.D;refine go ?_;refine AW rfl rfl rfl d (by simp[Bz]) (fun t a=>?_);have p:Blk t w.heap.size 163 (Bz {s with sign:=g,val:=m}):=a.D;refine go ?_;refine AW rfl rfl rfl p (by simp[Bz]) (fun l x=>?_);have n:Blk l w.heap.size 163 (Bz {s with sign:=g,val:=m,usual:=u}):=x.D;have b:=((b2.E i.E rE).E a.E rE).E x.E rE;refine go ?_;refine Aa (cs:=Bz {s with sign:=g,val:=m,usual:=u}) rfl rfl rfl (Kw _) b (by simp[sty0,Bz]) (fun r c=>?_);have e:Blk r Q.heap.size 163 (Bz {s with sign:=g,val:=m,usual:=u}):=c.D;refine go ?_;exact Ar rfl rfl rfl e.cells ⟨rfl,((((D.E.Q R.E).E i.E O).E a.E O).E x.E O).E c.E rE⟩
def valT:List (Nat×Nat×Value):=[(1,9,AY 1),(3,10,AY 2),(5,11,AY 3),(7,12,fn1),(8,13,BM pfx),(9,14,AY 4),(11,15,AY 5),(13,16,AY 6),(15,17,AY 7),(17,18,fn1),(18,19,BM pfx),(19,20,AY 8),(21,21,fn1),(22,22,BM ifx),(23,23,AY 9),(25,24,fn1),(26,25,BM ifx),(27,26,AY 10),(29,27,fn1),(30,28,BM pfx),(31,29,AY 11),(33,30,fn1),(34,31,BM pfx),(35,32,AY 12),(37,33,fn3),(38,34,BM pfx),(39,35,AY 13),(41,36,fn3),(42,37,BM pfx),(43,38,AY 14),(45,39,fn2),(46,40,BM pfx),(47,41,AY 15),(49,42,fn2),(50,43,BM ifx),(51,44,AY 16),(53,45,fn2),(54,46,BM ifx),(55,47,AY 17),(57,48,fn1),(58,49,BM pfx),(59,50,AY 18),(61,51,fn1),(62,52,BM pfx),(63,53,AY 19)]
def insT:List (Nat×Int×Value):=[(2,1,AY 1),(4,2,AY 2),(6,3,AY 3),(10,4,AY 4),(12,5,AY 5),(14,6,AY 6),(16,7,AY 7),(20,8,AY 8),(24,9,AY 9),(28,10,AY 10),(32,11,AY 11),(36,12,AY 12),(40,13,AY 13),(44,14,AY 14),(48,15,AY 15),(52,16,AY 16),(56,17,AY 17),(60,18,AY 18),(64,19,AY 19)]
def vOps:List Nat:=valT.map (·.1)
def vSlots:List Nat:=valT.map (·.2.1)
def iOps:List Nat:=insT.map (·.1)
def NI:∀p∈valT,p.1<67/\p.1≠0/\p.1≠65/\p.1≠66/\p.1∉iOps:=by
 have h:(vOps.all fun i=>Nat.blt i 67&&i !=0&&i !=65&&i !=66&& !iOps.contains i)=true:=by kernel_rfl
 intro p C;have:=Bu.1 h p.1 (By.2 ⟨p,C,rfl⟩);simpa[Ip,and_assoc]using this
def PE:∀p∈valT,8<p.2.1/\p.2.1<54:=by
 have h:(vSlots.all fun i=>Nat.blt 8 i&&Nat.blt i 54)=true:=by kernel_rfl
 intro p C;have:=Bu.1 h p.2.1 (By.2 ⟨p,C,rfl⟩);simpa[Ip]using this
def LJ:∀p∈insT,p.1<67/\p.1≠0/\p.1≠65/\p.1≠66/\p.1∉vOps:=by
 have h:(iOps.all fun i=>Nat.blt i 67&&i !=0&&i !=65&&i !=66&& !vOps.contains i)=true:=by kernel_rfl
 intro p C;have:=Bu.1 h p.1 (By.2 ⟨p,C,rfl⟩);simpa[Ip,and_assoc]using this
def jj{l:List Nat}(h:(l.zipIdx.all fun x=>l.zipIdx.all fun y=>Nat.beq x.2 y.2|| !Nat.beq x.1 y.1)=true){i j:Nat}{a:Nat}(F:l[i]?=some a)(C:l[j]?=some a):i=j:=by
 have Z:=Bu.1 h (a,i) (iN.2 rm);have W:=Bu.1 Z (a,j) (iN.2 (by simpa using C));simpa using W
def PC{α:Type}{l:List α}{g:α->Nat}(h:(((l.map g).zipIdx).all fun x=>(l.map g).zipIdx.all fun y=>Nat.beq x.2 y.2|| !Nat.beq x.1 y.1)=true){p q:α}(b:p∈l)(V:q∈l)(e:g p=g q):p=q:=by
 obtain⟨i,F⟩:=Cn b;obtain⟨j,C⟩:=Cn V;have:=jj h (i:=i) (j:=j) (a:=g p) (by rw[Cl,F];rfl) (by rw[Cl,C,e];rfl);subst this;rw[F]at C;exact Ae C
def rB{p q:Nat×Nat×Value}(C:p∈valT)(V:q∈valT)(e:p.1=q.1):p=q:=PC (g:=(·.1)) rD C V e
def oP{p q:Nat×Nat×Value}(C:p∈valT)(V:q∈valT)(e:p.2.1=q.2.1):p=q:=PC (g:=(·.2.1)) rD C V e
def qk{p q:Nat×Int×Value}(C:p∈insT)(V:q∈insT)(e:p.1=q.1):p=q:=PC (g:=(·.1)) rD C V e
def pY{p q:Nat×Int×Value}(C:p∈insT)(V:q∈insT)(e:p.2.1=q.2.1):p=q:=PC (g:=fun x=>x.2.1.toNat) rD C V (congrArg Int.toNat e)
structure StyInv(b1 b2:Nat)(wd:World)(ds0:DS)(L:Nat->Bool)(f:Fr)(ds:DS)(w:World):Prop where
 ds:ds=ds0
 ext:Ext wd w
 p1:f 1=.pointer (sm b1)
 p2:f 2=.pointer (sm b2)
 p3:f 3=fn1
 p4:f 4=fn2
 p5:f 5=fn3
 vals:∀p∈valT,L p.1=true->f p.2.1=p.2.2
 ord:∀p∈insT,L p.1=true->L 0=true
 map:L 0=true->∃r M,f 8=.map (some r)/\wd.heap.size<=r/\VMap w r M/\∀k v,(k,v)∈M↔∃p∈insT,L p.1=true/\k=p.2.1/\v=p.2.2
 ord65:L 65=true->L 0=true
 l65:L 65=true->f 54=f 8
 l66:L 66=true->f 0=f 8/\L 65=true
def PX(f:Fr)(d:Nat)(v:Value):upd f d v d=v:=by simp[upd]
def Ca{f:Fr}{d j:Nat}{v:Value}(h:j≠d):upd f d v j=f j:=by
 have:Nat.beq j d=false:=by rw[Bool.eq_false_iff,ne_eq,Nat.beq_eq];exact h
 simp[upd,this]
section
variable {b1 b2:Nat}{wd w w':World}{ds0 ds:DS}{L:Nat->Bool}{f:Fr}
def Dj{i j:Nat}(h:j≠i):(j==i||L j)=L j:=by simp[h]
def Pm(i:Nat):(i==i||L i)=true:=by simp
def Bv{p:Nat×Nat×Value}(h:StyInv b1 b2 wd ds0 L f ds w)(C:p∈valT)(k:Ext w w'):StyInv b1 b2 wd ds0 (fun j=>j==p.1||L j) (upd f p.2.1 p.2.2) ds w':=by
 obtain⟨o,c,d,i,l⟩:=NI p C;obtain⟨F,m⟩:=PE p C;have b:∀q∈insT,q.1≠p.1:=fun q V e=>l (By.2 ⟨q,V,e⟩);refine⟨h.ds,h.ext.Q k,by rw[Ca U];exact h.p1,by rw[Ca U];exact h.p2,by rw[Ca U];exact h.p3,by rw[Ca U];exact h.p4,by rw[Ca U];exact h.p5,?_,?_,?_,?_,?_,?_⟩
 ·intro q V S;by_cases e:q.1=p.1
  ·rw[rB V C e,PX]
  ·rw[Ca (fun u=>e (by rw[oP V C u]))];exact h.vals q V (by rw[Dj e]at S;exact S)
 ·intro q V S;rw[Dj (b q V)]at S;show(0==p.1||L 0)=true;rw[Dj (FE c)];exact h.ord q V S
 ·intro S;rw[Dj (FE c)]at S;obtain⟨r,M,g,u,N,n⟩:=h.map S;refine⟨r,M,by rw[Ca U];exact g,u,N.E k O,fun a v=>?_⟩;rw[n];constructor
  ·rintro⟨q,V,Z,W⟩;exact⟨q,V,by rw[Dj (b q V)];exact Z,W⟩
  ·rintro⟨q,V,Z,W⟩;rw[Dj (b q V)]at Z;exact⟨q,V,Z,W⟩
 ·intro S;rw[Dj (FE d)]at S;show(0==p.1||L 0)=true;rw[Dj (FE c)];exact h.ord65 S
 ·intro S;rw[Dj (FE d)]at S;rw[Ca U,Ca U];exact h.l65 S
 ·intro S;rw[Dj (FE i)]at S;rw[Ca U,Ca U,Dj (FE d)];exact h.l66 S
def bX(h:StyInv b1 b2 wd ds0 L f ds w)(k:Ext w w')(m:VMap w' w.heap.size [])(b:L 0=false):StyInv b1 b2 wd ds0 (fun j=>j==0||L j) (upd f 8 (.map (some w.heap.size))) ds w':=by
 have z:∀q∈insT,L q.1=false:=fun q V=>by
  cases S:L q.1 with
  |false=>rfl
  |true=>rw[h.ord q V S]at b;cases b
 refine⟨h.ds,h.ext.Q k,by rw[Ca U];exact h.p1,by rw[Ca U];exact h.p2,by rw[Ca U];exact h.p3,by rw[Ca U];exact h.p4,by rw[Ca U];exact h.p5,?_,?_,?_,fun _=>Pm 0,?_,?_⟩
 ·intro q V S;obtain⟨n,c,_⟩:=NI q V;obtain⟨F,d⟩:=PE q V;rw[Ca U];exact h.vals q V (by rw[Dj c]at S;exact S)
 ·intro q V S;exact Pm 0
 ·intro S;refine⟨w.heap.size,[],PX _ _ _,h.ext.size,m,fun a v=>⟨fun h=>(by cases h),?_⟩⟩;rintro⟨q,V,Z,W⟩;obtain⟨n,c,_⟩:=LJ q V;rw[Dj c,z q V]at Z;cases Z
 ·intro S;rw[Dj U]at S;rw[h.ord65 S]at b;cases b
 ·intro S;rw[Dj U]at S;rw[h.ord65 (h.l66 S).2]at b;cases b
def StyInv.none{q:Nat×Int×Value}{M:List (Int×Value)}(h:StyInv b1 b2 wd ds0 L f ds w)(V:q∈insT)(S:L q.1=false)(r:∀k v,(k,v)∈M↔∃p∈insT,L p.1=true/\k=p.2.1/\v=p.2.2):M.lookup q.2.1=none:=by
 refine QK fun p C e=>?_;obtain⟨x,a,Z,W,_⟩:=(r p.1 p.2).1 C;rw[pY a V (by rw[<-W,e]),S]at Z;cases Z
def Eg{q:Nat×Int×Value}{r:Nat}{M:List (Int×Value)}(h:StyInv b1 b2 wd ds0 L f ds w)(V:q∈insT)(B:f 8=.map (some r))(K:wd.heap.size<=r)(g:∀k v,(k,v)∈M↔∃p∈insT,L p.1=true/\k=p.2.1/\v=p.2.2)
  (k:Keep [r] w w')(m:VMap w' r (M++[(q.2.1,q.2.2)]))(d:L 0=true):StyInv b1 b2 wd ds0 (fun j=>j==q.1||L j) f ds w':=by
 obtain⟨n,o,c,i,l⟩:=LJ q V;have s:∀p∈valT,p.1≠q.1:=fun p C e=>l (By.2 ⟨p,C,e⟩);have b:(0==q.1||L 0)=true:=by rw[d];simp
 refine⟨h.ds,h.ext.E k (by simpa using K),h.p1,h.p2,h.p3,h.p4,h.p5,?_,fun _ _ _=>b,?_,fun _=>b,?_,?_⟩
 ·intro p C S;rw[Dj (s p C)]at S;exact h.vals p C S
 ·intro _;refine⟨r,_,B,K,m,fun a v=>?_⟩;rw[DM,g];constructor
  ·rintro(⟨p,C,Z,W,R⟩|Z)
   ·exact⟨p,C,by rw[Z];simp,W,R⟩
   ·simp only[Bj,JB]at Z;exact⟨q,V,Pm _,Z.1,Z.2⟩
  ·rintro⟨p,C,Z,W,R⟩;by_cases e:p.1=q.1
   ·have:=qk C V e;subst this;right;simp[W,R]
   ·rw[Dj e]at Z;exact .inl ⟨p,C,Z,W,R⟩
 ·intro S;rw[Dj (FE c)]at S;exact h.l65 S
 ·intro S;rw[Dj (FE i)]at S;rw[Dj (FE c)];exact h.l66 S
def gy(h:StyInv b1 b2 wd ds0 L f ds w)(b:L 0=true):StyInv b1 b2 wd ds0 (fun j=>j==65||L j) (upd f 54 (f 8)) ds w:=by
 refine⟨h.ds,h.ext,by rw[Ca U];exact h.p1,by rw[Ca U];exact h.p2,by rw[Ca U];exact h.p3,by rw[Ca U];exact h.p4,by rw[Ca U];exact h.p5,?_,?_,?_,?_,?_,?_⟩
 ·intro q V S;obtain⟨e,g,c,_⟩:=NI q V;obtain⟨F,m⟩:=PE q V;rw[Ca U];exact h.vals q V (by rw[Dj c]at S;exact S)
 ·intro q V S;rw[b];rfl
 ·intro _;obtain⟨r,M,d,u,N,n⟩:=h.map b;refine⟨r,M,by rw[Ca U];exact d,u,N,fun a v=>?_⟩;rw[n];constructor
  ·rintro⟨q,V,Z,W⟩;exact⟨q,V,by rw[Z];simp,W⟩
  ·rintro⟨q,V,Z,W⟩;obtain⟨_,_,c,_⟩:=LJ q V;rw[Dj c]at Z;exact⟨q,V,Z,W⟩
 ·intro _;rw[b];rfl
 ·intro _;rw[PX,Ca U]
 ·intro S;rw[Dj U]at S;rw[Ca U,Ca U];exact⟨(h.l66 S).1,Pm 65⟩
def gz(h:StyInv b1 b2 wd ds0 L f ds w)(b:L 65=true):StyInv b1 b2 wd ds0 (fun j=>j==66||L j) (upd f 0 (f 54)) ds w:=by
 have c:=h.ord65 b;refine⟨h.ds,h.ext,by rw[Ca U];exact h.p1,by rw[Ca U];exact h.p2,by rw[Ca U];exact h.p3,by rw[Ca U];exact h.p4,by rw[Ca U];exact h.p5,?_,?_,?_,?_,?_,?_⟩
 ·intro q V S;obtain⟨g,i,k,e,_⟩:=NI q V;obtain⟨F,m⟩:=PE q V;rw[Ca U];exact h.vals q V (by rw[Dj e]at S;exact S)
 ·intro q V S;rw[c];rfl
 ·intro _;obtain⟨r,M,d,u,N,n⟩:=h.map c;refine⟨r,M,by rw[Ca U];exact d,u,N,fun a v=>?_⟩;rw[n];constructor
  ·rintro⟨q,V,Z,W⟩;exact⟨q,V,by rw[Z];simp,W⟩
  ·rintro⟨q,V,Z,W⟩;obtain⟨_,_,_,e,_⟩:=LJ q V;rw[Dj e]at Z;exact⟨q,V,Z,W⟩
 ·intro _;rw[c];rfl
 ·intro _;rw[Ca U,Ca U];exact h.l65 b
 ·intro S;rw[PX,Ca U,h.l65 b,b];exact⟨rfl,by simp⟩
end
section
attribute [local semireducible] WC AF CO B0 Cx B8 Cc CB
variable {P:Program}{all:Array Oper}{Z:Fr->DS->List PanicEntry->World->Prop}{K:Fr->DS->World->Prop}{rest:List Oper}{f:Fr}{ds:DS}{w:World}{d:Nat}{ty:TypeId}{pos:String}{af:Array Edge}
def Ft{x:Operand}{v:Value}(V:ev f x=v)(h:AF P all Z K rest (upd f d v) ds w):AF P all Z K (⟨some d,.move x,ty,pos,af,none⟩::rest) f ds w:=by
 subst V;exact GQ h
def Gh{x:Operand}{l:List Operand}{v:Value}{vs:LV}(h:ev f x=v)(Q:evL f l=vs):evL f (x::l)=v::vs:=by
 subst h;subst Q;rfl
end
def BK{o:Oper}{L:Nat->Bool}{j:Nat}(h:(o.after.toList.any fun e=>Nat.beq e.on j&&Region.binds .any e)=true)(b:∀e∈o.after.toList,Region.binds .any e=true->L e.on=true):L j=true:=by
 obtain⟨e,B,W⟩:=Ia.1 h;simp only[AZ]at W;have R:e.on=j:=P9 W.1;rw[<-R];exact b e B W.2
def XS:∀p∈insT,(Bh p.2.1).map BM=some p.2.2:=by
 intro p C;simp only[insT,BI,FA,FD]at C;rcases C with rfl|rfl|rfl|rfl|rfl|rfl|rfl|rfl|rfl|rfl|rfl|rfl|rfl|rfl|rfl|rfl|rfl|rfl|rfl<;>rfl
def oH{op:Int}{s:Sty}(h:Bh op=some s):∃p∈insT,p.2.1=op:=by
 rcases J3 h with rfl|rfl|rfl|rfl|rfl|rfl|rfl|rfl|rfl|rfl|rfl|rfl|rfl|rfl|rfl|rfl|rfl|rfl|rfl
 ·exact⟨(2,1,AY 1),by simp[insT],rfl⟩
 ·exact⟨(4,2,AY 2),by simp[insT],rfl⟩
 ·exact⟨(6,3,AY 3),by simp[insT],rfl⟩
 ·exact⟨(10,4,AY 4),by simp[insT],rfl⟩
 ·exact⟨(12,5,AY 5),by simp[insT],rfl⟩
 ·exact⟨(14,6,AY 6),by simp[insT],rfl⟩
 ·exact⟨(16,7,AY 7),by simp[insT],rfl⟩
 ·exact⟨(20,8,AY 8),by simp[insT],rfl⟩
 ·exact⟨(24,9,AY 9),by simp[insT],rfl⟩
 ·exact⟨(28,10,AY 10),by simp[insT],rfl⟩
 ·exact⟨(32,11,AY 11),by simp[insT],rfl⟩
 ·exact⟨(36,12,AY 12),by simp[insT],rfl⟩
 ·exact⟨(40,13,AY 13),by simp[insT],rfl⟩
 ·exact⟨(44,14,AY 14),by simp[insT],rfl⟩
 ·exact⟨(48,15,AY 15),by simp[insT],rfl⟩
 ·exact⟨(52,16,AY 16),by simp[insT],rfl⟩
 ·exact⟨(56,17,AY 17),by simp[insT],rfl⟩
 ·exact⟨(60,18,AY 18),by simp[insT],rfl⟩
 ·exact⟨(64,19,AY 19),by simp[insT],rfl⟩
def StyM(w:World)(r:Nat):Prop:=∃M,VMap w r M/\∀a,M.lookup a=(Bh a).map BM
def StyM.E{X:List Nat}{w w':World}{r:Nat}(h:StyM w r)(k:Keep X w w')(B:r∉X):StyM w' r:=by
 obtain⟨M,a,W⟩:=h;exact⟨M,a.E k B,W⟩
set_option maxHeartbeats 6400000 in
set_option maxRecDepth 20000 in
def hO(w:World):Fn Zp 102 [] w fun v w'=>∃r,v=.map (some r)/\Ext w w'/\w.heap.size<=r/\StyM w' r:=by
 refine AM func102 rfl ntmps102 (go ?_);refine CL (cs:=Bz pfx) rfl rfl rF (Kw _) (fun Q D=>AB (go ?_));refine CL (cs:=Bz ifx) rfl rfl rF (Kw _) (fun I R=>AB (go ?_));have m:Ext w I:=D.E.Q R.E;have l:Blk I w.heap.size 163 (Bz pfx):=D.D.E R.E O;have B2:Blk I Q.heap.size 163 (Bz ifx):=R.D;refine qI (StyInv w.heap.size Q.heap.size I []) AX rD ?_ ?_ ?_
 ·intro w3 k3 N;refine⟨rfl,k3,rfl,rfl,rfl,rfl,rfl,fun p C S=>?_,fun p C S=>?_,fun S=>(by cases S),fun S=>(by cases S),fun S=>(by cases S),fun S=>(by cases S)⟩
  ·have:=(NI p C).1;have X:Nat.blt p.1 67=true:=by rw[Ip];exact this
   have S:(!Nat.blt p.1 67)=true:=S;rw[X]at S;cases S
  ·have:=(LJ p C).1;have X:Nat.blt p.1 67=true:=by rw[Ip];exact this
   have S:(!Nat.blt p.1 67)=true:=S;rw[X]at S;cases S
 ·intro L f ds w i o E a S g;have H:Blk I _ 163 (Bz pfx):=l;have c:Blk I _ 163 (Bz ifx):=B2;have a1:i<67:=(Ah.1 a).1
  match i,a1,a,S,g with
  |0,_,a,S,g=>
   obtain rfl:=Ae a;refine Nq (fun Q h G z=>AB ?_);exact bX E h z S
  |1,_,a,S,g=>
   obtain rfl:=Ae a;refine DB (vs:=_) (out:=Bz (KT 1)) rfl rD (go ?_);exact Bv (p:=(1,9,AY 1)) E rJ (Ext.refl _)
  |2,_,a,S,g=>
   obtain rfl:=Ae a;have t:L 0=true:=BK (j:=0) rD g;have k:L 1=true:=BK (j:=1) rD g;obtain⟨r,M,B,A,F,u⟩:=E.map t;refine Bd (x:=1) (y:=AY 1) B rfl (E.vals (1,9,AY 1) rJ k) F (E.none (q:=(2,1,AY 1)) rM S u) (fun Q h G z=>AB ?_);exact Eg (q:=(2,1,AY 1)) E rM B A u h z t
  |3,_,a,S,g=>
   obtain rfl:=Ae a;refine DB (vs:=_) (out:=Bz (KT 2)) rfl rD (go ?_);exact Bv (p:=(3,10,AY 2)) E rJ (Ext.refl _)
  |4,_,a,S,g=>
   obtain rfl:=Ae a;have t:L 0=true:=BK (j:=0) rD g;have k:L 3=true:=BK (j:=3) rD g;obtain⟨r,M,B,A,F,u⟩:=E.map t;refine Bd (x:=2) (y:=AY 2) B rfl (E.vals (3,10,AY 2) rJ k) F (E.none (q:=(4,2,AY 2)) rM S u) (fun Q h G z=>AB ?_);exact Eg (q:=(4,2,AY 2)) E rM B A u h z t
  |5,_,a,S,g=>
   obtain rfl:=Ae a;refine DB (vs:=_) (out:=Bz (KT 3)) rfl rD (go ?_);exact Bv (p:=(5,11,AY 3)) E rJ (Ext.refl _)
  |6,_,a,S,g=>
   obtain rfl:=Ae a;have t:L 0=true:=BK (j:=0) rD g;have k:L 5=true:=BK (j:=5) rD g;obtain⟨r,M,B,A,F,u⟩:=E.map t;refine Bd (x:=3) (y:=AY 3) B rfl (E.vals (5,11,AY 3) rJ k) F (E.none (q:=(6,3,AY 3)) rM S u) (fun Q h G z=>AB ?_);exact Eg (q:=(6,3,AY 3)) E rM B A u h z t
  |7,_,a,S,g=>
   obtain rfl:=Ae a;refine Ft (v:=fn1) E.p3 (go ?_);exact Bv (p:=(7,12,fn1)) E rJ (Ext.refl _)
  |8,_,a,S,g=>
   obtain rfl:=Ae a;refine Cu E.p1 (H.E E.ext O) rfl (go ?_);exact Bv (p:=(8,13,BM pfx)) E rJ (Ext.refl _)
  |9,_,a,S,g=>
   obtain rfl:=Ae a;have k:L 7=true:=BK (j:=7) rD g;have W:L 8=true:=BK (j:=8) rD g;refine Bg (v1:=[]) (v2:=[]) (vs:=[BM pfx,AA [33]]) (E.vals (7,12,fn1) rJ k) (JG w pfx _) (Gh (E.vals (8,13,BM pfx) rJ W) rfl) ?_;rintro _ Q⟨rfl,h⟩;refine go ?_;exact Bv (p:=(9,14,AY 4)) E rJ h
  |10,_,a,S,g=>
   obtain rfl:=Ae a;have t:L 0=true:=BK (j:=0) rD g;have k:L 9=true:=BK (j:=9) rD g;obtain⟨r,M,B,A,F,u⟩:=E.map t;refine Bd (x:=4) (y:=AY 4) B rfl (E.vals (9,14,AY 4) rJ k) F (E.none (q:=(10,4,AY 4)) rM S u) (fun Q h G z=>AB ?_);exact Eg (q:=(10,4,AY 4)) E rM B A u h z t
  |11,_,a,S,g=>
   obtain rfl:=Ae a;refine DB (vs:=_) (out:=Bz (KT 5)) rfl rD (go ?_);exact Bv (p:=(11,15,AY 5)) E rJ (Ext.refl _)
  |12,_,a,S,g=>
   obtain rfl:=Ae a;have t:L 0=true:=BK (j:=0) rD g;have k:L 11=true:=BK (j:=11) rD g;obtain⟨r,M,B,A,F,u⟩:=E.map t;refine Bd (x:=5) (y:=AY 5) B rfl (E.vals (11,15,AY 5) rJ k) F (E.none (q:=(12,5,AY 5)) rM S u) (fun Q h G z=>AB ?_);exact Eg (q:=(12,5,AY 5)) E rM B A u h z t
  |13,_,a,S,g=>
   obtain rfl:=Ae a;refine DB (vs:=_) (out:=Bz (KT 6)) rfl rD (go ?_);exact Bv (p:=(13,16,AY 6)) E rJ (Ext.refl _)
  |14,_,a,S,g=>
   obtain rfl:=Ae a;have t:L 0=true:=BK (j:=0) rD g;have k:L 13=true:=BK (j:=13) rD g;obtain⟨r,M,B,A,F,u⟩:=E.map t;refine Bd (x:=6) (y:=AY 6) B rfl (E.vals (13,16,AY 6) rJ k) F (E.none (q:=(14,6,AY 6)) rM S u) (fun Q h G z=>AB ?_);exact Eg (q:=(14,6,AY 6)) E rM B A u h z t
  |15,_,a,S,g=>
   obtain rfl:=Ae a;refine DB (vs:=_) (out:=Bz (KT 7)) rfl rD (go ?_);exact Bv (p:=(15,17,AY 7)) E rJ (Ext.refl _)
  |16,_,a,S,g=>
   obtain rfl:=Ae a;have t:L 0=true:=BK (j:=0) rD g;have k:L 15=true:=BK (j:=15) rD g;obtain⟨r,M,B,A,F,u⟩:=E.map t;refine Bd (x:=7) (y:=AY 7) B rfl (E.vals (15,17,AY 7) rJ k) F (E.none (q:=(16,7,AY 7)) rM S u) (fun Q h G z=>AB ?_);exact Eg (q:=(16,7,AY 7)) E rM B A u h z t
  |17,_,a,S,g=>
   obtain rfl:=Ae a;refine Ft (v:=fn1) E.p3 (go ?_);exact Bv (p:=(17,18,fn1)) E rJ (Ext.refl _)
  |18,_,a,S,g=>
   obtain rfl:=Ae a;refine Cu E.p1 (H.E E.ext O) rfl (go ?_);exact Bv (p:=(18,19,BM pfx)) E rJ (Ext.refl _)
  |19,_,a,S,g=>
   obtain rfl:=Ae a;have k:L 17=true:=BK (j:=17) rD g;have W:L 18=true:=BK (j:=18) rD g;refine Bg (v1:=[]) (v2:=[]) (vs:=[BM pfx,AA [88,32]]) (E.vals (17,18,fn1) rJ k) (JG w pfx _) (Gh (E.vals (18,19,BM pfx) rJ W) rfl) ?_;rintro _ Q⟨rfl,h⟩;refine go ?_;exact Bv (p:=(19,20,AY 8)) E rJ h
  |20,_,a,S,g=>
   obtain rfl:=Ae a;have t:L 0=true:=BK (j:=0) rD g;have k:L 19=true:=BK (j:=19) rD g;obtain⟨r,M,B,A,F,u⟩:=E.map t;refine Bd (x:=8) (y:=AY 8) B rfl (E.vals (19,20,AY 8) rJ k) F (E.none (q:=(20,8,AY 8)) rM S u) (fun Q h G z=>AB ?_);exact Eg (q:=(20,8,AY 8)) E rM B A u h z t
  |21,_,a,S,g=>
   obtain rfl:=Ae a;refine Ft (v:=fn1) E.p3 (go ?_);exact Bv (p:=(21,21,fn1)) E rJ (Ext.refl _)
  |22,_,a,S,g=>
   obtain rfl:=Ae a;refine Cu E.p2 (c.E E.ext O) rfl (go ?_);exact Bv (p:=(22,22,BM ifx)) E rJ (Ext.refl _)
  |23,_,a,S,g=>
   obtain rfl:=Ae a;have k:L 21=true:=BK (j:=21) rD g;have W:L 22=true:=BK (j:=22) rD g;refine Bg (v1:=[]) (v2:=[]) (vs:=[BM ifx,AA [32,85,32]]) (E.vals (21,21,fn1) rJ k) (JG w ifx _) (Gh (E.vals (22,22,BM ifx) rJ W) rfl) ?_;rintro _ Q⟨rfl,h⟩;refine go ?_;exact Bv (p:=(23,23,AY 9)) E rJ h
  |24,_,a,S,g=>
   obtain rfl:=Ae a;have t:L 0=true:=BK (j:=0) rD g;have k:L 23=true:=BK (j:=23) rD g;obtain⟨r,M,B,A,F,u⟩:=E.map t;refine Bd (x:=9) (y:=AY 9) B rfl (E.vals (23,23,AY 9) rJ k) F (E.none (q:=(24,9,AY 9)) rM S u) (fun Q h G z=>AB ?_);exact Eg (q:=(24,9,AY 9)) E rM B A u h z t
  |25,_,a,S,g=>
   obtain rfl:=Ae a;refine Ft (v:=fn1) E.p3 (go ?_);exact Bv (p:=(25,24,fn1)) E rJ (Ext.refl _)
  |26,_,a,S,g=>
   obtain rfl:=Ae a;refine Cu E.p2 (c.E E.ext O) rfl (go ?_);exact Bv (p:=(26,25,BM ifx)) E rJ (Ext.refl _)
  |27,_,a,S,g=>
   obtain rfl:=Ae a;have k:L 25=true:=BK (j:=25) rD g;have W:L 26=true:=BK (j:=26) rD g;refine Bg (v1:=[]) (v2:=[]) (vs:=[BM ifx,AA [32,82,32]]) (E.vals (25,24,fn1) rJ k) (JG w ifx _) (Gh (E.vals (26,25,BM ifx) rJ W) rfl) ?_;rintro _ Q⟨rfl,h⟩;refine go ?_;exact Bv (p:=(27,26,AY 10)) E rJ h
  |28,_,a,S,g=>
   obtain rfl:=Ae a;have t:L 0=true:=BK (j:=0) rD g;have k:L 27=true:=BK (j:=27) rD g;obtain⟨r,M,B,A,F,u⟩:=E.map t;refine Bd (x:=10) (y:=AY 10) B rfl (E.vals (27,26,AY 10) rJ k) F (E.none (q:=(28,10,AY 10)) rM S u) (fun Q h G z=>AB ?_);exact Eg (q:=(28,10,AY 10)) E rM B A u h z t
  |29,_,a,S,g=>
   obtain rfl:=Ae a;refine Ft (v:=fn1) E.p3 (go ?_);exact Bv (p:=(29,27,fn1)) E rJ (Ext.refl _)
  |30,_,a,S,g=>
   obtain rfl:=Ae a;refine Cu E.p1 (H.E E.ext O) rfl (go ?_);exact Bv (p:=(30,28,BM pfx)) E rJ (Ext.refl _)
  |31,_,a,S,g=>
   obtain rfl:=Ae a;have k:L 29=true:=BK (j:=29) rD g;have W:L 30=true:=BK (j:=30) rD g;refine Bg (v1:=[]) (v2:=[]) (vs:=[BM pfx,AA [70,32]]) (E.vals (29,27,fn1) rJ k) (JG w pfx _) (Gh (E.vals (30,28,BM pfx) rJ W) rfl) ?_;rintro _ Q⟨rfl,h⟩;refine go ?_;exact Bv (p:=(31,29,AY 11)) E rJ h
  |32,_,a,S,g=>
   obtain rfl:=Ae a;have t:L 0=true:=BK (j:=0) rD g;have k:L 31=true:=BK (j:=31) rD g;obtain⟨r,M,B,A,F,u⟩:=E.map t;refine Bd (x:=11) (y:=AY 11) B rfl (E.vals (31,29,AY 11) rJ k) F (E.none (q:=(32,11,AY 11)) rM S u) (fun Q h G z=>AB ?_);exact Eg (q:=(32,11,AY 11)) E rM B A u h z t
  |33,_,a,S,g=>
   obtain rfl:=Ae a;refine Ft (v:=fn1) E.p3 (go ?_);exact Bv (p:=(33,30,fn1)) E rJ (Ext.refl _)
  |34,_,a,S,g=>
   obtain rfl:=Ae a;refine Cu E.p1 (H.E E.ext O) rfl (go ?_);exact Bv (p:=(34,31,BM pfx)) E rJ (Ext.refl _)
  |35,_,a,S,g=>
   obtain rfl:=Ae a;have k:L 33=true:=BK (j:=33) rD g;have W:L 34=true:=BK (j:=34) rD g;refine Bg (v1:=[]) (v2:=[]) (vs:=[BM pfx,AA [71,32]]) (E.vals (33,30,fn1) rJ k) (JG w pfx _) (Gh (E.vals (34,31,BM pfx) rJ W) rfl) ?_;rintro _ Q⟨rfl,h⟩;refine go ?_;exact Bv (p:=(35,32,AY 12)) E rJ h
  |36,_,a,S,g=>
   obtain rfl:=Ae a;have t:L 0=true:=BK (j:=0) rD g;have k:L 35=true:=BK (j:=35) rD g;obtain⟨r,M,B,A,F,u⟩:=E.map t;refine Bd (x:=12) (y:=AY 12) B rfl (E.vals (35,32,AY 12) rJ k) F (E.none (q:=(36,12,AY 12)) rM S u) (fun Q h G z=>AB ?_);exact Eg (q:=(36,12,AY 12)) E rM B A u h z t
  |37,_,a,S,g=>
   obtain rfl:=Ae a;refine Ft (v:=fn3) E.p5 (go ?_);exact Bv (p:=(37,33,fn3)) E rJ (Ext.refl _)
  |38,_,a,S,g=>
   obtain rfl:=Ae a;refine Cu E.p1 (H.E E.ext O) rfl (go ?_);exact Bv (p:=(38,34,BM pfx)) E rJ (Ext.refl _)
  |39,_,a,S,g=>
   obtain rfl:=Ae a;have k:L 37=true:=BK (j:=37) rD g;have W:L 38=true:=BK (j:=38) rD g;refine Bg (v1:=[]) (v2:=[]) (vs:=[BM pfx,AA [70,91]]) (E.vals (37,33,fn3) rJ k) (Tq w pfx _) (Gh (E.vals (38,34,BM pfx) rJ W) rfl) ?_;rintro _ Q⟨rfl,h⟩;refine go ?_;exact Bv (p:=(39,35,AY 13)) E rJ h
  |40,_,a,S,g=>
   obtain rfl:=Ae a;have t:L 0=true:=BK (j:=0) rD g;have k:L 39=true:=BK (j:=39) rD g;obtain⟨r,M,B,A,F,u⟩:=E.map t;refine Bd (x:=13) (y:=AY 13) B rfl (E.vals (39,35,AY 13) rJ k) F (E.none (q:=(40,13,AY 13)) rM S u) (fun Q h G z=>AB ?_);exact Eg (q:=(40,13,AY 13)) E rM B A u h z t
  |41,_,a,S,g=>
   obtain rfl:=Ae a;refine Ft (v:=fn3) E.p5 (go ?_);exact Bv (p:=(41,36,fn3)) E rJ (Ext.refl _)
  |42,_,a,S,g=>
   obtain rfl:=Ae a;refine Cu E.p1 (H.E E.ext O) rfl (go ?_);exact Bv (p:=(42,37,BM pfx)) E rJ (Ext.refl _)
  |43,_,a,S,g=>
   obtain rfl:=Ae a;have k:L 41=true:=BK (j:=41) rD g;have W:L 42=true:=BK (j:=42) rD g;refine Bg (v1:=[]) (v2:=[]) (vs:=[BM pfx,AA [71,91]]) (E.vals (41,36,fn3) rJ k) (Tq w pfx _) (Gh (E.vals (42,37,BM pfx) rJ W) rfl) ?_;rintro _ Q⟨rfl,h⟩;refine go ?_;exact Bv (p:=(43,38,AY 14)) E rJ h
  |44,_,a,S,g=>
   obtain rfl:=Ae a;have t:L 0=true:=BK (j:=0) rD g;have k:L 43=true:=BK (j:=43) rD g;obtain⟨r,M,B,A,F,u⟩:=E.map t;refine Bd (x:=14) (y:=AY 14) B rfl (E.vals (43,38,AY 14) rJ k) F (E.none (q:=(44,14,AY 14)) rM S u) (fun Q h G z=>AB ?_);exact Eg (q:=(44,14,AY 14)) E rM B A u h z t
  |45,_,a,S,g=>
   obtain rfl:=Ae a;refine Ft (v:=fn2) E.p4 (go ?_);exact Bv (p:=(45,39,fn2)) E rJ (Ext.refl _)
  |46,_,a,S,g=>
   obtain rfl:=Ae a;refine Cu E.p1 (H.E E.ext O) rfl (go ?_);exact Bv (p:=(46,40,BM pfx)) E rJ (Ext.refl _)
  |47,_,a,S,g=>
   obtain rfl:=Ae a;have k:L 45=true:=BK (j:=45) rD g;have W:L 46=true:=BK (j:=46) rD g;refine Bg (v1:=[]) (v2:=[]) (vs:=[BM pfx,AA [89,32],iV 1,iV 0]) (E.vals (45,39,fn2) rJ k) (RC w pfx _ 1 0) (Gh (E.vals (46,40,BM pfx) rJ W) rfl) ?_;rintro _ Q⟨rfl,h⟩;refine go ?_;exact Bv (p:=(47,41,AY 15)) E rJ h
  |48,_,a,S,g=>
   obtain rfl:=Ae a;have t:L 0=true:=BK (j:=0) rD g;have k:L 47=true:=BK (j:=47) rD g;obtain⟨r,M,B,A,F,u⟩:=E.map t;refine Bd (x:=15) (y:=AY 15) B rfl (E.vals (47,41,AY 15) rJ k) F (E.none (q:=(48,15,AY 15)) rM S u) (fun Q h G z=>AB ?_);exact Eg (q:=(48,15,AY 15)) E rM B A u h z t
  |49,_,a,S,g=>
   obtain rfl:=Ae a;refine Ft (v:=fn2) E.p4 (go ?_);exact Bv (p:=(49,42,fn2)) E rJ (Ext.refl _)
  |50,_,a,S,g=>
   obtain rfl:=Ae a;refine Cu E.p2 (c.E E.ext O) rfl (go ?_);exact Bv (p:=(50,43,BM ifx)) E rJ (Ext.refl _)
  |51,_,a,S,g=>
   obtain rfl:=Ae a;have k:L 49=true:=BK (j:=49) rD g;have W:L 50=true:=BK (j:=50) rD g;refine Bg (v1:=[]) (v2:=[]) (vs:=[BM ifx,AA [32,83],iV 9999,iV 0]) (E.vals (49,42,fn2) rJ k) (RC w ifx _ 9999 0) (Gh (E.vals (50,43,BM ifx) rJ W) rfl) ?_;rintro _ Q⟨rfl,h⟩;refine go ?_;exact Bv (p:=(51,44,AY 16)) E rJ h
  |52,_,a,S,g=>
   obtain rfl:=Ae a;have t:L 0=true:=BK (j:=0) rD g;have k:L 51=true:=BK (j:=51) rD g;obtain⟨r,M,B,A,F,u⟩:=E.map t;refine Bd (x:=16) (y:=AY 16) B rfl (E.vals (51,44,AY 16) rJ k) F (E.none (q:=(52,16,AY 16)) rM S u) (fun Q h G z=>AB ?_);exact Eg (q:=(52,16,AY 16)) E rM B A u h z t
  |53,_,a,S,g=>
   obtain rfl:=Ae a;refine Ft (v:=fn2) E.p4 (go ?_);exact Bv (p:=(53,45,fn2)) E rJ (Ext.refl _)
  |54,_,a,S,g=>
   obtain rfl:=Ae a;refine Cu E.p2 (c.E E.ext O) rfl (go ?_);exact Bv (p:=(54,46,BM ifx)) E rJ (Ext.refl _)
  |55,_,a,S,g=>
   obtain rfl:=Ae a;have k:L 53=true:=BK (j:=53) rD g;have W:L 54=true:=BK (j:=54) rD g;refine Bg (v1:=[]) (v2:=[]) (vs:=[BM ifx,AA [32,84],iV 9999,iV 1]) (E.vals (53,45,fn2) rJ k) (RC w ifx _ 9999 1) (Gh (E.vals (54,46,BM ifx) rJ W) rfl) ?_;rintro _ Q⟨rfl,h⟩;refine go ?_;exact Bv (p:=(55,47,AY 17)) E rJ h
  |56,_,a,S,g=>
   obtain rfl:=Ae a;have t:L 0=true:=BK (j:=0) rD g;have k:L 55=true:=BK (j:=55) rD g;obtain⟨r,M,B,A,F,u⟩:=E.map t;refine Bd (x:=17) (y:=AY 17) B rfl (E.vals (55,47,AY 17) rJ k) F (E.none (q:=(56,17,AY 17)) rM S u) (fun Q h G z=>AB ?_);exact Eg (q:=(56,17,AY 17)) E rM B A u h z t
  |57,_,a,S,g=>
   obtain rfl:=Ae a;refine Ft (v:=fn1) E.p3 (go ?_);exact Bv (p:=(57,48,fn1)) E rJ (Ext.refl _)
  |58,_,a,S,g=>
   obtain rfl:=Ae a;refine Cu E.p1 (H.E E.ext O) rfl (go ?_);exact Bv (p:=(58,49,BM pfx)) E rJ (Ext.refl _)
  |59,_,a,S,g=>
   obtain rfl:=Ae a;have k:L 57=true:=BK (j:=57) rD g;have W:L 58=true:=BK (j:=58) rD g;refine Bg (v1:=[]) (v2:=[]) (vs:=[BM pfx,AA [79,32]]) (E.vals (57,48,fn1) rJ k) (JG w pfx _) (Gh (E.vals (58,49,BM pfx) rJ W) rfl) ?_;rintro _ Q⟨rfl,h⟩;refine go ?_;exact Bv (p:=(59,50,AY 18)) E rJ h
  |60,_,a,S,g=>
   obtain rfl:=Ae a;have t:L 0=true:=BK (j:=0) rD g;have k:L 59=true:=BK (j:=59) rD g;obtain⟨r,M,B,A,F,u⟩:=E.map t;refine Bd (x:=18) (y:=AY 18) B rfl (E.vals (59,50,AY 18) rJ k) F (E.none (q:=(60,18,AY 18)) rM S u) (fun Q h G z=>AB ?_);exact Eg (q:=(60,18,AY 18)) E rM B A u h z t
  |61,_,a,S,g=>
   obtain rfl:=Ae a;refine Ft (v:=fn1) E.p3 (go ?_);exact Bv (p:=(61,51,fn1)) E rJ (Ext.refl _)
  |62,_,a,S,g=>
   obtain rfl:=Ae a;refine Cu E.p1 (H.E E.ext O) rfl (go ?_);exact Bv (p:=(62,52,BM pfx)) E rJ (Ext.refl _)
  |63,_,a,S,g=>
   obtain rfl:=Ae a;have k:L 61=true:=BK (j:=61) rD g;have W:L 62=true:=BK (j:=62) rD g;refine Bg (v1:=[]) (v2:=[]) (vs:=[BM pfx,AA [72,32]]) (E.vals (61,51,fn1) rJ k) (JG w pfx _) (Gh (E.vals (62,52,BM pfx) rJ W) rfl) ?_;rintro _ Q⟨rfl,h⟩;refine go ?_;exact Bv (p:=(63,53,AY 19)) E rJ h
  |64,_,a,S,g=>
   obtain rfl:=Ae a;have t:L 0=true:=BK (j:=0) rD g;have k:L 63=true:=BK (j:=63) rD g;obtain⟨r,M,B,A,F,u⟩:=E.map t;refine Bd (x:=19) (y:=AY 19) B rfl (E.vals (63,53,AY 19) rJ k) F (E.none (q:=(64,19,AY 19)) rM S u) (fun Q h G z=>AB ?_);exact Eg (q:=(64,19,AY 19)) E rM B A u h z t
  |65,_,a,S,g=>
   obtain rfl:=Ae a;have t:L 0=true:=BK (j:=0) rD g;refine Ft (v:=f 8) rfl (go ?_);exact gy E t
  |66,_,a,S,g=>
   obtain rfl:=Ae a;have t:L 65=true:=BK (j:=65) rD g;refine AT ?_;refine Ft (v:=f 54) rfl (AB ?_);exact gz E t
 ·intro L f ds w E b;obtain⟨a0,_⟩:=E.l66 (b 66 rI);obtain⟨r,M,e1,e2,N,n⟩:=E.map (b 0 rI);refine go ?_;obtain rfl:=E.ds;refine AC rfl ⟨r,by rw[a0,e1],m.Q E.ext,Az m.size e2,M,N,fun op=>?_⟩;cases hs:Bh op with
  |none=>
   refine QK fun p C e=>?_;obtain⟨q,V,_,W,_⟩:=(n p.1 p.2).1 C;have:=XS q V;rw[<-W,e,hs]at this;cases this
  |some s=>
   obtain⟨q,V,hk⟩:=oH hs;have T:=XS q V;rw[hk,hs]at T;have T:BM s=q.2.2:=Ae T;have u:(op,BM s)∈M:=(n _ _).2 ⟨q,V,b _ (LJ q V).1,hk.symm,T⟩;exact UI (Ny N) u
end
section
variable {mk:Prop}[MK mk]
end
structure GP(w:World):Prop where
 gk:GK w
 pow:Lib.TabIs Zp w "internal/strconv.uint64pow10" .u64 Lib.pow10Tab
def gJ{w:World}(h:Lib.TabIs Zp w "internal/strconv.uint64pow10" .u64 Lib.pow10Tab):∃g,Tryz.prog.globalNamed "internal/strconv.uint64pow10" =some g/\g<10/\g<w.heap.size:=by
 have y:Tryz.prog.globalNamed "internal/strconv.uint64pow10" =some 6:=by kernel_rfl
 refine⟨_,y,by decide,?_⟩;unfold Lib.TabIs World.var? at h;rw[y]at h;simp only[Qm]at h
 split at h
 ·rename_i heq;exact(FM.1 heq).1
 ·cases h
def GP.E{X:List Nat}{w w':World}(h:GP w)(k:Keep X w w')(T:∀x∈X,10<=x):GP w':=by
 refine⟨h.gk.E k T,?_⟩;obtain⟨g,y,Z,W⟩:=gJ h.pow;have C:=h.pow;unfold Lib.TabIs World.var? at C⊢;rw[y]at C⊢;simp only[Qm]at C⊢;rw[k.block g W (fun V=>by have:=T _ V;omega)];exact C
def GP.ext{w w':World}(h:GP w)(k:Ext w w'):GP w':=h.E k fun x V=>by cases V
def eM{w:World}{k:Nat}{s:Array Obj}:Ext w (Go.Sort.grow (w.drewN k) s):=by
 refine⟨rfl,rfl,rfl,by simp[Go.Sort.grow,World.drewN],fun b S _=>?_,fun h=>h.elim,?_⟩
 ·simp only[Go.Sort.grow,World.drewN];rw[TL S]
 ·simp[Go.Sort.grow,World.drewN]
def fO{n:Int}(h:0<=n):Lib.itoa n=Br n:=by
 unfold Lib.itoa Br;rw[AG U]
 have:∀(m k:Nat),k<=m->Lib.decDigits k=DW k:=by
  intro m
  induction m with
  |zero=>
   intro k P;rw[Lib.decDigits,dif_pos U,HJ U]
  |succ m ih=>
   intro k P;by_cases Z:k<10
   ·rw[Lib.decDigits,dif_pos Z,HJ Z]
   ·rw[Lib.decDigits,dif_neg Z,Jz U,ih (k/10) U]
 exact this _ _ (AO _)
def ml(w:World)(n:Int)(a:0<=n)(Z:n<=9999)(z:GP w):Fn Zp 198 [iV n] w fun v w'=>v=AA (Br n)/\Ext w w':=by
 refine Gg (Tryz.strconv_Itoa n U U w z.pow) ?_;rintro e w'⟨rfl,k,s,rfl⟩;rw[fO a];exact⟨rfl,eM⟩
def unp:List PanicEntry:=[{v:=.iface 229 (.agg #[]),recovered:=false}]
def Eh(w:World)(b:Bool):FnP Zp 103 [.bool b] w (fun v w'=>v=.tuple #[]/\b=true/\w'=w) (fun y w'=>y=unp/\b=false/\w'=w):=by
 refine CK func103 rfl ntmps103 nlr rD (go ?_);cases b with
 |true=>
  refine go ?_;exact Bt rfl ⟨rfl,rfl,rfl⟩
 |false=>
  refine nX ?_;(refine AN (DB rF rF ?_)<;>refine GN (Gj rfl ?_))
  refine nX ?_;exact Ap ⟨rfl,rfl,rfl⟩
def Mc(w:World)(s:LU)(z:GK w):FnP Zp 88 [AA s] w (fun v w'=>v=AA s/\BP s=true/\w'=w) (fun y w'=>y=unp/\BP s=false/\w'=w):=by
 refine CK func88 rfl ntmps88 nlr rD ?_;refine gC (Qg s w z) ?_;rintro v Q⟨rfl,rfl⟩;refine Av (Eh Q (BP s)) rfl ?_ ?_;rotate_left
 ·rintro y L⟨rfl,S,rfl⟩;refine go ?_;exact Ap ⟨rfl,S,rfl⟩
 rintro v L⟨rfl,S,rfl⟩;refine gR ?_;exact⟨rfl,S,rfl⟩
def Gx(n:Int):Bool:=decide (0<=n)&&decide (n<=9999)
def Kj(w:World)(n:Int)(z:GP w):FnP Zp 140 [iV n] w (fun v w'=>v=AA (Br n)/\Gx n=true/\Ext w w') (fun y w'=>y=unp/\Gx n=false/\w'=w):=by
 refine CK func140 rfl ntmps140 nlr rD (go ?_);by_cases a:0<=n
 ·by_cases Z:n<=9999
  ·refine go ?_;refine Av (Eh w true) rfl ?_ ?_;rotate_left
   ·rintro y L⟨_,S,_⟩;cases S
   rintro v L⟨rfl,S,rfl⟩;refine gC (ml L n a Z z) ?_;rintro v b⟨rfl,g⟩;refine gR ?_;exact⟨rfl,by simp[Gx,a,Z],g⟩
  ·refine go ?_;refine Av (Eh w false) rfl ?_ ?_
   ·rintro v L⟨_,S,_⟩;cases S
   rintro y L⟨rfl,S,rfl⟩;refine go ?_;exact Ap ⟨rfl,by simp[Gx,Z],rfl⟩
 ·refine go ?_;refine Av (Eh w false) rfl ?_ ?_
  ·rintro v L⟨_,S,_⟩;cases S
  rintro y L⟨rfl,S,rfl⟩;refine go ?_;exact Ap ⟨rfl,by simp[Gx,a],rfl⟩
def F9(s:Sty)(f:Fml):Bool:=decide (s.least<=f.args.length/\f.args.length<=s.most)&&decide (0<=f.val/\f.val<=(s.val:Int))&&decide (0<=f.bound/\f.bound<=(s.bound:Int))&&(decide (f.op=3)||f.name.isEmpty)
def dR(w:World)(s:Sty)(b o:Nat)(f:Fml)(a:Option Addr)(c:Nat)(i:Cells w b o (fcC f (.slice a f.args.length c))):FnP Zp 159 [BM s,.pointer (sn b o)] w
  (fun v w'=>v=.tuple #[]/\Ext w w'/\F9 s f=true) (fun y w'=>y=unp/\Ext w w'/\F9 s f=false):=by
 refine CK func159 rfl ntmps159 nlr rD ?_;refine nX ?_;(refine AN ?_;refine Ac (L:=Bz s) rfl (fun Q A=>AB ?_))
 have q:=A.D;have d:=A.E;refine go ?_;by_cases r:s.least<=f.args.length
 case neg=>
  refine DY (rd 0 18 (.alt 18 .done .stop)) AX rD (by repeat (first|exact Dg|refine De ?_)) (fun X g T=>⟨Ext X,?_,?_⟩)
  ·exact sY
  have k:=q.E g O;have j:∀W,Ext X W->CC W b (o+4) (.slice a f.args.length c):=fun W e=>((d.Q g).Q e).cell (i 4 _ rfl) O;have Z:∀W,Ext X W->CC W b (o+2) (iV f.val):=fun W e=>((d.Q g).Q e).cell (i 2 _ rfl) O;have D:∀W,Ext X W->CC W b (o+3) (iV f.bound):=fun W e=>((d.Q g).Q e).cell (i 3 _ rfl) O;have m:∀W,Ext X W->CC W w.heap.size (0+4) (iV (s.least:Int)):=fun W e=>(k.E e O).cell rfl;have z:∀W,Ext X W->CC W w.heap.size (0+5) (iV (s.most:Int)):=fun W e=>(k.E e O).cell rfl;have B:∀W,Ext X W->CC W w.heap.size (0+6) (iV (s.val:Int)):=fun W e=>(k.E e O).cell rfl;have n:∀W,Ext X W->CC W w.heap.size (0+7) (iV (s.bound:Int)):=fun W e=>(k.E e O).cell rfl;refine go ?_;refine gE ?_;refine Av (Eh X false) rfl ?_ ?_
  ·rintro v h⟨_,S,_⟩;cases S
  rintro y h⟨rfl,S,rfl⟩;refine go ?_;exact Ap ⟨rfl,d.Q g,by simp[F9,r]⟩
 by_cases t:f.args.length<=s.most
 case neg=>
  refine DY (rd 0 18 (.alt 18 .done .stop)) AX rD (by repeat (first|exact Dg|refine De ?_)) (fun X g T=>⟨Ext X,?_,?_⟩)
  ·exact sY
  have k:=q.E g O;have j:∀W,Ext X W->CC W b (o+4) (.slice a f.args.length c):=fun W e=>((d.Q g).Q e).cell (i 4 _ rfl) O;have Z:∀W,Ext X W->CC W b (o+2) (iV f.val):=fun W e=>((d.Q g).Q e).cell (i 2 _ rfl) O;have D:∀W,Ext X W->CC W b (o+3) (iV f.bound):=fun W e=>((d.Q g).Q e).cell (i 3 _ rfl) O;have m:∀W,Ext X W->CC W w.heap.size (0+4) (iV (s.least:Int)):=fun W e=>(k.E e O).cell rfl;have z:∀W,Ext X W->CC W w.heap.size (0+5) (iV (s.most:Int)):=fun W e=>(k.E e O).cell rfl;have B:∀W,Ext X W->CC W w.heap.size (0+6) (iV (s.val:Int)):=fun W e=>(k.E e O).cell rfl;have n:∀W,Ext X W->CC W w.heap.size (0+7) (iV (s.bound:Int)):=fun W e=>(k.E e O).cell rfl;refine go ?_;refine gE ?_;refine Av (Eh X false) rfl ?_ ?_
  ·rintro v h⟨_,S,_⟩;cases S
  rintro y h⟨rfl,S,rfl⟩;refine go ?_;exact Ap ⟨rfl,d.Q g,by simp[F9,t]⟩
 refine DY (rd 0 18 (.alt 18 .done .stop)) AX rD (by repeat (first|exact Dg|refine De ?_)) (fun X g T=>⟨Ext X,?_,?_⟩)
 ·exact sY
 have k:=q.E g O;have j:∀W,Ext X W->CC W b (o+4) (.slice a f.args.length c):=fun W e=>((d.Q g).Q e).cell (i 4 _ rfl) O;have Z:∀W,Ext X W->CC W b (o+2) (iV f.val):=fun W e=>((d.Q g).Q e).cell (i 2 _ rfl) O;have D:∀W,Ext X W->CC W b (o+3) (iV f.bound):=fun W e=>((d.Q g).Q e).cell (i 3 _ rfl) O;have m:∀W,Ext X W->CC W w.heap.size (0+4) (iV (s.least:Int)):=fun W e=>(k.E e O).cell rfl;have z:∀W,Ext X W->CC W w.heap.size (0+5) (iV (s.most:Int)):=fun W e=>(k.E e O).cell rfl;have B:∀W,Ext X W->CC W w.heap.size (0+6) (iV (s.val:Int)):=fun W e=>(k.E e O).cell rfl;have n:∀W,Ext X W->CC W w.heap.size (0+7) (iV (s.bound:Int)):=fun W e=>(k.E e O).cell rfl;refine go ?_;refine gE ?_;refine Av (Eh X true) rfl ?_ ?_;rotate_left
 ·rintro y h⟨_,S,_⟩;cases S
 rintro v h⟨rfl,S,rfl⟩;refine AB ⟨Ext h,fun _ e=>e,Ext.refl _,?_⟩;refine go ?_;replace d:=d.Q g;clear j Z D m z B n g T q;have q:=k;clear k;by_cases l:0<=f.val
 case neg=>
  refine DY (rd 0 14 (.alt 14 .done .stop)) AX rD (by repeat (first|exact Dg|refine De ?_)) (fun X g T=>⟨Ext X,?_,?_⟩)
  ·exact sY
  have k:=q.E g O;have j:∀W,Ext X W->CC W b (o+4) (.slice a f.args.length c):=fun W e=>((d.Q g).Q e).cell (i 4 _ rfl) O;have Z:∀W,Ext X W->CC W b (o+2) (iV f.val):=fun W e=>((d.Q g).Q e).cell (i 2 _ rfl) O;have D:∀W,Ext X W->CC W b (o+3) (iV f.bound):=fun W e=>((d.Q g).Q e).cell (i 3 _ rfl) O;have m:∀W,Ext X W->CC W w.heap.size (0+4) (iV (s.least:Int)):=fun W e=>(k.E e O).cell rfl;have z:∀W,Ext X W->CC W w.heap.size (0+5) (iV (s.most:Int)):=fun W e=>(k.E e O).cell rfl;have B:∀W,Ext X W->CC W w.heap.size (0+6) (iV (s.val:Int)):=fun W e=>(k.E e O).cell rfl;have n:∀W,Ext X W->CC W w.heap.size (0+7) (iV (s.bound:Int)):=fun W e=>(k.E e O).cell rfl;refine go ?_;refine gE ?_;refine Av (Eh X false) rfl ?_ ?_
  ·rintro v h⟨_,S,_⟩;cases S
  rintro y h⟨rfl,S,rfl⟩;refine go ?_;exact Ap ⟨rfl,d.Q g,by simp[F9,l]⟩
 by_cases E:f.val<=(s.val:Int)
 case neg=>
  refine DY (rd 0 14 (.alt 14 .done .stop)) AX rD (by repeat (first|exact Dg|refine De ?_)) (fun X g T=>⟨Ext X,?_,?_⟩)
  ·exact sY
  have k:=q.E g O;have j:∀W,Ext X W->CC W b (o+4) (.slice a f.args.length c):=fun W e=>((d.Q g).Q e).cell (i 4 _ rfl) O;have Z:∀W,Ext X W->CC W b (o+2) (iV f.val):=fun W e=>((d.Q g).Q e).cell (i 2 _ rfl) O;have D:∀W,Ext X W->CC W b (o+3) (iV f.bound):=fun W e=>((d.Q g).Q e).cell (i 3 _ rfl) O;have m:∀W,Ext X W->CC W w.heap.size (0+4) (iV (s.least:Int)):=fun W e=>(k.E e O).cell rfl;have z:∀W,Ext X W->CC W w.heap.size (0+5) (iV (s.most:Int)):=fun W e=>(k.E e O).cell rfl;have B:∀W,Ext X W->CC W w.heap.size (0+6) (iV (s.val:Int)):=fun W e=>(k.E e O).cell rfl;have n:∀W,Ext X W->CC W w.heap.size (0+7) (iV (s.bound:Int)):=fun W e=>(k.E e O).cell rfl;refine go ?_;refine gE ?_;refine Av (Eh X false) rfl ?_ ?_
  ·rintro v h⟨_,S,_⟩;cases S
  rintro y h⟨rfl,S,rfl⟩;refine go ?_;exact Ap ⟨rfl,d.Q g,by simp[F9,E]⟩
 refine DY (rd 0 14 (.alt 14 .done .stop)) AX rD (by repeat (first|exact Dg|refine De ?_)) (fun X g T=>⟨Ext X,?_,?_⟩)
 ·exact sY
 have k:=q.E g O;have j:∀W,Ext X W->CC W b (o+4) (.slice a f.args.length c):=fun W e=>((d.Q g).Q e).cell (i 4 _ rfl) O;have Z:∀W,Ext X W->CC W b (o+2) (iV f.val):=fun W e=>((d.Q g).Q e).cell (i 2 _ rfl) O;have D:∀W,Ext X W->CC W b (o+3) (iV f.bound):=fun W e=>((d.Q g).Q e).cell (i 3 _ rfl) O;have m:∀W,Ext X W->CC W w.heap.size (0+4) (iV (s.least:Int)):=fun W e=>(k.E e O).cell rfl;have z:∀W,Ext X W->CC W w.heap.size (0+5) (iV (s.most:Int)):=fun W e=>(k.E e O).cell rfl;have B:∀W,Ext X W->CC W w.heap.size (0+6) (iV (s.val:Int)):=fun W e=>(k.E e O).cell rfl;have n:∀W,Ext X W->CC W w.heap.size (0+7) (iV (s.bound:Int)):=fun W e=>(k.E e O).cell rfl;refine go ?_;refine gE ?_;refine Av (Eh X true) rfl ?_ ?_;rotate_left
 ·rintro y h⟨_,S,_⟩;cases S
 rintro v h⟨rfl,S,rfl⟩;refine AB ⟨Ext h,fun _ e=>e,Ext.refl _,?_⟩;refine go ?_;replace d:=d.Q g;clear j Z D m z B n g T q;have q:=k;clear k;by_cases u:0<=f.bound
 case neg=>
  refine DY (rd 0 14 (.alt 14 .done .stop)) AX rD (by repeat (first|exact Dg|refine De ?_)) (fun X g T=>⟨Ext X,?_,?_⟩)
  ·exact sY
  have k:=q.E g O;have j:∀W,Ext X W->CC W b (o+4) (.slice a f.args.length c):=fun W e=>((d.Q g).Q e).cell (i 4 _ rfl) O;have Z:∀W,Ext X W->CC W b (o+2) (iV f.val):=fun W e=>((d.Q g).Q e).cell (i 2 _ rfl) O;have D:∀W,Ext X W->CC W b (o+3) (iV f.bound):=fun W e=>((d.Q g).Q e).cell (i 3 _ rfl) O;have m:∀W,Ext X W->CC W w.heap.size (0+4) (iV (s.least:Int)):=fun W e=>(k.E e O).cell rfl;have z:∀W,Ext X W->CC W w.heap.size (0+5) (iV (s.most:Int)):=fun W e=>(k.E e O).cell rfl;have B:∀W,Ext X W->CC W w.heap.size (0+6) (iV (s.val:Int)):=fun W e=>(k.E e O).cell rfl;have n:∀W,Ext X W->CC W w.heap.size (0+7) (iV (s.bound:Int)):=fun W e=>(k.E e O).cell rfl;refine go ?_;refine gE ?_;refine Av (Eh X false) rfl ?_ ?_
  ·rintro v h⟨_,S,_⟩;cases S
  rintro y h⟨rfl,S,rfl⟩;refine go ?_;exact Ap ⟨rfl,d.Q g,by simp[F9,u]⟩
 by_cases x:f.bound<=(s.bound:Int)
 case neg=>
  refine DY (rd 0 14 (.alt 14 .done .stop)) AX rD (by repeat (first|exact Dg|refine De ?_)) (fun X g T=>⟨Ext X,?_,?_⟩)
  ·exact sY
  have k:=q.E g O;have j:∀W,Ext X W->CC W b (o+4) (.slice a f.args.length c):=fun W e=>((d.Q g).Q e).cell (i 4 _ rfl) O;have Z:∀W,Ext X W->CC W b (o+2) (iV f.val):=fun W e=>((d.Q g).Q e).cell (i 2 _ rfl) O;have D:∀W,Ext X W->CC W b (o+3) (iV f.bound):=fun W e=>((d.Q g).Q e).cell (i 3 _ rfl) O;have m:∀W,Ext X W->CC W w.heap.size (0+4) (iV (s.least:Int)):=fun W e=>(k.E e O).cell rfl;have z:∀W,Ext X W->CC W w.heap.size (0+5) (iV (s.most:Int)):=fun W e=>(k.E e O).cell rfl;have B:∀W,Ext X W->CC W w.heap.size (0+6) (iV (s.val:Int)):=fun W e=>(k.E e O).cell rfl;have n:∀W,Ext X W->CC W w.heap.size (0+7) (iV (s.bound:Int)):=fun W e=>(k.E e O).cell rfl;refine go ?_;refine gE ?_;refine Av (Eh X false) rfl ?_ ?_
  ·rintro v h⟨_,S,_⟩;cases S
  rintro y h⟨rfl,S,rfl⟩;refine go ?_;exact Ap ⟨rfl,d.Q g,by simp[F9,x]⟩
 refine DY (rd 0 14 (.alt 14 .done .stop)) AX rD (by repeat (first|exact Dg|refine De ?_)) (fun X g T=>⟨Ext X,?_,?_⟩)
 ·exact sY
 have k:=q.E g O;have j:∀W,Ext X W->CC W b (o+4) (.slice a f.args.length c):=fun W e=>((d.Q g).Q e).cell (i 4 _ rfl) O;have Z:∀W,Ext X W->CC W b (o+2) (iV f.val):=fun W e=>((d.Q g).Q e).cell (i 2 _ rfl) O;have D:∀W,Ext X W->CC W b (o+3) (iV f.bound):=fun W e=>((d.Q g).Q e).cell (i 3 _ rfl) O;have m:∀W,Ext X W->CC W w.heap.size (0+4) (iV (s.least:Int)):=fun W e=>(k.E e O).cell rfl;have z:∀W,Ext X W->CC W w.heap.size (0+5) (iV (s.most:Int)):=fun W e=>(k.E e O).cell rfl;have B:∀W,Ext X W->CC W w.heap.size (0+6) (iV (s.val:Int)):=fun W e=>(k.E e O).cell rfl;have n:∀W,Ext X W->CC W w.heap.size (0+7) (iV (s.bound:Int)):=fun W e=>(k.E e O).cell rfl;refine go ?_;refine gE ?_;refine Av (Eh X true) rfl ?_ ?_;rotate_left
 ·rintro y h⟨_,S,_⟩;cases S
 rintro v h⟨rfl,S,rfl⟩;refine AB ⟨Ext h,fun _ e=>e,Ext.refl _,?_⟩;refine Cy ?_;refine nX ?_;replace d:=d.Q g;clear j Z D m z B n g T q;have q:=k;clear k;have I:=d.cell (i 0 _ rfl) O;have G:=d.cell (i 1 _ rfl) O;by_cases F:f.op=3
 ·(refine AN (Aq rfl (A7 rfl (AV rfl (AQ rfl rG ?_))))<;>refine IH rfl rfl U (AH rfl (AP rfl (AP rfl (AP rfl (AP rfl (AP rfl (BF rfl (AH rfl ?_)))))))))
  refine Av (Eh _ true) rfl ?_ ?_;rotate_left
  ·rintro y h⟨_,S,_⟩;cases S
  rintro v h⟨rfl,S,rfl⟩;refine nX ?_;exact Bt rfl ⟨rfl,d,by simp[F9,r,t,l,E,u,x,F]⟩
 by_cases C:f.name=[]
 ·(refine AN (Aq rfl (A7 rfl (AV rfl (AQ rfl rG ?_))))<;>refine K9 rfl rfl U (AH rfl (AE rfl (Aq rfl (AE rfl (A7 rfl (AE rfl (AV rfl (AE rfl (AQ rfl rG ?_)))))))))<;>(refine AE rfl ?_;refine CZ rfl rfl (fun p=>?_) (fun p=>?_))<;>refine BJ rfl (AH rfl ?_))
  case refine_2=>exact absurd C rG
  refine Av (Eh _ true) rfl ?_ ?_;rotate_left
  ·rintro y h⟨_,S,_⟩;cases S
  rintro v h⟨rfl,S,rfl⟩;refine nX ?_;exact Bt rfl ⟨rfl,d,by simp[F9,r,t,l,E,u,x,C]⟩
 ·(refine AN (Aq rfl (A7 rfl (AV rfl (AQ rfl rG ?_))))<;>refine K9 rfl rfl U (AH rfl (AE rfl (Aq rfl (AE rfl (A7 rfl (AE rfl (AV rfl (AE rfl (AQ rfl rG ?_)))))))))<;>(refine AE rfl ?_;refine CZ rfl rfl (fun p=>?_) (fun p=>?_))<;>refine BJ rfl (AH rfl ?_))
  case refine_1=>exact absurd rG C
  refine Av (Eh _ false) rfl ?_ ?_
  ·rintro v h⟨_,S,_⟩;cases S
  rintro y h⟨rfl,S,rfl⟩;refine go ?_;exact Ap ⟨rfl,d,by simp[F9,F,C]⟩
end Go.Proofs.YtjbocjodncbogaaGreatDoor
