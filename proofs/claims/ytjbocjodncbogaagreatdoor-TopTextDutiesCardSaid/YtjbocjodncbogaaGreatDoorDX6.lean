/- TopTextDuties, part 6 of 15: lemmas. Conditions: none. -/
import Derived.Test.YtjbocjodncbogaaGreatDoorDX5
import Derived.Test.YtjbocjodncbogaaGreatDoorShc
import Derived.Lib.Builder
import Derived.LaidEql
namespace Go.Proofs.YtjbocjodncbogaaGreatDoor
open Go.RowKit Go.Proofs.Tryz
set_option linter.unusedVariables false
set_option linter.defProp false
section
variable {mk:Prop}[MK mk]
def Yr{op:Int}{neg:Bool}{g:Int->BS->Fml×BS}(y:∀d s,EI s->EI (g d s).2):∀(n:Nat)(d:Int)(s:BS),EI s->EI (bdB op neg g n d s).2
 |0,d,s,h=>y d s h
 |n+1,d,s,h=>by
  rw[bdB]
  split
  ·exact h
  ·rename_i v;have v:s.2=false:=by simpa using v
   have q:=Ht (d:=d) h v
   split
   ·exact q.1
   ·rename_i Z;have Z:(tkB s d).2=false:=by simpa using Z
    have a:=Ht (d:=d-1) q.1 Z
    split
    ·exact a.1
    ·exact Yr y n _ _ (y _ _ a.1)
def FnF(F:Nat)(W:World)(b o:Nat)(neg:Bool)(d:Int)(s:BS)(r:Fml×BS):Prop:=Fn Zp 98 [pt F,.pointer (sn b o),.bool neg,iV d] W fun u X=>Keep [F] W X/\BAt X F r.2/\FAt (fun x=>W.heap.size<=x) X u r.1
set_option maxHeartbeats 1000000 in
def ai(F:Nat)(neg:Bool)(op:Int)(g:Int->BS->Fml×BS)(b o b' o' al cc:Nat)(i:World)(f1:1<=al)(q0:CC i b (o+0) (iV op))(q4:CC i b (o+4) (.slice (sn b' o') al cc))(M:b≠F)(hbb:F<i.heap.size)(hg:∀d s,EI s->EI (g d s).2)
  (b4:∀(W:World)(d:Int)(s:BS),Keep [F] i W->0<=d->d<=1000->EI s->BAt W F s->FnF F W b' (o'+0*5) neg d s (g d s)):
  ∀(n:Nat)(W:World)(d:Int)(s:BS),n<=9->Keep [F] i W->0<=d->d<=1000->EI s->BAt W F s->Fn Zp 149 [pt F,.pointer (sn b o),iV (n:Int),.bool neg,iV d] W fun u w'=>Keep [F] W w'/\BAt w' F (bdB op neg g n d s).2/\FAt (fun x=>W.heap.size<=x) w' u (bdB op neg g n d s).1:=by
 intro n;have d6:=HX i _ q0;simp only at d6
 induction n with
 |zero=>
  intro W d s _ K hd hd2 hs S;have z0:=K.size;have c3:=K.cell q4 rY;refine AM func149 rfl ntmps149 (go ?_);refine Ai (L:=zero5) (fun Q D=>?_);have z1:=D.size;have f5:=D.E.cell c3 O;refine gC (b4 Q d s (K.ext D.E) hd hd2 hs (S.E D.E O)) ?_;rintro u w2⟨m,Z,f2⟩;obtain⟨k,rfl,d7,e0⟩:=f2.cells;obtain⟨q,t,X,T,B,rfl⟩:=An d7;refine Aa (cs:=[q,t,X,T,B]) rfl rfl rfl e0 (D.D.E m rE) rK (fun e E=>?_);refine go ?_;exact Ar rfl rfl rfl E.D.cells ⟨(D.E.any.Q m (fun _ h _=>h)).Q E.E (fun y hy z=>by simp at hy;omega),Z.E E.E rE,(f2.E E.E (fun y hy hm=>by simp at hm;omega)).mono fun y hy=>by omega⟩
 |succ n ih=>
  intro W d s hn K hd hd2 hs S;have z0:=K.size;have c3:=K.cell q4 rY;have e4:=K.cell q0 rY;obtain⟨l,ov⟩:=s;refine AM func149 rfl ntmps149 (go ?_);refine Ai (L:=zero5) (fun Q D=>?_);have z1:=D.size;have b5:=S.E D.E O;refine go ?_;rw[bdB];cases ov with
  |true=>
   rw[AJ rfl];refine go ?_;refine Aa (cs:=zero5) rfl rfl rfl (Ak rfl) ((D).D.E (Keep.refl [F] Q) rE) rK (fun e E=>?_);refine go ?_;have z9:=(D).size;exact Ar rfl rfl rfl E.D.cells ⟨((D).E.any.Q (Keep.refl [F] Q) (fun _ h _=>h)).Q E.E (fun x h z=>by simp at h;omega),(b5).E E.E rE,FAt.leaf _ _ 0 [] 0 0⟩
  |false=>
   rw[AG CX];refine gC (Ks Q F (l,false) d b5 hs) ?_;rintro _ w2⟨rfl,m,Z⟩;obtain⟨b8,hd1⟩:=Ht (d:=d) hs rfl;cases ht:(tkB (l,false) d).2 with
   |true=>
    rw[AJ rfl];refine go ?_;refine Aa (cs:=zero5) rfl rfl rfl (Ak rfl) ((D).D.E m rE) rK (fun e E=>?_);refine go ?_;have z9:=(D).size;exact Ar rfl rfl rfl E.D.cells ⟨((D).E.any.Q m (fun _ h _=>h)).Q E.E (fun x h z=>by simp at h;omega),(Z).E E.E rE,FAt.leaf _ _ 0 [] 0 0⟩
   |false=>
    rw[AG CX];have hd1:=hd1 ht;refine gC (Ks w2 F _ (d-1) Z b8) ?_;rintro _ w⟨rfl,k3,b6⟩;obtain⟨b9,hd3⟩:=Ht (d:=d-1) b8 ht;have P:Keep [F] Q w:=m.Q k3 (fun _ h _=>h);cases ht3:(tkB (tkB (l,false) d) (d-1)).2 with
    |true=>
     rw[AJ rfl];refine go ?_;refine Aa (cs:=zero5) rfl rfl rfl (Ak rfl) ((D).D.E P rE) rK (fun e E=>?_);refine go ?_;have z9:=(D).size;exact Ar rfl rfl rfl E.D.cells ⟨((D).E.any.Q P (fun _ h _=>h)).Q E.E (fun x h z=>by simp at h;omega),(b6).E E.E rE,FAt.leaf _ _ 0 [] 0 0⟩
    |false=>
     rw[AG CX];have hd3:=hd3 ht3;have g3:=P.size;have f4:=P.cell (D.E.cell e4 O) rY;refine gC (Rz w op) ?_;rintro _ w⟨rfl,rfl⟩;refine go ?_;refine Ai (L:=zero5) (fun w4 n4=>?_);refine Aa (cs:=[iV (CU op),AA [],iV 0,iV 0,nS]) rfl rfl rfl (Ak rfl) n4.D rK (fun R p5=>?_);have z4:=n4.size;have z5:=p5.size;have c1:Ext w R:=n4.E.E p5.E O;obtain⟨a,b7⟩:∃a,a=w.heap.size:=⟨_,rfl⟩;have b2:Blk R a 37 [iV (CU op),AA [],iV 0,iV 0,nS]:=by rw[b7];exact p5.D
     rw[<-b7];refine go ?_;refine CE (α:=Unit) (fun _=>[(0,pt F),(1,.pointer (sn b o)),(2,iV ((n+1:Nat):Int)),(3,.bool neg),(4,iV d),(10,pt W.heap.size),(11,pt a)]) (fun _ r=>Keep [a] R r/\Blk r a 37 [iV (DJ neg (CU op)),AA [],iV 0,iV 0,nS]) ?_ ?_
     ·cases neg with
      |false=>
       refine go ?_;exact Af () ag ⟨Keep.refl _ _,b2⟩
      |true=>
       refine gC (XL R (CU op)) ?_;rintro _ R⟨rfl,rfl⟩;refine go ?_;refine AW (v:=iV (KJ (CU op))) rfl rfl rfl b2 O (fun r p6=>go ?_);exact Af () ag ⟨p6.E,p6.D⟩
     rintro _ r f6⟨a3,c7⟩;have z6:=a3.size;have a0:Keep [F] Q r:=(P.ext c1).Q a3 (fun x h z=>by simp at h;omega);have a6:Keep [F] i r:=(K.ext D.E).Q a0 (fun x h _=>h);have d3:=(b6.E c1 O).E a3 rE;have q46:=a6.cell q4 rY;refine go ?_;have f3:=S.lt;have g7:=a0.size;refine AD (b4 r (d-1) _ a6 U U b9 d3) rfl ?_;rintro u7 w7⟨k7,d4,f7⟩;obtain⟨f0,rfl,d9,e2⟩:=f7.cells;obtain⟨f,G,H,I,j,rfl⟩:=An d9;have z7:=k7.size;refine Ai (L:=zero5) (fun w8 n8=>?_);have z8:=n8.size;refine Aa (cs:=[f,G,H,I,j]) rfl rfl rfl e2 n8.D rK (fun e E=>?_);have z9:=E.size;have a5:Ext w7 e:=n8.E.E E.E O;have c5:Blk e w7.heap.size 37 [f,G,H,I,j]:=E.D;have c2:Keep [F] r e:=k7.ext a5;have e3:Keep [F] i e:=a6.Q c2 (fun x h _=>h);have d5:=d4.E a5 O;have f9:=f7.ext a5;refine go ?_;rw[show((n+1:Nat):Int)-1=(n:Int) by omega];refine AD (ih e (d-2) _ U e3 U U (hg _ _ b9) d5) rfl ?_;rintro u10 c4⟨A,d2,b3⟩;obtain⟨e9,rfl,d8,e1⟩:=b3.cells;obtain⟨q,t,X,T,B,rfl⟩:=An d8;have g0:=A.size;refine Ai (L:=zero5) (fun f8 a7=>?_);have g1:=a7.size;refine Aa (cs:=[q,t,X,T,B]) rfl rfl rfl e1 a7.D rK (fun p a9=>?_);have g2:=a9.size;have N:Ext c4 p:=a7.E.E a9.E O;have e7:Blk p c4.heap.size 37 [q,t,X,T,B]:=a9.D;have e6:Blk p w7.heap.size 37 [f,G,H,I,j]:=(c5.E A rE).E N O;have c9:=(f9.E A (fun x V h=>by simp at h;omega)).ext N;have c8:=b3.ext N;refine go ?_;refine Ay (out:=[q,t,X,T,B]) rfl U rP (fun b0 a1=>?_);have g4:=a1.size;refine go ?_;refine Ay (out:=[f,G,H,I,j,iV 8,AA [],iV 0,iV 0,.slice (sm p.heap.size) 1 1]) rfl U rZ (fun b1 a8=>?_);have g5:=a8.size;have c0:Ext p b1:=a1.E.Q a8.E;have a4:Keep [F] r b1:=((c2.Q A (fun x h _=>h)).ext N).ext c0;have c6:Blk b1 a 37 [iV (DJ neg (CU op)),AA [],iV 0,iV 0,nS]:=c7.E a4 rE;refine go ?_;refine AW (v:=.slice (sm b0.heap.size) 2 2) rfl rfl rfl c6 O (fun e5 C=>?_);have e8:Blk e5 a 37 [iV (DJ neg (CU op)),AA [],iV 0,iV 0,.slice (sm b0.heap.size) 2 2]:=C.D;have g6:=C.size;refine go ?_;refine Aa (cs:=[iV (DJ neg (CU op)),AA [],iV 0,iV 0,.slice (sm b0.heap.size) 2 2]) rfl rfl rfl (Ak rfl) (((D.D.E a0 rE).E a4 rE).E C.E rE) rK (fun w16 a2=>?_);refine go ?_;have d0:FsAt (fun x=>W.heap.size<=x/\x≠W.heap.size/\x≠a) p [[q,t,X,T,B]] [(bdB op neg g n (d-2) (g (d-1) (tkB (tkB (l,false) d) (d-1))).2).1]:=FsAt.one (c8.mono fun x V=>by omega) rfl;obtain⟨h1,h2⟩:=FsAt.fresh (L:=[[q,t,X,T,B]]) a1 d0 U O;have hN:=FAt.node 8 [] 0 0 h1 h2;have d1:=FsAt.two (c:=[f,G,H,I,j]) (d:=[iV 8,AA [],iV 0,iV 0,.slice (sm p.heap.size) 1 1]) ((c9.mono (ok':=fun x=>W.heap.size<=x/\x≠W.heap.size/\x≠a) fun x V=>by omega).ext a1.E) rfl hN rfl;obtain⟨h3,h4⟩:=FsAt.fresh (L:=[[f,G,H,I,j],[iV 8,AA [],iV 0,iV 0,.slice (sm p.heap.size) 1 1]]) a8 d1 U O;have hM:=((FAt.node (DJ neg (CU op)) [] 0 0 h3 h4).E C.E (fun x V h=>by simp at h;omega)).E a2.E (fun x V h=>by simp at h;omega);refine Ar rfl rfl rfl a2.D.cells ⟨?_,((((d2.E N O).E c0 O).E C.E rE).E a2.E rE),hM.mono fun x V=>V.1⟩;exact(((D.E.any.Q a0 (fun _ h _=>h)).Q a4 (fun _ h _=>h)).Q C.E (fun x h z=>by simp at h;omega)).Q a2.E (fun x h z=>by simp at h;omega)
mutual
def SZ:∀(f:Fml)(neg:Bool)(d:Int)(s:BS),EI s->EI (fmB f neg d s).2
 | .mk op nm v b args,neg,d,s,h=>by
  rw[fmB]
  split
  ·exact h
  ·rename_i h0;have h0:s.2=false:=by simpa using h0
   have t1:=(Ht (d:=d) h h0).1
   split
   ·exact SY args _ _ _ h
   ·split
    ·split
     ·exact t1
     ·rename_i h1;have t2:=(Ht (d:=d-1) t1 (by simpa using h1)).1
      split<;>exact t2
    ·split
     ·exact Yr (fun d s hs=>SY args neg d s hs) _ _ _ h
     ·split
      ·exact t1
      ·rename_i h1;refine Sa _ args _ _ _ ?_
       split
       ·unfold lnB;have t2:=(Ht (d:=d-1) t1 (by simpa using h1)).1
        split<;>exact t2
       ·exact t1
def SY:∀(l:LF)(neg:Bool)(d:Int)(s:BS),EI s->EI (fm0 l neg d s).2
 | [],_,_,_,h=>h
 |a::_,neg,d,s,h=>SZ a neg d s h
def Sa:∀(t:Bool)(l:LF)(neg:Bool)(d:Int)(s:BS),EI s->EI (fmL t l neg d s).2
 |_,[],_,_,_,h=>h
 |t,a::l,neg,d,s,h=>Sa false l neg d _ (SZ a _ d s h)
end
def XN:∀(t:Bool)(l:LF)(neg:Bool)(d:Int)(s:BS),(fmL t l neg d s).1.length=l.length
 |_,[],_,_,_=>rfl
 |t,a::l,neg,d,s=>by rw[fmL];simp[XN false l]
def Vn:∀(args:LF)(k:Nat)(x:Fml)(t:Bool)(neg:Bool)(d:Int)(s:BS),args[k]?=some x->
  fmL t (args.take (k+1)) neg d s=((fmL t (args.take k) neg d s).1++[(fmB x (neg !=(t&&k==0)) d (fmL t (args.take k) neg d s).2).1],(fmB x (neg !=(t&&k==0)) d (fmL t (args.take k) neg d s).2).2)
 | [],k,x,t,neg,d,s,h=>by cases h
 |a::l,0,x,t,neg,d,s,h=>by
  cases h;simp[fmL]
 |a::l,k+1,x,t,neg,d,s,h=>by
  have n:=Vn l k x false neg d (fmB a (neg !=t) d s).2 rT;simp only[Ln,fmL,n];have e:(t&&(k+1==0))=(false&&k==0):=by simp
  simp
def lnF(op v:Int)(neg:Bool)(d:Int)(s:BS):Int×LF×BS:=if DI op then lnB (DJ neg (CU op)) (Cd op v neg) d s else(Cd op v neg,[],s)
def PM(op v b:Int)(l:LU)(args:LF)(neg:Bool)(d:Int)(s:BS):fmB (.mk op l v b args) neg d s=
  if s.2 then(Ad,s)
  else if op=4 then fm0 args (!neg) d s
  else if op=3/\neg=true then(if(tkB s d).2 then(Ad,tkB s d)else if(tkB (tkB s d) (d-1)).2 then(Ad,tkB (tkB s d) (d-1))else(⟨4,[],0,0,[⟨3,l,v,0,[]⟩]⟩,tkB (tkB s d) (d-1)))
  else if op=13\/op=14 then bdB op neg (fm0 args neg) b.toNat d s
  else if(tkB s d).2 then(Ad,tkB s d)
  else(⟨DJ neg (CU op),l,(lnF op v neg d (tkB s d)).1,0,(lnF op v neg d (tkB s d)).2.1++(fmL (op==7) args neg (d-1) (lnF op v neg d (tkB s d)).2.2).1⟩,(fmL (op==7) args neg (d-1) (lnF op v neg d (tkB s d)).2.2).2):=by
 rw[fmB];rfl
mutual
def okN:Fml->Bool
 | .mk op _ v b args=>(if op=4\/op=13\/op=14 then decide (1<=args.length)else true)&&decide (0<=b)&&decide (b<=9)&&decide (-9<=v)&&decide (v<=9)&&KR args
def KR:LF->Bool
 | []=>true
 |a::l=>okN a&&KR l
end
def V9:∀{l:LF}{a:Fml},KR l=true->a∈l->okN a=true
 | [],_,_,h=>by cases h
 |b::l,a,h,r=>by
  simp only[KR,AZ]at h;rcases BI.1 r with rfl|r
  ·exact h.1
  ·exact V9 h.2 r
def fq{op v b:Int}{l:LU}{args:LF}(h:okN (.mk op l v b args)=true):(op=4\/op=13\/op=14->1<=args.length)/\0<=b/\b<=9∧ -9<=v/\v<=9/\∀a∈args,okN a=true:=by
 simp only[okN,AZ,BD]at h;obtain⟨⟨⟨⟨⟨Z,W⟩,R⟩,A⟩,c⟩,p⟩:=h;refine⟨fun h=>by rw[AJ h]at Z;simpa using Z,W,R,A,c,fun a G=>V9 p G⟩
set_option maxHeartbeats 4000000 in
def Vq(F:Nat):∀(n:Nat)(w:World)(b o:Nat)(f:Fml)(neg:Bool)(d:Int)(s:BS),dpF f<=n->szF f<=1000->PF (fun b=>b≠F) w b o f->okN f=true->0<=d->d<=1000->EI s->BAt w F s->FnF F w b o neg d s (fmB f neg d s):=by
 intro n
 induction n with
 |zero=>intro w b o f neg d s hn;rw[Cr]at hn;omega
 |succ n ih=>
 intro w b o f neg d s hn hz hf hp hd hd2 hs hb;unfold FnF;obtain⟨aa,cc,h6,q0,q1,q2,q3,q4,qa⟩:=hf.all;obtain⟨m,nm,v,bd,G⟩:=f;obtain⟨p1,p2,p3,p4,p5,p7⟩:=fq hp;have j8:=D8 G;rw[Cr]at hn;rw[Bn]at hz;simp only[Fml.op,Fml.name,Fml.val,Fml.bound,Fml.args]at hn hz h6 q0 q1 q2 q3 q4 qa;have hbw:=HX w _ q0;simp only at hbw;have i9:=hb.lt;have a5:b≠F:=hf.1;obtain⟨l,ov⟩:=s;rw[PM];refine AM func98 rfl ntmps98 (go ?_);refine Ai (L:=zero5) (fun C D=>?_);have z1:=D.size;have c1:=hb.E D.E O;have i0:=D.E.cell q0 O;have g8:=D.E.cell q4 O;have k0:=D.E.cell q3 O;refine go ?_;cases ov with
 |true=>
  rw[AJ rfl];refine go ?_;refine Aa (cs:=zero5) rfl rfl rfl (Ak rfl) ((D).D.E (Keep.refl [F] C) rE) rK (fun w9 E=>?_);refine go ?_;have z9:=(D).size;exact Ar rfl rfl rfl E.D.cells ⟨((D).E.any.Q (Keep.refl [F] C) (fun _ h _=>h)).Q E.E (fun x h T=>by simp at h;omega),(c1).E E.E rE,FAt.leaf _ _ 0 [] 0 0⟩
 |false=>
 rw[AG CX];refine go ?_;by_cases h4:m=4
 ·rw[AJ h4];obtain⟨a,ha⟩:=gl (l:=G) (k:=0) (p1 (.inl h4));obtain⟨b',o',rfl,e6⟩:=qa 0 a ha;have b4:=BA ha;have Z:=Ds b4;have h2:=Ci b4
  have he:fm0 G (!neg) d (l,false)=fmB a (!neg) d (l,false):=by
   cases G with
   |nil=>cases ha
   |cons c l'=>cases ha;rfl
  rw[he];have:=p1 (.inl h4);refine gC (ih C b' _ a (!neg) d _ U U (e6.E D.E (fun _ _=>by simp)) (p7 a b4) hd hd2 hs c1) ?_;exact sQ
 rw[AG h4];by_cases h3:m=3/\neg=true
 ·rw[AJ h3];obtain⟨h3o,rfl⟩:=h3;refine gC (Ks C F (l,false) d c1 hs) ?_;rintro _ w2⟨rfl,k2,a8⟩;obtain⟨b1,hd1⟩:=Ht (d:=d) hs rfl;cases ht:(tkB (l,false) d).2 with
  |true=>
   exact tI
  |false=>
  rw[AG CX];have hd1:=hd1 ht;refine gC (Ks w2 F _ (d-1) a8 b1) ?_;rintro _ w3⟨rfl,k3,f7⟩;obtain⟨j5,hd3⟩:=Ht (d:=d-1) b1 ht;have c4:Keep [F] C w3:=k2.Q k3 (fun _ h _=>h);cases ht3:(tkB (tkB (l,false) d) (d-1)).2 with
  |true=>
   rw[AJ rfl];refine go ?_;refine Aa (cs:=zero5) rfl rfl rfl (Ak rfl) ((D).D.E c4 rE) rK (fun w9 E=>?_);refine go ?_;have z9:=(D).size;exact Ar rfl rfl rfl E.D.cells ⟨((D).E.any.Q c4 (fun _ h _=>h)).Q E.E (fun x h T=>by simp at h;omega),(f7).E E.E rE,FAt.leaf _ _ 0 [] 0 0⟩
  |false=>
  rw[AG CX];have z2:=k2.size;have z3:=k3.size;refine go ?_;refine Ab (rd 0 9 (.alt 9 (.read 10 (.alt 11 .done .stop)) .stop)) AX rD (fun X kd ed=>⟨fun V=>Keep [w.heap.size] X V,?_,?_⟩)
  ·exact tK
  have e1:∀(i:Nat)(u:Value),CC w b i u->CC X b i u:=fun i u hu=>kd.cell (c4.cell (D.E.cell hu O) rU) O;have s1:∀V,Keep [w.heap.size] X V->CC V b (o+1) (AA nm):=fun V e=>e.cell (e1 _ _ q1) rE;have s2:∀V,Keep [w.heap.size] X V->CC V b (o+2) (iV v):=fun V e=>e.cell (e1 _ _ q2) rE;refine gE ?_;refine Ay (out:=[iV 3,AA nm,iV v,iV 0,nS]) rfl U rP (fun w4 n4=>?_);refine wNl n4.E.any ?_;refine gE ?_;have zd:=kd.size;have z4:=n4.size;refine Aa (cs:=[iV 4,AA [],iV 0,iV 0,.slice (sm X.heap.size) 1 1]) rfl rfl rfl (Ak rfl) (((D.D.E c4 rE).E kd O).E n4.E O) rK (fun w9 E=>?_);refine wNl (n4.E.any.Q E.E (fun _ h _=>h)) ?_;refine go ?_;have hF:FsAt (fun b=>C.heap.size<=b) X [[iV 3,AA nm,iV v,iV 0,nS]] [⟨3,nm,v,0,[]⟩]:=FsAt.one (FAt.leaf _ _ 3 nm v 0) rfl;obtain⟨Z,h2⟩:=FsAt.fresh (L:=[[iV 3,AA nm,iV v,iV 0,nS]]) n4 hF U O;refine Ar rfl rfl rfl E.D.cells ⟨?_,((f7.E kd O).E n4.E O).E E.E rE,((FAt.node 4 [] 0 0 Z h2).E E.E (fun y I r=>by simp at r;omega)).mono fun y I=>by omega⟩;exact((D.E.any.Q c4 (fun _ h _=>h)).ext (kd.Q n4.E)).Q E.E (fun y I T=>by simp at I;omega)
 rw[AG h3];refine mO1 ?_;refine mO1 ?_;refine mO1 ?_;refine nY ?_;refine CE (α:=Unit) (fun _=>[(0,pt F),(1,.pointer (some ⟨b,o,none⟩)),(2,.bool neg),(3,iV d),(8,pt w.heap.size),(34,.bool false)]) (fun _ W=>W=C) ?_ ?_
 ·by_cases h3o:m=3
  ·have hneg:neg=false:=by
    cases neg with
    |false=>rfl
    |true=>exact absurd ⟨h3o,rfl⟩ h3
   subst hneg;exact sh
  ·exact sh
 rintro _ _ f1 e1;rw[e1];clear e1
 have g0:∀{a:Fml}{b' o':Nat},G[0]?=some a->aa=some ⟨b',o',none⟩->Fn Zp 149 [pt F,.pointer (some ⟨b,o,none⟩),iV bd,.bool neg,iV d] C fun u w'=>Keep [F] C w'/\BAt w' F (bdB m neg (fm0 G neg) bd.toNat d (l,false)).2/\FAt (fun x=>C.heap.size<=x) w' u (bdB m neg (fm0 G neg) bd.toNat d (l,false)).1:=fun{a b' o'}ha b7=>by
  have b4:=BA ha;have Z:=Ds b4;have h2:=Ci b4;have h0:=(Ah.1 ha).1;obtain⟨b2,o2,e2,e6⟩:=qa 0 a ha;rw[b7]at e2;cases e2;have e:bd=((bd.toNat:Nat):Int):=by omega
  have he:fm0 G neg=fmB a neg:=by
   cases G with
   |nil=>cases ha
   |cons c l'=>cases ha;rfl
  have hh:=ai F neg m (fm0 G neg) b o b' o' G.length cc C U i0 (by rw[b7]at g8;exact g8) a5 U (fun d s hs=>SY G neg d s hs) (fun W d s K h0 hd2 hs hb=>by
   rw[he];exact ih W b' _ a neg d s U U ((e6.E D.E (fun _ _=>by simp)).E K (fun y I r=>by simp at r;exact I r)) (p7 a b4) h0 hd2 hs hb) bd.toNat C d (l,false) U (Keep.refl _ _) hd hd2 hs c1
  rw[<-e]at hh;exact hh
 by_cases b3:m=13\/m=14
 ·rw[AJ b3];obtain⟨a,ha⟩:=gl (l:=G) (k:=0) (p1 (.inr b3));obtain⟨b',o',b7,_⟩:=qa 0 a ha;have f9:=g0 ha b7;have k1:∀(Q:Prop),Q->Q:=fun _ h=>h;rcases b3 with b3|b3
  ·refine go ?_;refine AD f9 rfl ?_;exact sQ
  ·refine go ?_;refine AD f9 rfl ?_;exact sQ
 rw[AG b3];clear g0;have i7:¬m=13:=fun h=>b3 (.inl h);have i8:¬m=14:=fun h=>b3 (.inr h);refine gC (Ks C F (l,false) d c1 hs) ?_;rintro _ w2⟨rfl,k2,a8⟩;obtain⟨b1,hd1⟩:=Ht (d:=d) hs rfl;cases ht:(tkB (l,false) d).2 with
 |true=>
  exact tI
 |false=>
 rw[AG CX];have hd1:=hd1 ht;have z2:=k2.size;refine go ?_;have j7:=z1;refine Ab (rd 0 4 (rd 5 8 (.alt 4 (.read 13 (.alt 14 (.alt 15 .done .stop) .stop)) (.alt 14 (.alt 4 (.read 13 (.alt 15 .done .stop)) .stop) .stop)))) AX rD (fun X kd ed=>⟨Ext X,?_,?_⟩)
 ·exact sY
 have e0:∀(i:Nat)(u:Value),CC w b i u->CC X b i u:=fun i u hu=>kd.cell (k2.cell (D.E.cell hu O) rU) O;have s0:=e0 _ _ q0;have s1:=e0 _ _ q1;have s2:=e0 _ _ q2;refine go ?_;refine JP (α:=Unit) (.alt 15 .done .stop) (fun _=>[(0,pt F),(1,.pointer (some ⟨b,o,none⟩)),(2,.bool neg),(3,iV d),(8,pt w.heap.size),(9,pt X.heap.size),(106,.agg #[iV (CU m),AA nm,iV v,iV 0,nS])]) (fun _ W=>New X W 37 zero5) ?_ (fun leaf=>?_)
 ·rintro _ f' W n4;refine D_E rfl ?_;refine Aa (cs:=[iV (CU m),AA nm,iV v,iV 0,nS]) rfl rfl rfl (Ak rfl) n4.D rK (fun w5 p5=>?_);refine AB ⟨Ext X,fun _ e=>e,n4.E.E p5.E O,?_⟩;clear s0 s1 s2;have zd:=kd.size;have z4:=n4.size;have z5:=p5.size;obtain⟨t,g1⟩:∃t,t=X.heap.size:=⟨_,rfl⟩;have c9:Blk w5 t 37 [iV (CU m),AA nm,iV v,iV 0,nS]:=by rw[g1];exact p5.D
  have kd5:Ext X w5:=n4.E.E p5.E O;have f0:Keep [F] C w5:=(k2.ext kd).ext kd5;have g6:Keep [F] w w5:=D.E.any.Q f0 (fun _ h _=>h);have hb5:=(a8.E kd O).E kd5 O;have f4:=D.D.E f0 rE;rw[<-g1];have j0:C.heap.size<=t:=by omega
  have hc5l:t<w5.heap.size:=c9.lt;clear n4 p5 kd5 a8 kd ed e0;refine go ?_
  refine CE (α:=Unit) (fun _=>[(0,pt F),(1,.pointer (some ⟨b,o,none⟩)),(2,.bool neg),(3,iV d),(8,pt w.heap.size),(9,pt t)])
   (fun _ W=>Keep [F] w W/\BAt W F (tkB (l,false) d)/\Blk W t 37 [iV (DJ neg (CU m)),AA nm,iV v,iV 0,nS]/\Blk W w.heap.size 37 zero5/\t<W.heap.size) ?_ ?_
  ·cases neg with
   |false=>
    refine go ?_;exact Af () ag ⟨g6,hb5,c9,f4,hc5l⟩
   |true=>
    refine gC (XL w5 (CU m)) ?_;rintro _ w5⟨rfl,rfl⟩;refine go ?_;refine AW (v:=iV (KJ (CU m))) rfl rfl rfl c9 O (fun w6 p6=>go ?_);exact Af () ag ⟨g6.Q p6.E (fun x h T=>by simp at h;omega),hb5.E p6.E rE,p6.D,f4.E p6.E rE,by have:=p6.size;omega⟩
  clear c9 hb5 f4 f0;rintro _ W f6⟨K,a4,cW,zW,lW⟩;have g7:=K.cell q0 rU;have i3:=K.cell q2 rU;have zz:C.heap.size<=W.heap.size:=by omega
  obtain⟨a7,g4⟩:∃a7,a7=DJ neg (CU m):=⟨_,rfl⟩;rw[<-g4]at cW⊢;obtain⟨ln,a6⟩:∃ln,ln=lnF m v neg d (tkB (l,false) d):=⟨_,rfl⟩;rw[<-a6];unfold lnF at a6;rw[<-g4]at a6;refine nX ?_;(refine AN (Aq rfl (A7 rfl (AV rfl (AQ rfl rG ?_))))<;>refine AB ?_)
  refine Fx ?_
  refine CE (α:=Value×List (LV)) (fun _=>[(0,pt F),(1,.pointer (some ⟨b,o,none⟩)),(2,.bool neg),(3,iV d),(8,pt w.heap.size),(9,pt t)])
   (fun y W=>Keep [F] w W/\BAt W F ln.2.2/\Bld C W t a7 nm ln.1 0 ln.2.1 y.1 y.2/\Blk W w.heap.size 37 zero5/\t<W.heap.size) ?_ ?_
  ·by_cases d8:m=15
   ·have N:ln=(Cd m v neg,[],tkB (l,false) d):=by rw[a6,AG (by simp[DI,d8])]
    rw[N];cases neg with
    |false=>
     exact tO
    |true=>
     have hv:Cd m v true=1-v:=by simp[Cd,Hw,d8]
     exact sj
   by_cases d9:m=16
   ·have N:ln=(Cd m v neg,[],tkB (l,false) d):=by rw[a6,AG (by simp[DI,d9])]
    rw[N];cases neg with
    |false=>
     exact tO
    |true=>
     have hv:Cd m v true=1-v:=by simp[Cd,Hw,d9]
     exact sj
   by_cases h17:m=17
   ·have N:ln=(Cd m v neg,[],tkB (l,false) d):=by rw[a6,AG (by simp[DI,h17])]
    rw[N];cases neg with
    |false=>
     exact tO
    |true=>
     have hv:Cd m v true=1-v:=by simp[Cd,Hw,h17]
     exact sj
   by_cases d6:m=11
   ·have N:ln=lnB a7 (Cd m v neg) d (tkB (l,false) d):=by rw[a6,AJ (by simp[DI,d6])]
    have hv:Cd m v neg=v:=by simp[Cd,Hw,d6]
    exact sK
   by_cases d7:m=12
   ·have N:ln=lnB a7 (Cd m v neg) d (tkB (l,false) d):=by rw[a6,AJ (by simp[DI,d7])]
    have hv:Cd m v neg=v:=by simp[Cd,Hw,d7]
    exact sK
   by_cases h18:m=18
   ·have N:ln=lnB a7 (Cd m v neg) d (tkB (l,false) d):=by rw[a6,AJ (by simp[DI,h18])]
    have hv:Cd m v neg=v:=by simp[Cd,Hw,h18]
    exact sK
   by_cases h19:m=19
   ·have N:ln=lnB a7 (Cd m v neg) d (tkB (l,false) d):=by rw[a6,AJ (by simp[DI,h19])]
    have hv:Cd m v neg=v:=by simp[Cd,Hw,h19]
    exact sK
   have N:ln=(v,[],tkB (l,false) d):=by rw[a6,AG (by simp[DI,d6,d7,h18,h19]),show Cd m v neg=v by simp[Cd,Hw,d8,d9,h17]]
   rw[N];refine go ?_;exact Af (nS,[]) ag ⟨K,a4,Bld.start cW,zW,lW⟩
  clear a4 cW zW g7 i3;rintro⟨v0,L0⟩W0 f2⟨kW0,f8,d5,i4,h5⟩;simp only at d5;have q4W:=kW0.cell q4 rU;have z0w:=kW0.size;obtain⟨sl,e7⟩:∃sl,sl=ln.2.2:=⟨_,rfl⟩;obtain⟨c6,d1⟩:∃c6,c6=ln.2.1:=⟨_,rfl⟩;obtain⟨vk,e8⟩:∃vk,vk=ln.1:=⟨_,rfl⟩
  have h1:EI sl:=by
   rw[e7,a6]
   split
   ·unfold lnB;have t2:=(Ht (d:=d-1) b1 ht).1
    split<;>exact t2
   ·exact b1
  have j4:c6.length<=1:=by
   rw[d1,a6]
   split
   ·unfold lnB
    split<;>simp
   ·simp
  rw[<-e7]at f8⊢;rw[<-d1,<-e8]at d5;rw[<-d1,<-e8];clear a6 e7 d1 e8;refine go ?_
  refine Aj (α:=Nat×Value×List (LV)) (fun y=>[(0,pt F),(1,.pointer (some ⟨b,o,none⟩)),(2,.bool neg),(3,iV d),(8,pt w.heap.size),(9,pt t),(139,iV (G.length:Int)),(140,iV (y.1:Int))])
   (fun y W=>y.1<=G.length/\Keep [F] w W/\BAt W F (fmL (m==7) (G.take y.1) neg (d-1) sl).2/\Bld C W t a7 nm vk 0 (c6++(fmL (m==7) (G.take y.1) neg (d-1) sl).1) y.2.1 y.2.2/\Blk W w.heap.size 37 zero5/\t<W.heap.size) (fun y=>G.length-y.1) (0,v0,L0) ag
   ⟨by simp,kW0,by simpa[fmL]using f8,by simpa[fmL]using d5,i4,h5⟩ ?_
  rintro⟨k,v0,L0⟩W fr⟨hk,K,a4,bW,zW,hcW⟩;simp only at hk K a4 bW zW hcW;have q4W:=K.cell q4 rU;have g7:=K.cell q0 rU;refine nX ?_;by_cases T:k<G.length
  ·refine AN (FX rfl rfl U ?_);refine nX ?_;refine AN (AS rfl (AT (AS rfl ?_)));refine nX ?_;obtain⟨x,hx⟩:=gl T;obtain⟨d4,d2⟩:∃d4,d4=(neg !=(m==7&&k==0)):=⟨_,rfl⟩;refine CE (α:=Unit) (fun _=>[(0,pt F),(1,.pointer (some ⟨b,o,none⟩)),(2,.bool neg),(3,iV d),(8,pt w.heap.size),(9,pt t),(10,iV (k:Int)),(11,.bool d4),(139,iV (G.length:Int)),(140,iV (k:Int))]) (fun _ W'=>W'=W) ?_ ?_
   ·by_cases h7:m=7
    ·by_cases g3:k=0
     ·rw[d2,show(m==7&&k==0)=true by simp[h7,g3]];exact sh
     ·rw[d2,show(m==7&&k==0)=false by simp[g3]];exact sh
    ·rw[d2,show(m==7&&k==0)=false by simp[h7]];exact sh
   rintro _ _ f3 e3;rw[e3];clear e3;obtain⟨b',o',b7,h8⟩:=qa k x hx;subst b7;have e5:=BA hx;have j1:=Ds e5;have j9:=Ci e5;obtain⟨Rk,d0⟩:∃Rk,Rk=fmL (m==7) (G.take k) neg (d-1) sl:=⟨_,rfl⟩;have hRl:Rk.1.length=k:=by rw[d0,XN,DE];omega
   have h9:EI Rk.2:=by rw[d0];exact Sa _ _ _ _ _ h1
   rw[<-d0]at a4 bW;obtain⟨rx,g5⟩:∃rx,rx=fmB x (neg !=(m==7&&k==0)) (d-1) Rk.2:=⟨_,rfl⟩;have b0:=Vn G k x (m==7) neg (d-1) sl hx;rw[<-d0,<-g5]at b0;obtain⟨lk,b8⟩:∃lk,lk=c6++Rk.1:=⟨_,rfl⟩;have j3:lk.length+1<=1002:=by rw[b8,A9,hRl];omega
   rw[<-b8]at bW
   have c3:∀W,PF (fun b=>b≠F) W b' (o'+k*5) x->BAt W F Rk.2->FnF F W b' (o'+k*5) d4 (d-1) Rk.2 rx:=fun W hp hb=>by
    rw[g5,d2];exact ih W b' _ x _ (d-1) _ U U hp (p7 x e5) U U h9 hb
   refine go ?_;refine Ab (.read 0 (rd 2 10 (.alt 1 (.read 13 (.alt 12 (.alt 14 (.alt 15 (.read 16 (.read 18 (.alt 17 (.alt 19 .done .stop) (.alt 19 (.alt 17 .done .stop) .stop)))) .stop) .stop) (.alt 14 (.alt 12 (.alt 15 (.read 16 (.read 18 (.alt 17 (.alt 19 .done .stop) (.alt 19 (.alt 17 .done .stop) .stop)))) .stop) .stop) .stop))) (.alt 12 (.alt 1 (.read 13 (.alt 14 (.alt 15 (.read 16 (.read 18 (.alt 17 (.alt 19 .done .stop) (.alt 19 (.alt 17 .done .stop) .stop)))) .stop) .stop)) (.alt 14 (.alt 1 (.read 13 (.alt 15 (.read 16 (.read 18 (.alt 17 (.alt 19 .done .stop) (.alt 19 (.alt 17 .done .stop) .stop)))) .stop)) .stop) .stop)) (.alt 14 (.alt 1 (.read 13 (.alt 12 (.alt 15 (.read 16 (.read 18 (.alt 17 (.alt 19 .done .stop) (.alt 19 (.alt 17 .done .stop) .stop)))) .stop) .stop)) (.alt 12 (.alt 1 (.read 13 (.alt 15 (.read 16 (.read 18 (.alt 17 (.alt 19 .done .stop) (.alt 19 (.alt 17 .done .stop) .stop)))) .stop)) .stop) .stop)) .stop))))) AX rD (fun X kd ed=>⟨fun V=>CC V b (o+4) (.slice (some ⟨b',o',none⟩) G.length cc),?_,?_⟩)
   ·exact kd.cell q4W O
   have ca:∀V:World,CC V b (o+4) (.slice (some ⟨b',o',none⟩) G.length cc)->CC V b (o+4) (.slice (some ⟨b',o',none⟩) G.length cc):=fun V e=>e;refine go ?_;have b5:Keep [F] w X:=K.ext kd;have a0:=bW.ext kd;have b9:=zW.E kd O;have zdz:=kd.size;have b6:Keep [F] X X:=Keep.refl _ _;have bwd:=a4.E kd O;have c0:=a0.D;have c7:CC X b (o+4) (.slice (some ⟨b',o',none⟩) G.length cc):=kd.cell q4W O;have e9:∀V,Keep [F] X V->PF (fun b=>b≠F) V b' (o'+k*5) x:=fun V e=>h8.E (b5.Q e (fun _ h _=>h)) (fun y I r=>by simp at r;exact I r);have g9:=e9 X b6
   obtain⟨vp,vc,rfl⟩:∃p c,v0=.slice p lk.length c:=by
    rcases a0.own.2 with⟨e,h0⟩|⟨g,i5,i6,e,_⟩
    ·exact⟨none,0,by rw[e,h0]⟩
    ·exact⟨_,_,e⟩
   have a3:∀g,(Value.slice vp lk.length vc).ownBlock=some g->C.heap.size<=g/\g<X.heap.size/\g≠t:=fun g j=>⟨(Ao a0.own j).1,(Ao a0.own j).2,a0.ne g j⟩;have q:∀y∈(Value.slice vp lk.length vc).ownBlock.toList,C.heap.size<=y/\y<X.heap.size/\y≠t:=fun y I=>a3 y (Aw.1 I)
   refine JP (α:=Value×LV) (.read 16 (.read 18 (.alt 17 (.alt 19 .done .stop) (.alt 19 (.alt 17 .done .stop) .stop)))) (fun y=>[(0,pt F),(1,.pointer (some ⟨b,o,none⟩)),(2,.bool neg),(3,iV d),(8,pt w.heap.size),(9,pt t),(139,iV (G.length:Int)),(140,iV (k:Int)),(166,.agg y.2.toArray),(167,iV (lk.length:Int)),(169,y.1)])
    (fun y V=>Keep [F] w V/\BAt V F rx.2/\Blk V t 37 [iV a7,AA nm,iV vk,iV 0,.slice vp lk.length vc]/\V.ownsRow C.heap.size 37 5 y.1 (lk.length+1) (L0.flatten++zero5)/\y.2.length=5/\oneC y.2/\(∀g,y.1.ownBlock=some g->g≠t)/\
     FAt (fun b=>(C.heap.size<=b/\b≠t)/\y.1.ownBlock≠some b) V (.agg y.2.toArray) rx.1/\FsAt (fun b=>(C.heap.size<=b/\b≠t)/\y.1.ownBlock≠some b) V L0 lk/\Blk V w.heap.size 37 zero5/\t<V.heap.size) ?_ (fun leaf=>?_)
   ·rintro⟨v8,H⟩f' V⟨kV,bV,cV,oV,a1,a2,c2,fV,sV,zV,lV⟩;simp only at oV a1 a2 c2 fV sV;obtain⟨g,f5,M,rfl,j,bM,hM,i1,i2⟩:=Mn (cs:=H) oV (by rw[a0.fs.flat]) a1 cV c2;have j2:g≠F:=by omega
    have g2:g≠t:=c2 g rfl;have d3:=kV.cell q4 rU;have j6:=kV.size;refine go ?_;refine D_A rfl ?_ (D_E rfl ?_)
    ·refine Aa (o:=0+lk.length*5) (cs:=H) rfl rfl a1 a2 bM U (fun w8 p8=>?_);refine wNl (p8.E.cell d3 rE) ?_;refine D_E rfl ?_;refine AW rfl rfl rfl (cV.E p8.E (by simpa using g2.symm)) O (fun w9 E=>?_);refine wNl (E.E.cell (p8.E.cell d3 rE) rE) ?_;rw[Bs]at p8;obtain⟨kE,cE,oE⟩:=i1 w8 w9 p8 E;refine go ?_;have b0:=b0;refine⟨(k+1,.slice (sm g) _ f5,L0++[H]),⟨rfl,ag,⟨by simp only;omega,kV.Q kE (fun y I T=>by simp at I;rcases I with rfl|rfl;omega;omega),?_,⟨cE,?_,?_,fun g' e4=>c2 g' e4⟩,zV.E kE rE,by have:=kE.size;omega⟩⟩,by simp only;omega⟩
     ·simp only;rw[b0];exact bV.E kE rE
     ·simp only;rw[b0,<-Cg,<-b8];exact WE oE
     ·exact uF
    ·refine AW rfl rfl rfl cV O (fun w8 p8=>?_);refine wNl (p8.E.cell d3 rE) ?_;refine D_E rfl ?_;refine Aa (o:=0+lk.length*5) (cs:=H) rfl rfl a1 a2 (bM.E p8.E (by simpa using g2)) U (fun w9 E=>?_);refine wNl (E.E.cell (p8.E.cell d3 rE) rE) ?_;rw[Bs]at E;obtain⟨kE,cE,oE⟩:=i2 w8 w9 p8 E;refine go ?_;have b0:=b0;refine⟨(k+1,.slice (sm g) _ f5,L0++[H]),⟨rfl,ag,⟨by simp only;omega,kV.Q kE (fun y I T=>by simp at I;rcases I with rfl|rfl;omega;omega),?_,⟨cE,?_,?_,fun g' e4=>c2 g' e4⟩,zV.E kE rE,by have:=kE.size;omega⟩⟩,by simp only;omega⟩
     ·simp only;rw[b0];exact bV.E kE rE
     ·simp only;rw[b0,<-Cg,<-b8];exact WE oE
     ·exact uF
   refine D_A rfl ?_ (D_A rfl ?_ (D_E rfl ?_))
   ·refine AQ rfl (c0.cell (o:=4) rfl) ?_;refine wNl c7 ?_;refine go ?_;refine D_A rfl ?_ (D_E rfl ?_)
    ·refine AD (c3 X g9 bwd) rfl ?_;rintro u8 wA⟨S,bA,B⟩;obtain⟨H,rfl,a1,a2⟩:=B.cells;obtain⟨x0,x1,x2,x3,x4,rfl⟩:=An a1;have kA:Keep [F] X wA:=b6.Q S (fun _ h _=>h);have cA:=c0.E S rE;have sA:=S.cell c7 rU;have gA:FAt (fun b=>X.heap.size<=b) wA (.agg [x0,x1,x2,x3,x4].toArray) rx.1:=B.mono fun y I=>Az b6.size I;refine wNl sA ?_;refine D_E rfl ?_;refine Ay (out:=zero5) rfl U rP (fun A z=>?_);have kB:Keep [F] X A:=kA.ext z.E;have cB:=cA.E z.E O;have bB:=bA.E z.E O;have sB:=z.E.cell sA O;have oz:=z.own (n:=1) (size:=5) rfl rL (AO _);refine wNl sB ?_;have gB:=gA.E z.E (fun _ _=>by simp);refine D_E rfl ?_;refine Bk (ok:=AL) (v:=.slice vp lk.length vc) rfl rfl (Bf a0.own kB (fun g j r=>by have:=(Ao a0.own j).1;simp at r;omega)) (BG (oz) fun _ _=>trivial) U rfl rfl (Ak rfl) U U ru (fun v8 w8 R=>?_);refine wNl (R.E.cell sB (fun I=>by have:=(q _ I).1;omega)) ?_;have zk:=kB.size
     have P:∀g,v8.ownBlock=some g->C.heap.size<=g/\g≠t/\((Value.slice vp lk.length vc).ownBlock=some g\/A.heap.size<=g):=fun g j=>by
      rcases R.D with e|e
      ·rw[e]at j;exact⟨(a3 g j).1,(a3 g j).2.2,.inl j⟩
      ·rw[e]at j;obtain rfl:=Ae j;exact⟨by omega,by omega,.inr (AO _)⟩
     exact leaf (v8,[x0,x1,x2,x3,x4]) _ _ ag ⟨(b5.Q kB (fun _ h _=>h)).Q R.E (fun y I T=>by have:=(q y I).1;omega),bB.E R.E (fun I=>by have:=(q _ I).1;omega),cB.E R.E (fun I=>(q _ I).2.2 rfl),R.own,rfl,a2,(fun g j=>(P g j).2.1),
      (gB.lt.E R.E (fun y I r=>by have:=(q y r).2.1;have:=I.1;omega)).mono fun y I=>⟨⟨by have:=I.1;omega,by have:=I.1;omega⟩,fun e=>by have Z:=(P y e).2.2;have h2:=I.1;have h3:=I.2;rcases Z with Z|Z;have:=(a3 y Z).2.1;omega;omega⟩,
      ((a0.fs.lt.E kB (fun y I r=>by have:=I.1.1.1;simp at r;omega)).E R.E (fun y I r=>I.1.2 (Aw.1 r))).mono fun y I=>⟨I.1.1,fun e=>by have Z:=(P y e).2.2;have h2:=I.2;rcases Z with Z|Z;exact I.1.2 Z;omega⟩,
      (b9.E kB rE).E R.E (fun I=>by have:=(q _ I).1;omega),by have:=R.E.size;omega⟩
    ·refine Ay (out:=zero5) rfl U rP (fun wA z=>?_);have kA:Keep [F] X wA:=b6.ext z.E;have cA:=c0.E z.E O;have bA:=bwd.E z.E O;have sA:=z.E.cell c7 O;have oz:=z.own (n:=1) (size:=5) rfl rL (AO _);refine wNl sA ?_;have xA:=e9 wA kA;refine D_E rfl ?_;refine AD (c3 wA xA bA) rfl ?_;rintro u8 A⟨S,bB,B⟩;obtain⟨H,rfl,a1,a2⟩:=B.cells;obtain⟨x0,x1,x2,x3,x4,rfl⟩:=An a1;have kB:Keep [F] X A:=kA.Q S (fun _ h _=>h);have cB:=cA.E S rE;have sB:=S.cell sA rU;have gB:FAt (fun b=>X.heap.size<=b) A (.agg [x0,x1,x2,x3,x4].toArray) rx.1:=B.mono fun y I=>Az kA.size I;refine wNl sB ?_;have c5:=Bf oz S (fun g j r=>by have:=(Ao oz j).1;simp at r;omega);refine D_E rfl ?_;refine Bk (ok:=AL) (v:=.slice vp lk.length vc) rfl rfl (Bf a0.own kB (fun g j r=>by have:=(Ao a0.own j).1;simp at r;omega)) (BG (c5) fun _ _=>trivial) U rfl rfl (Ak rfl) U U ru (fun v8 w8 R=>?_);refine wNl (R.E.cell sB (fun I=>by have:=(q _ I).1;omega)) ?_;have zk:=kB.size
     have P:∀g,v8.ownBlock=some g->C.heap.size<=g/\g≠t/\((Value.slice vp lk.length vc).ownBlock=some g\/A.heap.size<=g):=fun g j=>by
      rcases R.D with e|e
      ·rw[e]at j;exact⟨(a3 g j).1,(a3 g j).2.2,.inl j⟩
      ·rw[e]at j;obtain rfl:=Ae j;exact⟨by omega,by omega,.inr (AO _)⟩
     exact leaf (v8,[x0,x1,x2,x3,x4]) _ _ ag ⟨(b5.Q kB (fun _ h _=>h)).Q R.E (fun y I T=>by have:=(q y I).1;omega),bB.E R.E (fun I=>by have:=(q _ I).1;omega),cB.E R.E (fun I=>(q _ I).2.2 rfl),R.own,rfl,a2,(fun g j=>(P g j).2.1),
      (gB.lt.E R.E (fun y I r=>by have:=(q y r).2.1;have:=I.1;omega)).mono fun y I=>⟨⟨by have:=I.1;omega,by have:=I.1;omega⟩,fun e=>by have Z:=(P y e).2.2;have h2:=I.1;have h3:=I.2;rcases Z with Z|Z;have:=(a3 y Z).2.1;omega;omega⟩,
      ((a0.fs.lt.E kB (fun y I r=>by have:=I.1.1.1;simp at r;omega)).E R.E (fun y I r=>I.1.2 (Aw.1 r))).mono fun y I=>⟨I.1.1,fun e=>by have Z:=(P y e).2.2;have h2:=I.2;rcases Z with Z|Z;exact I.1.2 Z;omega⟩,
      (b9.E kB rE).E R.E (fun I=>by have:=(q _ I).1;omega),by have:=R.E.size;omega⟩
   ·refine AD (c3 X g9 bwd) rfl ?_;rintro u8 wA⟨S,bA,B⟩;obtain⟨H,rfl,a1,a2⟩:=B.cells;obtain⟨x0,x1,x2,x3,x4,rfl⟩:=An a1;have kA:Keep [F] X wA:=b6.Q S (fun _ h _=>h);have cA:=c0.E S rE;have sA:=S.cell c7 rU;have gA:FAt (fun b=>X.heap.size<=b) wA (.agg [x0,x1,x2,x3,x4].toArray) rx.1:=B.mono fun y I=>Az b6.size I;refine wNl sA ?_;refine D_A rfl ?_ (D_E rfl ?_)
    ·refine AQ rfl (cA.cell (o:=4) rfl) ?_;refine wNl sA ?_;refine gE ?_;refine Ay (out:=zero5) rfl U rP (fun A z=>?_);have kB:Keep [F] X A:=kA.ext z.E;have cB:=cA.E z.E O;have bB:=bA.E z.E O;have sB:=z.E.cell sA O;have oz:=z.own (n:=1) (size:=5) rfl rL (AO _);refine wNl sB ?_;have gB:=gA.E z.E (fun _ _=>by simp);refine D_E rfl ?_;refine Bk (ok:=AL) (v:=.slice vp lk.length vc) rfl rfl (Bf a0.own kB (fun g j r=>by have:=(Ao a0.own j).1;simp at r;omega)) (BG (oz) fun _ _=>trivial) U rfl rfl (Ak rfl) U U ru (fun v8 w8 R=>?_);refine wNl (R.E.cell sB (fun I=>by have:=(q _ I).1;omega)) ?_;have zk:=kB.size
     have P:∀g,v8.ownBlock=some g->C.heap.size<=g/\g≠t/\((Value.slice vp lk.length vc).ownBlock=some g\/A.heap.size<=g):=fun g j=>by
      rcases R.D with e|e
      ·rw[e]at j;exact⟨(a3 g j).1,(a3 g j).2.2,.inl j⟩
      ·rw[e]at j;obtain rfl:=Ae j;exact⟨by omega,by omega,.inr (AO _)⟩
     exact leaf (v8,[x0,x1,x2,x3,x4]) _ _ ag ⟨(b5.Q kB (fun _ h _=>h)).Q R.E (fun y I T=>by have:=(q y I).1;omega),bB.E R.E (fun I=>by have:=(q _ I).1;omega),cB.E R.E (fun I=>(q _ I).2.2 rfl),R.own,rfl,a2,(fun g j=>(P g j).2.1),
      (gB.lt.E R.E (fun y I r=>by have:=(q y r).2.1;have:=I.1;omega)).mono fun y I=>⟨⟨by have:=I.1;omega,by have:=I.1;omega⟩,fun e=>by have Z:=(P y e).2.2;have h2:=I.1;have h3:=I.2;rcases Z with Z|Z;have:=(a3 y Z).2.1;omega;omega⟩,
      ((a0.fs.lt.E kB (fun y I r=>by have:=I.1.1.1;simp at r;omega)).E R.E (fun y I r=>I.1.2 (Aw.1 r))).mono fun y I=>⟨I.1.1,fun e=>by have Z:=(P y e).2.2;have h2:=I.2;rcases Z with Z|Z;exact I.1.2 Z;omega⟩,
      (b9.E kB rE).E R.E (fun I=>by have:=(q _ I).1;omega),by have:=R.E.size;omega⟩
    ·refine Ay (out:=zero5) rfl U rP (fun A z=>?_);have kB:Keep [F] X A:=kA.ext z.E;have cB:=cA.E z.E O;have bB:=bA.E z.E O;have sB:=z.E.cell sA O;have oz:=z.own (n:=1) (size:=5) rfl rL (AO _);refine wNl sB ?_;have gB:=gA.E z.E (fun _ _=>by simp);refine D_E rfl ?_;refine AQ rfl (cB.cell (o:=4) rfl) ?_;refine wNl sB ?_;refine gE ?_;refine Bk (ok:=AL) (v:=.slice vp lk.length vc) rfl rfl (Bf a0.own kB (fun g j r=>by have:=(Ao a0.own j).1;simp at r;omega)) (BG (oz) fun _ _=>trivial) U rfl rfl (Ak rfl) U U ru (fun v8 w8 R=>?_);refine wNl (R.E.cell sB (fun I=>by have:=(q _ I).1;omega)) ?_;have zk:=kB.size
     have P:∀g,v8.ownBlock=some g->C.heap.size<=g/\g≠t/\((Value.slice vp lk.length vc).ownBlock=some g\/A.heap.size<=g):=fun g j=>by
      rcases R.D with e|e
      ·rw[e]at j;exact⟨(a3 g j).1,(a3 g j).2.2,.inl j⟩
      ·rw[e]at j;obtain rfl:=Ae j;exact⟨by omega,by omega,.inr (AO _)⟩
     exact leaf (v8,[x0,x1,x2,x3,x4]) _ _ ag ⟨(b5.Q kB (fun _ h _=>h)).Q R.E (fun y I T=>by have:=(q y I).1;omega),bB.E R.E (fun I=>by have:=(q _ I).1;omega),cB.E R.E (fun I=>(q _ I).2.2 rfl),R.own,rfl,a2,(fun g j=>(P g j).2.1),
      (gB.lt.E R.E (fun y I r=>by have:=(q y r).2.1;have:=I.1;omega)).mono fun y I=>⟨⟨by have:=I.1;omega,by have:=I.1;omega⟩,fun e=>by have Z:=(P y e).2.2;have h2:=I.1;have h3:=I.2;rcases Z with Z|Z;have:=(a3 y Z).2.1;omega;omega⟩,
      ((a0.fs.lt.E kB (fun y I r=>by have:=I.1.1.1;simp at r;omega)).E R.E (fun y I r=>I.1.2 (Aw.1 r))).mono fun y I=>⟨I.1.1,fun e=>by have Z:=(P y e).2.2;have h2:=I.2;rcases Z with Z|Z;exact I.1.2 Z;omega⟩,
      (b9.E kB rE).E R.E (fun I=>by have:=(q _ I).1;omega),by have:=R.E.size;omega⟩
   ·refine Ay (out:=zero5) rfl U rP (fun wA z=>?_);have kA:Keep [F] X wA:=b6.ext z.E;have cA:=c0.E z.E O;have bA:=bwd.E z.E O;have sA:=z.E.cell c7 O;have oz:=z.own (n:=1) (size:=5) rfl rL (AO _);refine wNl sA ?_;have xA:=e9 wA kA;refine D_A rfl ?_ (D_E rfl ?_)
    ·refine AQ rfl (cA.cell (o:=4) rfl) ?_;refine wNl sA ?_;refine gE ?_;refine AD (c3 wA xA bA) rfl ?_;rintro u8 A⟨S,bB,B⟩;obtain⟨H,rfl,a1,a2⟩:=B.cells;obtain⟨x0,x1,x2,x3,x4,rfl⟩:=An a1;have kB:Keep [F] X A:=kA.Q S (fun _ h _=>h);have cB:=cA.E S rE;have sB:=S.cell sA rU;have gB:FAt (fun b=>X.heap.size<=b) A (.agg [x0,x1,x2,x3,x4].toArray) rx.1:=B.mono fun y I=>Az kA.size I;refine wNl sB ?_;have c5:=Bf oz S (fun g j r=>by have:=(Ao oz j).1;simp at r;omega);refine D_E rfl ?_;refine Bk (ok:=AL) (v:=.slice vp lk.length vc) rfl rfl (Bf a0.own kB (fun g j r=>by have:=(Ao a0.own j).1;simp at r;omega)) (BG (c5) fun _ _=>trivial) U rfl rfl (Ak rfl) U U ru (fun v8 w8 R=>?_);refine wNl (R.E.cell sB (fun I=>by have:=(q _ I).1;omega)) ?_;have zk:=kB.size
     have P:∀g,v8.ownBlock=some g->C.heap.size<=g/\g≠t/\((Value.slice vp lk.length vc).ownBlock=some g\/A.heap.size<=g):=fun g j=>by
      rcases R.D with e|e
      ·rw[e]at j;exact⟨(a3 g j).1,(a3 g j).2.2,.inl j⟩
      ·rw[e]at j;obtain rfl:=Ae j;exact⟨by omega,by omega,.inr (AO _)⟩
     exact leaf (v8,[x0,x1,x2,x3,x4]) _ _ ag ⟨(b5.Q kB (fun _ h _=>h)).Q R.E (fun y I T=>by have:=(q y I).1;omega),bB.E R.E (fun I=>by have:=(q _ I).1;omega),cB.E R.E (fun I=>(q _ I).2.2 rfl),R.own,rfl,a2,(fun g j=>(P g j).2.1),
      (gB.lt.E R.E (fun y I r=>by have:=(q y r).2.1;have:=I.1;omega)).mono fun y I=>⟨⟨by have:=I.1;omega,by have:=I.1;omega⟩,fun e=>by have Z:=(P y e).2.2;have h2:=I.1;have h3:=I.2;rcases Z with Z|Z;have:=(a3 y Z).2.1;omega;omega⟩,
      ((a0.fs.lt.E kB (fun y I r=>by have:=I.1.1.1;simp at r;omega)).E R.E (fun y I r=>I.1.2 (Aw.1 r))).mono fun y I=>⟨I.1.1,fun e=>by have Z:=(P y e).2.2;have h2:=I.2;rcases Z with Z|Z;exact I.1.2 Z;omega⟩,
      (b9.E kB rE).E R.E (fun I=>by have:=(q _ I).1;omega),by have:=R.E.size;omega⟩
    ·refine AD (c3 wA xA bA) rfl ?_;rintro u8 A⟨S,bB,B⟩;obtain⟨H,rfl,a1,a2⟩:=B.cells;obtain⟨x0,x1,x2,x3,x4,rfl⟩:=An a1;have kB:Keep [F] X A:=kA.Q S (fun _ h _=>h);have cB:=cA.E S rE;have sB:=S.cell sA rU;have gB:FAt (fun b=>X.heap.size<=b) A (.agg [x0,x1,x2,x3,x4].toArray) rx.1:=B.mono fun y I=>Az kA.size I;refine wNl sB ?_;have c5:=Bf oz S (fun g j r=>by have:=(Ao oz j).1;simp at r;omega);refine D_E rfl ?_;refine AQ rfl (cB.cell (o:=4) rfl) ?_;refine wNl sB ?_;refine gE ?_;refine Bk (ok:=AL) (v:=.slice vp lk.length vc) rfl rfl (Bf a0.own kB (fun g j r=>by have:=(Ao a0.own j).1;simp at r;omega)) (BG (c5) fun _ _=>trivial) U rfl rfl (Ak rfl) U U ru (fun v8 w8 R=>?_);refine wNl (R.E.cell sB (fun I=>by have:=(q _ I).1;omega)) ?_;have zk:=kB.size
     have P:∀g,v8.ownBlock=some g->C.heap.size<=g/\g≠t/\((Value.slice vp lk.length vc).ownBlock=some g\/A.heap.size<=g):=fun g j=>by
      rcases R.D with e|e
      ·rw[e]at j;exact⟨(a3 g j).1,(a3 g j).2.2,.inl j⟩
      ·rw[e]at j;obtain rfl:=Ae j;exact⟨by omega,by omega,.inr (AO _)⟩
     exact leaf (v8,[x0,x1,x2,x3,x4]) _ _ ag ⟨(b5.Q kB (fun _ h _=>h)).Q R.E (fun y I T=>by have:=(q y I).1;omega),bB.E R.E (fun I=>by have:=(q _ I).1;omega),cB.E R.E (fun I=>(q _ I).2.2 rfl),R.own,rfl,a2,(fun g j=>(P g j).2.1),
      (gB.lt.E R.E (fun y I r=>by have:=(q y r).2.1;have:=I.1;omega)).mono fun y I=>⟨⟨by have:=I.1;omega,by have:=I.1;omega⟩,fun e=>by have Z:=(P y e).2.2;have h2:=I.1;have h3:=I.2;rcases Z with Z|Z;have:=(a3 y Z).2.1;omega;omega⟩,
      ((a0.fs.lt.E kB (fun y I r=>by have:=I.1.1.1;simp at r;omega)).E R.E (fun y I r=>I.1.2 (Aw.1 r))).mono fun y I=>⟨I.1.1,fun e=>by have Z:=(P y e).2.2;have h2:=I.2;rcases Z with Z|Z;exact I.1.2 Z;omega⟩,
      (b9.E kB rE).E R.E (fun I=>by have:=(q _ I).1;omega),by have:=R.E.size;omega⟩
  ·obtain rfl:k=G.length:=by omega
   rw[Co]at a4 bW;have bf:=bW.D;refine go ?_;refine Aa (cs:=[iV a7,AA nm,iV vk,iV 0,v0]) rfl rfl rfl ?_ zW rK (fun w9 E=>?_)
   ·intro u hu;simp at hu;rcases hu with rfl|rfl|rfl|rfl|rfl<;>first|rfl|exact MZ bW.own
   refine go ?_;exact Ar rfl rfl rfl E.D.cells ⟨K.Q E.E (fun y I T=>by simp at I;omega),a4.E E.E rE,(bW.fin.E E.E (fun y I r=>by have:=I.1;simp at r;omega)).mono fun y I=>by have:=I.1;omega⟩
 refine D_A rfl ?_ (D_E rfl ?_)
 ·refine AD (Rz X m) rfl ?_;rintro _ _⟨rfl,rfl⟩;refine wNl (Ext.refl _) ?_;refine gE ?_;refine Ai (L:=zero5) (fun w4 n4=>?_);refine wNl n4.E ?_;exact leaf () _ _ ag n4
 ·refine Ai (L:=zero5) (fun w4 n4=>?_);refine wNl n4.E ?_;refine D_E rfl ?_;refine AD (Rz w4 m) rfl ?_;rintro _ _⟨rfl,rfl⟩;refine wNl n4.E ?_;refine go ?_;exact leaf () _ _ ag n4
def DD(a b:Int):Int:=if a<b then -1 else if b<a then 1 else 0
def C6:LU->LU->Int
 | [],[]=>0
 | [],_::_=> -1
 |_::_,[]=>1
 |a::s,b::t=>if a.toNat<b.toNat then -1 else if b.toNat<a.toNat then 1 else C6 s t
def Ck(a b:Int):Int:=if a=0 then b else a
mutual
def BO:Fml->Fml->Int
 | .mk o n v b l,.mk o' n' v' b' l'=>Ck (DD o o') (Ck (C6 n n') (Ck (DD v v') (Ck (DD b b') (Ck (DD l.length l'.length) (Db l l')))))
def Db:LF->LF->Int
 |a::l,c::m=>Ck (BO a c) (Db l m)
 | [],_=>0
 |_::_,[]=>0
end
def MB{a b:Int}:Ck a b=0↔a=0/\b=0:=by
 unfold Ck;split<;>simp_all
def cmpI_zero{a b:Int}:DD a b=0↔a=b:=by unfold DD;split<;>(try split)<;>omega
def N7(a b:Int):DD b a= -DD a b:=by unfold DD;split<;>(try split)<;>(try split)<;>omega
def Ns{a b c:Int}(h:DD a b<0)(Q:DD b c<0):DD a c<0:=by
 unfold DD at*;split at h<;>(try split at h)<;>split at Q<;>(try split at Q)<;>split<;>(try split)<;>omega
def cmpS_zero:∀{s t:LU},C6 s t=0↔s=t
 | [],[]=>by simp[C6]
 | [],_::_=>by simp[C6]
 |_::_,[]=>by simp[C6]
 |a::s,b::t=>by
  rw[C6]
  split
  ·rename_i h;refine⟨fun h=>by omega,fun W=>?_⟩;cases W;omega
  split
  ·rename_i h;refine⟨fun h=>by omega,fun W=>?_⟩;cases W;omega
  ·rename_i h1 W;have:a=b:=UInt8.toNat_inj.1 U;rw[cmpS_zero,this];simp
def Ub:∀(s t:LU),C6 t s= -C6 s t
 | [],[]=>rfl
 | [],_::_=>rfl
 |_::_,[]=>rfl
 |a::s,b::t=>by
  rw[C6,C6,Ub s t];by_cases h:a.toNat<b.toNat
  ·rw[AG U,AJ h,AJ h];rfl
  ·by_cases W:b.toNat<a.toNat
   ·rw[AJ W,AG h,AJ W]
   ·rw[AG W,AG h,AG h,AG W]
def Ts:∀{s t u:LU},C6 s t<0->C6 t u<0->C6 s u<0
 | [],[],u,h,_=>by simp[C6]at h
 | [],_::_,[],_,h=>by simp[C6]at h
 | [],_::_,_::_,_,_=>by simp[C6]
 |_::_,[],u,h,_=>by simp[C6]at h
 |_::_,_::_,[],_,h=>by simp[C6]at h
 |a::s,b::t,c::u,h,h'=>by
  rw[C6]at h h'⊢;by_cases Z:a.toNat<b.toNat
  ·by_cases W:c.toNat<b.toNat
   ·rw[AG U,AJ W]at h';omega
   ·rw[AJ U];omega
  ·rw[AG Z]at h;by_cases W:b.toNat<a.toNat
   ·rw[AJ W]at h;omega
   ·rw[AG W]at h;by_cases R:b.toNat<c.toNat
    ·rw[AJ U];omega
    ·rw[AG R]at h';by_cases A:c.toNat<b.toNat
     ·rw[AJ A]at h';omega
     ·rw[AG A]at h';rw[AG U,AG U];exact Ts h h'
def Ko{a b Z q:Int}(h:Z= -a)(Q:a=0->q= -b):Ck Z q= -Ck a b:=by
 unfold Ck;by_cases v:a=0
 ·rw[AJ U,AJ v];exact Q v
 ·rw[AG U,AG v];exact h
def oM{a b:Int}:Ck a b<0↔a<0\/a=0/\b<0:=by
 unfold Ck;split<;>omega
def Ki{B w x q h a:Int}(b:B<0->w<0->x<0)(I:B=0->x=w)(A:w=0->x=B)(S:B=0->w=0->q<0->h<0->a<0)(Z:Ck B q<0)(W:Ck w h<0):Ck x a<0:=by
 rw[oM]at*
 rcases Z with Z|⟨Z,K⟩<;>rcases W with W|⟨W,c⟩
 ·exact .inl (b Z W)
 ·exact .inl (by have:=A W;omega)
 ·exact .inl (by have:=I Z;omega)
 ·refine .inr ⟨by have:=I Z;omega,S Z W K c⟩
mutual
def Gf:∀(f g:Fml),BO f g=0↔f=g
 | .mk o n v b l,.mk o' n' v' b' l'=>by
  rw[BO];simp only[MB,cmpI_zero,cmpS_zero,Fml.mk.injEq];constructor
  ·rintro⟨rfl,rfl,rfl,rfl,h,h'⟩;exact⟨rfl,rfl,rfl,rfl,(Qt l l' U).1 h'⟩
  ·rintro⟨rfl,rfl,rfl,rfl,rfl⟩;exact⟨rfl,rfl,rfl,rfl,rfl,(Qt l l rfl).2 rfl⟩
def Qt:∀(l m:LF),l.length=m.length->(Db l m=0↔l=m)
 |a::l,c::m,h=>by
  rw[Db,MB,Gf a c,Qt l m rT];simp
 | [],[],_=>by simp[Db]
 | [],_::_,h=>by simp at h
 |_::_,[],h=>by simp at h
end
mutual
def MH:∀(f g:Fml),BO g f= -BO f g
 | .mk o n v b l,.mk o' n' v' b' l'=>by
  rw[BO,BO];refine Ko (N7 _ _) fun _=>Ko (Ub _ _) fun _=>Ko (N7 _ _) fun _=>Ko (N7 _ _) fun _=>Ko (N7 _ _) fun _=>Ua l l'
def Ua:∀(l m:LF),Db m l= -Db l m
 |a::l,c::m=>by rw[Db,Db];exact Ko (MH a c) fun _=>Ua l m
 | [],[]=>rfl
 | [],_::_=>rfl
 |_::_,[]=>rfl
end
def N8{a b c:Int}(h:DD a b=0):DD a c=DD b c:=by rw[cmpI_zero.1 h]
def Nr{a b c:Int}(h:DD b c=0):DD a c=DD a b:=by rw[cmpI_zero.1 h]
def eI{a b c:LU}(h:C6 a b=0):C6 a c=C6 b c:=by rw[cmpS_zero.1 h]
def cR{a b c:LU}(h:C6 b c=0):C6 a c=C6 a b:=by rw[cmpS_zero.1 h]
mutual
def JD:∀(f g k:Fml),BO f g<0->BO g k<0->BO f k<0
 | .mk o n v b l,.mk o' n' v' b' l',.mk o'' n'' v'' b'' l''=>by
  rw[BO,BO,BO]
  refine Ki Ns N8 Nr fun _ _=>Ki Ts eI cR fun _ _=>Ki Ns N8 Nr fun _ _=>Ki Ns N8 Nr fun _ _=>
   Ki Ns N8 Nr fun h1 h2=>Tr l l' l'' (by have:=cmpI_zero.1 h1;omega) (by have:=cmpI_zero.1 h2;omega)
def Tr:∀(l m k:LF),l.length=m.length->m.length=k.length->Db l m<0->Db m k<0->Db l k<0
 |a::l,c::m,d::k,h,h'=>by
  rw[Db,Db,Db];exact Ki (JD a c d) (fun e=>by rw[(Gf a c).1 e]) (fun e=>by rw[(Gf c d).1 e]) fun _ _=>Tr l m k rT (by simpa using h')
 | [],[],_,_,_=>fun h=>by simp[Db]at h
 | [],_::_,_,h,_=>by simp at h
 |_::_,[],_,h,_=>by simp at h
 |_::_,_::_,[],_,h=>by simp at h
end
def Gw(a:Fml):LF->LF
 | []=>[a]
 |c::l=>if BO a c<0 then a::c::l else if BO a c=0 then c::l else c::Gw a l
def Dl(l:LF):LF:=l.foldr Gw []
def Inc:LF->Prop
 | []=>True
 |a::l=>(∀c∈l,BO a c<0)/\Inc l
def mem_insF{a x:Fml}:∀{l:LF},x∈Gw a l↔x=a\/x∈l
 | []=>by simp[Gw]
 |c::l=>by
  rw[Gw]
  split
  ·simp
  split
  ·rename_i h;have:=(Gf a c).1 h;subst this;simp
  ·simp only[BI,mem_insF (l:=l)];constructor
   ·rintro(h|h|h)
    ·exact .inr (.inl h)
    ·exact .inl h
    ·exact .inr (.inr h)
   ·rintro(h|h|h)
    ·exact .inr (.inl h)
    ·exact .inl h
    ·exact .inr (.inr h)
def mem_dist{x:Fml}:∀{l:LF},x∈Dl l↔x∈l
 | []=>Ho
 |c::l=>by
  show x∈Gw c (Dl l)↔_;rw[mem_insF,mem_dist (l:=l)];simp
def Vs{a:Fml}:∀{l:LF},Inc l->Inc (Gw a l)
 | [],_=>by simp[Gw,Inc]
 |c::l,h=>by
  rw[Gw]
  split
  ·rename_i hlt;refine⟨fun d x=>?_,h⟩;rcases BI.1 x with rfl|x
   ·exact hlt
   ·exact JD _ _ _ hlt (h.1 d x)
  split
  ·exact h
  ·rename_i h1 h2;refine⟨fun d x=>?_,Vs h.2⟩;rcases mem_insF.1 x with rfl|x
   ·have:=MH d c;omega
   ·exact h.1 d x
def MX:∀l:LF,Inc (Dl l)
 | []=>trivial
 |c::l=>Vs (MX l)
def Oz(a:Fml):¬BO a a<0:=by rw[(Gf a a).2 rfl];omega
def R1:∀{l m:LF},Inc l->Inc m->(∀x,x∈l↔x∈m)->l=m
 | [],[],_,_,_=>rfl
 | [],c::m,_,_,h=>by have:=(h c).2 O;cases this
 |a::l,[],_,_,h=>by have:=(h a).1 O;cases this
 |a::l,c::m,hl,hm,h=>by
  have e:a=c:=by
   have Z:=(h a).1 O;have W:=(h c).2 O;rcases BI.1 Z with rfl|Z
   ·rfl
   ·rcases BI.1 W with rfl|W
    ·rfl
    ·exact absurd (JD _ _ _ (hl.1 c W) (hm.1 a Z)) (Oz a)
  subst e
  have:l=m:=R1 hl.2 hm.2 fun x=>by
   constructor
   ·intro V;rcases BI.1 ((h x).1 (Li _ V))with rfl|I
    ·exact absurd (hl.1 x V) (Oz x)
    ·exact I
   ·intro V;rcases BI.1 ((h x).2 (Li _ V))with rfl|I
    ·exact absurd (hm.1 x V) (Oz x)
    ·exact I
  rw[this]
def lz{l:LF}(h:Inc l):Dl l=l:=R1 (MX l) h fun _=>mem_dist
def Dk(op:Int):Int:=if op=6 then 2 else 1
def DA(op:Int):Int:=if op=6 then 1 else 2
def LX(op:Int):LF->Option (LF)
 | []=>some []
 |f::l=>if f.op=op then(LX op l).map (f.args++ ·)else if f.op=DA op then none else if f.op=Dk op then LX op l else(LX op l).map (f:: ·)
def Fg(l:LF):Bool:=l.any fun x=>decide (x.op=4)&&l.any fun y=>decide (BO y (x.args.getD 0 Ad)=0)
def NC(op:Int)(d:LF):Fml:=if Fg d then⟨DA op,[],0,0,[]⟩else match d with
 | []=>⟨Dk op,[],0,0,[]⟩
 | [a]=>a
 |d=>opF op d
def GT(op:Int)(l:LF):Fml:=match LX op l with
 |none=>⟨DA op,[],0,0,[]⟩
 |some g=>NC op (Dl g)
def Cz(f:Fml):Bool:=decide (f.op=1)||decide (f.op=2)
def Dr(op:Int)(l:LU)(v:Int)(A:LF):Fml:=
 if op=5\/op=6 then GT op A
 else if op=8/\Cz (A.getD 0 Ad)=true then A.getD 0 Ad
 else if op=9/\(Cz (A.getD 1 Ad)=true\/(A.getD 0 Ad).op=2)then A.getD 1 Ad
 else if op=10/\(Cz (A.getD 1 Ad)=true\/(A.getD 0 Ad).op=1)then A.getD 1 Ad
 else⟨op,l,v,0,A⟩
mutual
def Ba:Fml->Fml
 | .mk op nm v _ args=>Dr op nm v (PK args)
def PK:LF->LF
 | []=>[]
 |a::l=>Ba a::PK l
end
def UX:∀l,PK l=l.map Ba
 | []=>rfl
 |a::l=>by rw[PK,UX l];rfl
end
def Wv:=@List.any_eq_false
def Ib:=@List.mem_flatMap
def Es:=@List.length_map
section
variable {mk:Prop}[MK mk]
def Fl(op:Int)(c:Fml):LF:=if c.op=op then c.args else if c.op=Dk op then[]else[c]
def DL(op:Int)(l:LF):Bool:=l.any fun c=>decide (c.op=DA op)
def En(op:Int):Fml:=⟨op,[],0,0,[]⟩
def J1(op:Int)(d:LF):NC op d=if Fg d then En (DA op)else match d with| []=>En (Dk op)| [a]=>a|d=>opF op d:=rfl
def Ja{op:Int}(h:op=5\/op=6):DA op≠op/\Dk op≠op/\DA op≠Dk op/\(DA op=1\/DA op=2)/\(Dk op=1\/Dk op=2):=by
 unfold DA Dk;rcases h with rfl|rfl<;>decide
def XR{op:Int}(h:op=5\/op=6):∀l:LF,LX op l=if DL op l then none else some (l.flatMap (Fl op))
 | []=>rfl
 |f::l=>by
  obtain⟨Z,W,R,_,_⟩:=Ja h;have n:=XR h l;rw[LX,n];have N:DL op (f::l)=(decide (f.op=DA op)||DL op l):=rfl;rw[N,GZ];by_cases a:f.op=op
  ·rw[AJ a,BC (by rw[a];exact fun e=>Z e.symm),Ha];have:Fl op f=f.args:=by unfold Fl;rw[AJ a]
   rw[this];cases DL op l<;>rfl
  ·rw[AG a];by_cases p:f.op=DA op
   ·rw[AJ p,BE p];rfl
   ·rw[AG p,BC p,Ha];by_cases o:f.op=Dk op
    ·rw[AJ o];have:Fl op f=[]:=by unfold Fl;rw[AG a,AJ o]
     rw[this];rfl
    ·rw[AG o];have:Fl op f=[f]:=by unfold Fl;rw[AG a,AG o]
     rw[this];cases DL op l<;>rfl
def In{op:Int}(h:op=5\/op=6)(l:LF):GT op l=if DL op l then En (DA op)else NC op (Dl (l.flatMap (Fl op))):=by
 unfold GT;rw[XR h];cases DL op l<;>rfl
def opp_iff{l:LF}:Fg l=true↔∃x∈l,x.op=4/\x.args.getD 0 Ad∈l:=by
 unfold Fg;rw[Ia];constructor
 ·rintro⟨x,V,h⟩;rw[AZ,Ia]at h;obtain⟨Z,y,I,W⟩:=h;have e:=(Gf _ _).1 (FO W);exact⟨x,V,FO Z,e▸I⟩
 ·rintro⟨x,V,Z,W⟩;refine⟨x,V,?_⟩;rw[AZ,Ia];exact⟨BE Z,_,W,BE ((Gf _ _).2 rfl)⟩
def shO(op:Int)(l:LU)(v:Int)(args:LF):Prop:=
 E0 op=true/\Am op args.length=true/\(op≠3->l=[])/\(op≠3->op≠15->op≠16->op≠17->v=0)/\(op=4->∀a∈args,a.op=3)
mutual
def Sh:Fml->Prop
 | .mk op nm v b args=>b=0/\shO op nm v args/\ShL args
def ShL:LF->Prop
 | []=>True
 |a::l=>Sh a/\ShL l
end
def Xr:∀{l:LF},ShL l↔∀a∈l,Sh a
 | []=>by simp[ShL]
 |a::l=>by rw[ShL,Xr];simp
def sh_iff{op v b:Int}{l:LU}{args:LF}:Sh (.mk op l v b args)↔b=0/\shO op l v args/\∀a∈args,Sh a:=by rw[Sh,Xr]
def Sx{f:Fml}(h:Sh f):f.bound=0/\shO f.op f.name f.val f.args/\∀a∈f.args,Sh a:=by
 obtain⟨op,l,v,b,args⟩:=f;exact sh_iff.1 h
def KA:∀{f:Fml}{i:Bool},BQ i f=true->Sh f
 | .mk op nm v b args,i,h=>by
  simp only[BQ,AZ]at h;obtain⟨⟨⟨⟨Z,W⟩,R⟩,A⟩,e⟩:=h;have G:=Fp W;simp only[CN,AZ,BD]at W;obtain⟨⟨⟨⟨⟨⟨⟨k,S⟩,m⟩,E⟩,l⟩,o⟩,j⟩,C⟩:=W;have z:=Hd Z;refine sh_iff.2 ⟨?_,⟨Z,G,fun H=>?_,fun d u N n=>?_,fun B a r=>?_⟩,fun a r=>KA (Ij e r)⟩
  ·rw[AG U]at j;omega
  ·rw[AG H]at C;simpa using C
  ·rw[AG d,AG U]at l;omega
  ·rw[AJ B]at A;subst B;have g:args.length=1:=by simpa[Am]using G
   obtain⟨c,rfl⟩:=FU g;have:a=c:=by simpa using r
   subst this;simpa using A
def cfO(op:Int)(args:LF):Prop:=
 (op=5\/op=6->Inc args/\Fg args=false/\∀a∈args,a.op≠op/\a.op≠DA op/\a.op≠Dk op)/\
 (op=8->Cz (args.getD 0 Ad)=false)/\(op=9->Cz (args.getD 1 Ad)=false/\(args.getD 0 Ad).op≠2)/\(op=10->Cz (args.getD 1 Ad)=false/\(args.getD 0 Ad).op≠1)
mutual
def CF:Fml->Prop
 | .mk op nm v b args=>b=0/\shO op nm v args/\cfO op args/\CFL args
def CFL:LF->Prop
 | []=>True
 |a::l=>CF a/\CFL l
end
def XH:∀{l:LF},CFL l↔∀a∈l,CF a
 | []=>by simp[CFL]
 |a::l=>by rw[CFL,XH];simp
def cf_iff{op v b:Int}{l:LU}{args:LF}:CF (.mk op l v b args)↔b=0/\shO op l v args/\cfO op args/\∀a∈args,CF a:=by rw[CF,XH]
def qX{f:Fml}(h:CF f):f.bound=0/\shO f.op f.name f.val f.args/\cfO f.op f.args/\∀a∈f.args,CF a:=by
 obtain⟨op,l,v,b,args⟩:=f;exact cf_iff.1 h
def Sr:∀{f:Fml},CF f->Sh f
 | .mk op nm v b args,h=>by
  obtain⟨Z,W,_,A⟩:=cf_iff.1 h;exact sh_iff.2 ⟨Z,W,fun a G=>Sr (A a G)⟩
def My{f:Fml}(h:Sh f)(a:f.op=1\/f.op=2):f=En f.op:=by
 obtain⟨op,l,v,b,e⟩:=f;obtain⟨Z,⟨_,R,A,d,_⟩,_⟩:=sh_iff.1 h;have H:op=1\/op=2:=a
 have c:e.length=0:=by
  have:=R;unfold Am at this;rw[AJ U]at this;exact FO this
 rw[Z,A U,d U U U U,Dc c];rfl
def SW{op:Int}(h:op=1\/op=2):CF (En op):=by
 refine cf_iff.2 ⟨rfl,⟨?_,?_,fun _=>rfl,fun _ _ _ _=>rfl,fun A=>by omega⟩,⟨fun Z=>by omega,fun Z=>by omega,fun Z=>by omega,fun Z=>by omega⟩,fun a G=>by cases G⟩
 ·rcases h with rfl|rfl<;>rfl
 ·rcases h with rfl|rfl<;>rfl
def qZ{op:Int}(h:op=5\/op=6){c:Fml}(T:CF c)(p:c.op≠DA op):∀a∈Fl op c,CF a/\a.op≠op/\a.op≠DA op/\a.op≠Dk op:=by
 obtain⟨_,_,R,A⟩:=qX T;intro a G;unfold Fl at G;by_cases b:c.op=op
 ·rw[AJ b]at G;have:=(R.1 (by rw[b];exact h)).2.2 a G;rw[b]at this;exact⟨A a G,this⟩
 ·rw[AG b]at G;by_cases o:c.op=Dk op
  ·rw[AJ o]at G;cases G
  ·rw[AG o]at G;have:a=c:=by simpa using G
   subst this;exact⟨T,b,p,o⟩
def mG{op:Int}{a:Fml}(Z:a.op≠op)(W:a.op≠Dk op):Fl op a=[a]:=by unfold Fl;rw[AG Z,AG W]
def zAny_false{op:Int}{l:LF}:DL op l=false↔∀c∈l,c.op≠DA op:=by
 unfold DL;rw[Wv];simp
def zAny_true{op:Int}{l:LF}:DL op l=true↔∃c∈l,c.op=DA op:=by
 unfold DL;rw[Ia];simp
def Ug{op:Int}:∀{d:LF},(∀a∈d,a.op≠op/\a.op≠Dk op)->d.flatMap (Fl op)=d
 | [],_=>rfl
 |a::d,h=>by
  rw[GZ,mG (h a O).1 (h a O).2,Ug fun c T=>h c rR];rfl
def jQ{op:Int}(h:op=5\/op=6){d:LF}(F:Inc d)(b:∀a∈d,CF a/\a.op≠op/\a.op≠DA op/\a.op≠Dk op):CF (NC op d):=by
 obtain⟨_,_,_,p,o⟩:=Ja h;rw[J1];cases ho:Fg d with
 |true=>exact SW p
 |false=>
  match d,F,b,ho with
  | [],_,_,_=>exact SW o
  | [a],_,b,_=>exact(b a O).1
  |a::c::d,F,b,ho=>
   refine cf_iff.2 ⟨rfl,⟨?_,?_,fun _=>rfl,fun _ _ _ _=>rfl,fun A=>by omega⟩,⟨fun _=>⟨F,ho,fun x V=>(b x V).2⟩,fun M=>by omega,fun M=>by omega,fun M=>by omega⟩,fun x V=>(b x V).1⟩
   ·rcases h with rfl|rfl<;>rfl
   ·unfold Am;rw[AG U,AJ h];exact BE O
def cY{op:Int}(h:op=5\/op=6){l:LF}(N:∀c∈l,CF c)(p:DL op l=false):∀a∈Dl (l.flatMap (Fl op)),CF a/\a.op≠op/\a.op≠DA op/\a.op≠Dk op:=by
 intro a G;rw[mem_dist,Ib]at G;obtain⟨c,T,G⟩:=G;exact qZ h (N c T) (zAny_false.1 p c T) a G
def jR{op:Int}(h:op=5\/op=6){l:LF}(N:∀c∈l,CF c):CF (GT op l):=by
 rw[In h];cases hz:DL op l with
 |true=>exact SW (Ja h).2.2.2.1
 |false=>exact jQ h (MX _) (cY h N hz)
def Im(op v b:Int)(l:LU)(args:LF):Ba (.mk op l v b args)=Dr op l v (args.map Ba):=by rw[Ba,UX]
def cN{op v:Int}{f:LU}{args:LF}(h:shO op f v args)(c:∀a∈args,CF a):CF (Dr op f v args):=by
 obtain⟨Z,W,g,A,j⟩:=h;have z:=Hd Z;unfold Dr;by_cases l:op=5\/op=6
 ·rw[AJ l];exact jR l c
 rw[AG l]
 have b:∀i,i<args.length->CF (args.getD i Ad):=fun i F=>by
  rw[Ce,AU F];exact c _ (E9 F)
 have R:op=8->args.length=1:=fun e=>by subst e;simpa[Am]using W
 have H:op=9\/op=10->args.length=2:=fun e=>by
  unfold Am at W;rw[AG U,AG l,AJ U]at W;exact FO W
 by_cases d:op=8/\Cz (args.getD 0 Ad)=true
 ·rw[AJ d];exact b 0 (by have:=R d.1;omega)
 rw[AG d];by_cases M:op=9/\(Cz (args.getD 1 Ad)=true\/(args.getD 0 Ad).op=2)
 ·rw[AJ M];exact b 1 (by have:=H (.inl M.1);omega)
 rw[AG M];by_cases G:op=10/\(Cz (args.getD 1 Ad)=true\/(args.getD 0 Ad).op=1)
 ·rw[AJ G];exact b 1 (by have:=H (.inr G.1);omega)
 rw[AG G];refine cf_iff.2 ⟨rfl,⟨Z,W,g,A,j⟩,⟨fun e=>absurd e l,fun e=>?_,fun e=>?_,fun e=>?_⟩,c⟩
 ·cases hb:Cz (args.getD 0 Ad)with
  |false=>rfl
  |true=>exact absurd ⟨e,hb⟩ d
 ·refine⟨?_,fun Q=>M ⟨e,.inr Q⟩⟩;cases hb:Cz (args.getD 1 Ad)with
  |false=>rfl
  |true=>exact absurd ⟨e,.inl hb⟩ M
 ·refine⟨?_,fun Q=>G ⟨e,.inr Q⟩⟩;cases hb:Cz (args.getD 1 Ad)with
  |false=>rfl
  |true=>exact absurd ⟨e,.inl hb⟩ G
def UY{f:Fml}(h:f.op=3):(Ba f).op=3:=by
 obtain⟨op,l,v,b,e⟩:=f;obtain rfl:op=3:=h;rw[Im];rfl
def ns{op v:Int}{l:LU}{args:LF}(h:shO op l v args)(g:Fml->Fml)(y:∀a,a.op=3->(g a).op=3):shO op l v (args.map g):=by
 obtain⟨Z,W,R,A,b⟩:=h;refine⟨Z,by rw[Es];exact W,R,A,fun e a G=>?_⟩;obtain⟨c,T,rfl⟩:=By.1 G;exact y c (b e c T)
def RO:∀{f:Fml},Sh f->CF (Ba f)
 | .mk op nm v b args,h=>by
  obtain⟨_,W,R⟩:=sh_iff.1 h;rw[Im];refine cN (ns W Ba fun a=>UY) fun a G=>?_;obtain⟨c,T,rfl⟩:=By.1 G;exact RO (R c T)
def eC:∀{f:Fml},CF f->Ba f=f
 | .mk op nm v b args,h=>by
  obtain⟨Z,W,R,A⟩:=cf_iff.1 h
  have e:args.map Ba=args:=by
   have:∀l:LF,(∀a∈l,Ba a=a)->l.map Ba=l:=by
    intro l
    induction l with
    |nil=>intro _;rfl
    |cons a l ih=>intro N;rw[EG,N a O,ih fun c T=>N c rR]
   exact this args fun a G=>eC (A a G)
  rw[Im,e];unfold Dr;by_cases g:op=5\/op=6
  ·rw[AJ g,In g];obtain⟨k,S,i⟩:=R.1 g;have p:DL op args=false:=zAny_false.2 fun c T=>(i c T).2.1;rw[p,Ug fun a G=>⟨(i a G).1,(i a G).2.2⟩,lz k,J1,S]
   have N:2<=args.length:=by
    have:=W.2.1;unfold Am at this;rw[AG U,AJ g]at this;exact FO this
   have j:nm=[]:=W.2.2.1 U;have u:v=0:=W.2.2.2.1 U U U U;subst Z;subst j;subst u
   match args,N with
   |a::c::d,_=>rfl
  rw[AG g];rw[AG (by rintro⟨e,Q⟩;rw[R.2.1 e]at Q;cases Q)]
  rw[AG (by
   rintro⟨e,Q|Q⟩
   ·rw[(R.2.2.1 e).1]at Q;cases Q
   ·exact(R.2.2.1 e).2 Q)]
  rw[AG (by
   rintro⟨e,Q|Q⟩
   ·rw[(R.2.2.2 e).1]at Q;cases Q
   ·exact(R.2.2.2 e).2 Q)]
  rw[Z]
def Rw(x:Vl)(op:Int)(l:LU)(v b:Int)(args:LF):C4 x (.mk op l v b args)=.mk op l (JW x op v ((args.map (Bb x)).getD 0 false) (Bb x (.mk op l v b args))) 0 (args.map (C4 x)):=by rw[C4,MS]
def To(x:Vl){op:Int}(v:Int)(a b:Bool)(h:¬(op=15\/op=16\/op=17)):JW x op v a b=v:=by
 unfold JW;rw[AG U,AG U]
def jA{α β:Type}(g:α->β)(l:List α)(i:Nat)(a:α)(b:β)(F:i<l.length):(l.map g).getD i b=g (l.getD i a):=by
 simp[AU F]
def isCon_iff{f:Fml}:Cz f=true↔f.op=1\/f.op=2:=by simp[Cz]
def Kk(a:LU)(v:Int)(l:LF):Dr 8 a v l=if Cz (l.getD 0 Ad)=true then l.getD 0 Ad else⟨8,a,v,0,l⟩:=by
 unfold Dr;rw[AG U,AG (show¬((8:Int)=9/\_)from fun q=>absurd q.1 U),AG (show¬((8:Int)=10/\_)from fun q=>absurd q.1 U)];simp
def Kl(a:LU)(v:Int)(l:LF):Dr 9 a v l=if Cz (l.getD 1 Ad)=true\/(l.getD 0 Ad).op=2 then l.getD 1 Ad else⟨9,a,v,0,l⟩:=by
 unfold Dr;rw[AG U,AG (show¬((9:Int)=8/\_)from fun q=>absurd q.1 U),AG (show¬((9:Int)=10/\_)from fun q=>absurd q.1 U)];simp
def Kf(a:LU)(v:Int)(l:LF):Dr 10 a v l=if Cz (l.getD 1 Ad)=true\/(l.getD 0 Ad).op=1 then l.getD 1 Ad else⟨10,a,v,0,l⟩:=by
 unfold Dr;rw[AG U,AG (show¬((10:Int)=8/\_)from fun q=>absurd q.1 U),AG (show¬((10:Int)=9/\_)from fun q=>absurd q.1 U)];simp
def Km{op:Int}(h:¬(op=5\/op=6))(M:op≠8)(s:op≠9)(I:op≠10)(a:LU)(v:Int)(l:LF):Dr op a v l=⟨op,a,v,0,l⟩:=by
 unfold Dr;rw[AG h,AG (fun q=>M q.1),AG (fun q=>s q.1),AG (fun q=>I q.1)]
def Sf(x:Vl)(op:Int)(l:LU)(v b:Int)(args:LF):DK x (.mk op l v b args)=if Cp (.mk op l v b args)then LD (Bb x (.mk op l v b args))else Po op (C4 x (.mk op l v b args)) (args.map (DK x)) (args.map (C4 x)):=by rw[DK,SC,MS]
end
section
variable {mk:Prop}[MK mk]
end
section
variable {mk:Prop}[MK mk]
end
section
variable {mk:Prop}[MK mk]
end
section
variable {mk:Prop}[MK mk]
def jb(a b:Int):Lib.compareInt a b=DD a b:=by
 unfold Lib.compareInt DD;rfl
def Vy:∀s t:LU,Lib.compareBytes s t=C6 s t
 | [],[]=>rfl
 | [],_::_=>rfl
 |_::_,[]=>rfl
 |a::s,b::t=>by
  rw[Lib.compareBytes,C6,Vy s t];rfl
def N9(a b:Int)(w:World):Fn Zp 325 [iV a,iV b] w fun v w'=>v=iV (DD a b)/\w'=w:=by
 refine Gg (Tryz.cmp_Compare_int a b w) ?_;rintro e w'⟨rfl,rfl⟩;exact⟨by rw[jb],rfl⟩
def eJ(a b:LU)(w:World):Fn Zp 326 [AA a,AA b] w fun v w'=>v=iV (C6 a b)/\w'=w:=by
 refine Gg (Tryz.strings_Compare ⟨a.toArray⟩ ⟨b.toArray⟩ w) ?_;rintro e w'⟨rfl,rfl⟩;exact⟨by rw[Vy],rfl⟩
def GW(f g:Fml):Int:=Ck (DD f.op g.op) (Ck (C6 f.name g.name) (Ck (DD f.val g.val) (Ck (DD f.bound g.bound) (DD f.args.length g.args.length))))
def J4{a b:Int}(h:a≠0):Ck a b=a:=AG h
def GL{a b:Int}(h:a=0):Ck a b=b:=AJ h
def QX(f g:Fml):BO f g=Ck (GW f g) (Db f.args g.args):=by
 obtain⟨o,n,v,b,l⟩:=f;obtain⟨d,z,B,q,m⟩:=g;rw[BO];simp only[GW,Fml.op,Fml.name,Fml.val,Fml.bound,Fml.args]
 have h:∀a b c:Int,Ck (Ck a b) c=Ck a (Ck b c):=by
  intro a b c;unfold Ck;by_cases h:a=0
  ·rw[AJ h,AJ h]
  ·rw[AG h,AG h,AG h]
 simp only[h]
set_option maxHeartbeats 1600000 in
def QO(w:World)(b o q m:Nat)(f g:Fml)(K:PF AL w b o f)(M:PF AL w q m g):
  Fn Zp 290 [.pointer (sn b o),.pointer (sn q m)] w fun v w'=>v=iV (GW f g)/\Ext w w':=by
 obtain⟨_,a,c,L,i,_,_⟩:=K.form;obtain⟨_,Z,p,z,j,_,_⟩:=M.form;have u:CC w b (o+0) (iV f.op):=i 0 _ rfl;have d:CC w b (o+1) (AA f.name):=i 1 _ rfl;have x:CC w b (o+2) (iV f.val):=i 2 _ rfl;have k:CC w b (o+3) (iV f.bound):=i 3 _ rfl;have A:CC w b (o+4) (.slice a f.args.length c):=i 4 _ rfl;have Q:CC w q (m+0) (iV g.op):=j 0 _ rfl;have B:CC w q (m+1) (AA g.name):=j 1 _ rfl;have E:CC w q (m+2) (iV g.val):=j 2 _ rfl;have G:CC w q (m+3) (iV g.bound):=j 3 _ rfl;have H:CC w q (m+4) (.slice Z g.args.length p):=j 4 _ rfl;clear i j;have y:Ext w w:=Ext.refl w;have a0:∀W,Ext w W->CC W b (o+0) (iV f.op):=fun W e=>e.cell u O;have V:∀W,Ext w W->CC W b (o+1) (AA f.name):=fun W e=>e.cell d O;have a1:∀W,Ext w W->CC W b (o+2) (iV f.val):=fun W e=>e.cell x O;have a2:∀W,Ext w W->CC W b (o+3) (iV f.bound):=fun W e=>e.cell k O;have a3:∀W,Ext w W->CC W b (o+4) (.slice a f.args.length c):=fun W e=>e.cell A O;have a4:∀W,Ext w W->CC W q (m+0) (iV g.op):=fun W e=>e.cell Q O;have C:∀W,Ext w W->CC W q (m+1) (AA g.name):=fun W e=>e.cell B O;have a5:∀W,Ext w W->CC W q (m+2) (iV g.val):=fun W e=>e.cell E O;have a6:∀W,Ext w W->CC W q (m+3) (iV g.bound):=fun W e=>e.cell G O;have a7:∀W,Ext w W->CC W q (m+4) (.slice Z g.args.length p):=fun W e=>e.cell H O;clear u d x k A Q B E G H;refine AM func290 rfl ntmps290 (go ?_);by_cases r:f.op=g.op;rotate_left
 ·refine Ab (rd 0 10 .done) AX rD (fun X h T=>⟨Ext w,?_,?_⟩)
  ·exact y.Q h
  replace y:=y.Q h;refine go ?_;have N:DD f.op g.op≠0:=fun e=>r (cmpI_zero.1 e);refine Ab (rd 0 8 (.alt 8 (.read 9 .done) .stop)) AX rD (fun X h T=>⟨Ext w,?_,?_⟩)
  ·exact y.Q h
  replace y:=y.Q h;refine go ?_;refine gE ?_;refine AD (N9 f.op g.op _) rfl ?_;rintro _ _⟨rfl,rfl⟩;refine AB ⟨Ext w,fun _ e=>e,y,?_⟩;refine gR ?_;exact⟨congrArg (Value.int .i64) (by simp only[GW];rw[J4 N]),y⟩
 have l:=cmpI_zero.2 r;refine Ab (rd 0 10 .done) AX rD (fun X h T=>⟨Ext w,?_,?_⟩)
 ·exact y.Q h
 replace y:=y.Q h;refine go ?_;refine Ab (rd 0 10 .done) AX rD (fun X h T=>⟨Ext w,?_,?_⟩)
 ·exact y.Q h
 replace y:=y.Q h;(refine D_R rfl rfl (fun W I=>Aq rfl Z3) (D_R rfl rfl (fun W I=>A7 rfl Z3) (D_R rfl rfl (fun W I=>AV rfl Z3) (D_R rfl rfl (fun W I=>AQ rfl (V W I) Z3) (D_R rfl rfl (fun W I=>Aq rfl Z3) (D_R rfl rfl (fun W I=>A7 rfl Z3) (D_R rfl rfl (fun W I=>AV rfl Z3) (D_R rfl rfl (fun W I=>AQ rfl (C W I) Z3) ?_)))))))<;>(refine SS rfl rfl rfl rfl (fun i=>?_) (fun i=>?_))<;>refine D_R rfl rfl (fun W I=>AT (AH rfl Z3)) (Cy ?_))
 ·refine go ?_;have D:C6 f.name g.name≠0:=fun e=>i (cmpS_zero.1 e);refine Ab (rd 0 8 (.alt 8 (.read 9 .done) .stop)) AX rD (fun X h T=>⟨Ext w,?_,?_⟩)
  ·exact y.Q h
  replace y:=y.Q h;refine go ?_;refine gE ?_;refine AD (eJ f.name g.name _) rfl ?_;rintro _ _⟨rfl,rfl⟩;refine AB ⟨Ext w,fun _ e=>e,y,?_⟩;refine gR ?_;exact⟨congrArg (Value.int .i64) (by simp only[GW];rw[GL l,J4 D]),y⟩
 have n:=cmpS_zero.2 i;refine go ?_;by_cases s:f.val=g.val;rotate_left
 ·refine Ab (rd 0 10 .done) AX rD (fun X h T=>⟨Ext w,?_,?_⟩)
  ·exact y.Q h
  replace y:=y.Q h;refine go ?_;have P:DD f.val g.val≠0:=fun e=>s (cmpI_zero.1 e);refine Ab (rd 0 8 (.alt 8 (.read 9 .done) .stop)) AX rD (fun X h T=>⟨Ext w,?_,?_⟩)
  ·exact y.Q h
  replace y:=y.Q h;refine go ?_;refine gE ?_;refine AD (N9 f.val g.val _) rfl ?_;rintro _ _⟨rfl,rfl⟩;refine AB ⟨Ext w,fun _ e=>e,y,?_⟩;refine gR ?_;exact⟨congrArg (Value.int .i64) (by simp only[GW];rw[GL l,GL n,J4 P]),y⟩
 have F:=cmpI_zero.2 s;refine Ab (rd 0 10 .done) AX rD (fun X h T=>⟨Ext w,?_,?_⟩)
 ·exact y.Q h
 replace y:=y.Q h;refine go ?_;by_cases R:f.bound=g.bound;rotate_left
 ·refine Ab (rd 0 10 .done) AX rD (fun X h T=>⟨Ext w,?_,?_⟩)
  ·exact y.Q h
  replace y:=y.Q h;refine go ?_;have S:DD f.bound g.bound≠0:=fun e=>R (cmpI_zero.1 e);refine Ab (rd 0 8 (.alt 8 (.read 9 .done) .stop)) AX rD (fun X h T=>⟨Ext w,?_,?_⟩)
  ·exact y.Q h
  replace y:=y.Q h;refine go ?_;refine gE ?_;refine AD (N9 f.bound g.bound _) rfl ?_;rintro _ _⟨rfl,rfl⟩;refine AB ⟨Ext w,fun _ e=>e,y,?_⟩;refine gR ?_;exact⟨congrArg (Value.int .i64) (by simp only[GW];rw[GL l,GL n,GL F,J4 S]),y⟩
 have t:=cmpI_zero.2 R;refine Ab (rd 0 10 .done) AX rD (fun X h T=>⟨Ext w,?_,?_⟩)
 ·exact y.Q h
 replace y:=y.Q h;refine go ?_;refine Ab (rd 0 10 (.alt 10 (.read 11 .done) .stop)) AX rD (fun X h T=>⟨Ext w,?_,?_⟩)
 ·exact y.Q h
 replace y:=y.Q h;refine go ?_;refine gE ?_;refine AD (N9 f.args.length g.args.length _) rfl ?_;rintro _ _⟨rfl,rfl⟩;refine AB ⟨Ext w,fun _ e=>e,y,?_⟩;refine gR ?_;exact⟨congrArg (Value.int .i64) (by simp only[GW];rw[GL l,GL n,GL F,GL t]),y⟩
section
attribute [local semireducible] WC AF CO B0 Cx B8 Cc CB
variable {P:Program}{all:Array Oper}{Z:Fr->DS->List PanicEntry->World->Prop}{K:Fr->DS->World->Prop}{rest:List Oper}{f:Fr}{ds:DS}{w:World}{d:Nat}{ty:TypeId}{pos:String}{af:Array Edge}
class Jc (P:Program) (T:TypeId) (e:outParam TypeId):Prop where
 und:P.underlying T=some (.pointer e)
 info:∃j,P.info? e=some j/\j.size≠0
theorem Xl{T e:TypeId}(h:P.underlying T=some (.pointer e))(W:((P.info? e).map fun j=>decide (j.size≠0))=some true):Jc P T e:=by
 obtain⟨j,C,R⟩:=Dd.1 W;exact⟨h,j,C,by simpa using R⟩
def aI{T e:TypeId}(a:P.underlying T=some (.pointer e)):(binOp .eql T (.pointer none) (.pointer none)).run P w=.ok (.bool true) w:=by
 have h:∀d:Nat,(Op.equalIn (d+1) T (.pointer none) (.pointer none)).run P w=.ok true w:=fun d=>by
  simp[Op.equalIn,BV a]
 simp only[binOp];simp[Op.equal,Op.maxDepth,h 9999]
def aJ{T e:TypeId}(b:P.underlying T=some (.pointer e))(a:Addr):(binOp .eql T (.pointer (some a)) (.pointer none)).run P w=.ok (.bool false) w:=by
 have h:∀d:Nat,(Op.equalIn (d+1) T (.pointer (some a)) (.pointer none)).run P w=.ok false w:=fun d=>by
  simp[Op.equalIn,BV b]
 simp only[binOp];simp[Op.equal,Op.maxDepth,h 9999]
def OU{T b e:TypeId}{x:Operand}{p:Option Addr}[hT:Jc P T e](V:ev f x=.pointer p)(h:AF P all Z K rest (upd f d (.bool p.isNone)) ds w):
  AF P all Z K (⟨some d,.binOp .eql T x (.const (.pointer none)) b,ty,pos,af,none⟩::rest) f ds w:=by
 refine At rfl ?_ h;have I:ev f (.const (.pointer none))=.pointer none:=rfl;cases p with
 |none=>simp[execOp,V,I,eqGuard,aI hT.und]
 |some a=>simp[execOp,V,I,eqGuard,aJ hT.und]
def aE{T b e:TypeId}{x y:Operand}{a:Addr}[hT:Jc P T e](V:ev f x=.pointer (some a))(I:ev f y=.pointer (some a))(h:AF P all Z K rest (upd f d (.bool false)) ds w):
  AF P all Z K (⟨some d,.binOp .neq T x y b,ty,pos,af,none⟩::rest) f ds w:=by
 refine At rfl ?_ h;obtain⟨j,C,_⟩:=hT.info;simp[execOp,V,I,eqGuard,Lib.run_neq_ptr_same w a hT.und C]
def Zt(w:World){a b:Addr}{e F:Array Value}{X i:TypeId}{j k:Nat×Nat}(G:w.heap[a.block]?=some (.cells e X j))(S:w.heap[b.block]?=some (.cells F i k))(o:j=(0,0)\/k=(0,0))(v:0<e.size)(p:0<F.size)(m:a≠b):(sameAddr a b).run P w=.ok false w:=by
 by_cases M:a.block=b.block
 ·simp[sameAddr,M,m]
 ·have c:e.size≠0:=by omega
  have g:F.size≠0:=by omega
  have H:(match some (X,e.size)with|some (_,0)=>true|_=>false)=false:=by
   cases h:e.size with
   |zero=>exact absurd h c
   |succ n=>rfl
  have l:(match some (i,F.size)with|some (_,0)=>true|_=>false)=false:=by
   cases h:F.size with
   |zero=>exact absurd h g
   |succ n=>rfl
  rcases o with rfl|rfl
  ·simp[sameAddr,M,World.frozen?,G,S,noView,viewAt,World.shape?,mayBeOne,stringish,c,g];try (split<;>simp[H,l])
  ·simp[sameAddr,M,World.frozen?,G,S,noView,viewAt,World.shape?,mayBeOne,stringish,c,g];try (split<;>simp[H,l])
def XD{T q e:TypeId}{x y:Operand}{a b:Addr}{c F:Array Value}{X i:TypeId}{g k:Nat×Nat}[hT:Jc P T e](V:ev f x=.pointer (some a))(I:ev f y=.pointer (some b))(G:w.heap[a.block]?=some (.cells c X g))(S:w.heap[b.block]?=some (.cells F i k))(o:g=(0,0)\/k=(0,0))(v:0<c.size)(l:0<F.size)
  (h:AF P all Z K rest (upd f d (.bool (decide (a=b)))) ds w):AF P all Z K (⟨some d,.binOp .eql T x y q,ty,pos,af,none⟩::rest) f ds w:=by
 refine At rfl ?_ h;obtain⟨j,C,E⟩:=hT.info
 have m:∀n:Nat,(Op.equalIn (n+1) T (.pointer (some a)) (.pointer (some b))).run P w=.ok (decide (a=b)) w:=fun n=>by
  by_cases B:a=b
  ·subst B;simp[Op.equalIn,BV hT.und,sizeOf,typeInfo,C,run_sameAddr_same]
  ·simp[Op.equalIn,BV hT.und,sizeOf,typeInfo,C,E,Zt w G S o v l B,B]
 have p:(binOp .eql T (.pointer (some a)) (.pointer (some b))).run P w=.ok (.bool (decide (a=b))) w:=by
  simp only[binOp];simp[Op.equal,Op.maxDepth,m 9999]
 simp[execOp,V,I,eqGuard,p]
end
instance:Jc Zp 89 37:=Xl underlying89 rD
end
def I6:=@List.flatten_nil
def KG:=@and_true
def P8:=@List.sizeOf_lt_of_mem
def HY:=@List.length_drop
def Kd:=@List.take_left
section
variable {mk:Prop}[MK mk]
def nu{ok ok':Nat->Prop}{w:World}{a:Option Addr}{n c j k:Nat}{cs I:LV}(h:Sl ok w (.slice a n c) n cs)(Q:Sl ok' w (.slice a n j) n I)(N:cs.length=n*k)(y:I.length=n*k):cs=I:=by
 by_cases v:n=0
 ·subst v;have g:cs=[]:=Dc (by simpa using N);have u:I=[]:=Dc (by simpa using y);rw[g,u]
 ·obtain⟨_,_,e,_,_,_,A⟩:=h;obtain⟨_,_,p,_,_,_,x⟩:=Q;cases e;cases p;obtain⟨b,o,rfl,_,T⟩:=A.resolve_left v;obtain⟨q,m,e,_,s⟩:=x.resolve_left v;cases e;refine H1 fun i=>?_;by_cases F:i<n*k
  ·have g:=AU (l:=cs) (i:=i) U;have u:=AU (l:=I) (i:=i) U;have r:=T i _ g;have W:=s i _ u;rw[g,u,<-r,<-W]
  ·rw[EF U,EF U]
def Vm(n:Nat)(H:0<n):∀{L M:List (LV)},(∀d∈L,d.length=n)->(∀d∈M,d.length=n)->L.flatten=M.flatten->L=M
 | [],[],_,_,_=>rfl
 | [],d::M,_,hM,e=>by
  have:=congrArg List.length e;have b:=hM d O;simp only[I6,FP,Do,A9]at this;omega
 |c::L,[],hL,_,e=>by
  have:=congrArg List.length e;have b:=hL c O;simp only[I6,FP,Do,A9]at this;omega
 |c::L,d::M,hL,hM,e=>by
  rw[Do,Do]at e;obtain⟨a,u⟩:=List.append_inj e (by rw[hL c O,hM d O]);rw[a,Vm n H (fun x V=>hL x ri) (fun x V=>hM x ri) u]
def FAt.uniq{ok ok':Nat->Prop}{w:World}:∀(f g:Fml)(v:Value),FAt ok w v f->FAt ok' w v g->f=g
 | .mk op nm x b args,g,v,hf,hg=>by
  obtain⟨av,rfl,L,C,R,r,t⟩:=hf.form;obtain⟨a0,e,z,D,H,G,Q⟩:=hg.form;simp only[Kb,Array.mk.injEq,I7,Value.int.injEq,true_and,KG]at e;obtain⟨p,u,N,n,l⟩:=e;subst l;obtain⟨a,c,rfl,a1⟩:=id C;obtain⟨X,c',A,a2⟩:=id D;have j:args.length=g.args.length:=(Value.slice.inj A).2.1
  have B:L.flatten=z.flatten:=by
   have y:Sl ok' w (.slice a args.length c) args.length z.flatten:=by rw[j];rw[<-j];exact j▸D
   refine nu (k:=5) C y ?_ ?_
   ·rw[EL 5 L r,R]
   ·rw[EL 5 z G,H];exact congrArg (·*5) j.symm
  have I:=Vm 5 U r G B;subst I
  have M:args=g.args:=by
   refine H1 fun i=>?_;by_cases F:i<args.length
   ·have s:L[i]?=some L[i]:=AU U;have E:args[i]?=some args[i]:=AU F;have S:g.args[i]?=some g.args[i]:=AU U;rw[E,S,FAt.uniq args[i] g.args[i] _ (t i _ _ s E) (Q i _ _ s S)]
   ·rw[EF U,EF U]
  have h:nm=g.name:=by
   have W:AA nm=AA g.name:=u;simp only[AA,Value.string.injEq,ByteArray.mk.injEq]at W;simpa using congrArg Array.toList W
  obtain⟨o,T,V,q,m⟩:=g;have p:op=o:=p;have u:nm=T:=h;have N:x=V:=N;have n:b=q:=n;have l:args=m:=M;rw[p,u,N,n,l]
 termination_by f=>f
 decreasing_by
  have:=P8 (E9 F)
  simp_wf
  omega
def FL(ok:Nat->Prop)(w:World)(v:Value)(l:LF):Prop:=∃a c L,v=.slice a l.length c/\Sl ok w (.slice a l.length c) l.length L.flatten/\FsAt ok w L l
def FL.E{ok:Nat->Prop}{X:List Nat}{w w':World}{v:Value}{l:LF}(h:FL ok w v l)(k:Keep X w w')(T:∀b,ok b->b∉X):FL ok w' v l:=by
 obtain⟨a,c,L,rfl,e,W⟩:=h;exact⟨a,c,L,rfl,e.E k T,W.E k T⟩
def PF.args{ok:Nat->Prop}{w:World}{b o:Nat}{f:Fml}(h:PF ok w b o f):∃v,w.cell? ⟨b,o+4,none⟩=some v/\FL ok w v f.args:=by
 obtain⟨_,a,c,L,T,i,j⟩:=h.form;exact⟨_,T 4 _ rfl,a,c,L,rfl,i,j⟩
def FL.cons{ok:Nat->Prop}{w:World}{v:Value}{x:Fml}{l:LF}(h:FL ok w v (x::l)):∃b o c,v=.slice (sn b o) (l.length+1) c/\1<=c/\PF ok w b o x/\FL ok w (.slice (adv c 1 5 (sn b o)) l.length (c-1)) l:=by
 obtain⟨a,c,L,rfl,s,j⟩:=h;obtain⟨B,C,e,n,W,R,A⟩:=s;cases e;obtain⟨b,o,rfl,p,T⟩:=A.resolve_left O;obtain⟨S,k,t⟩:=j
 match L,S,k,t,T with
 |d::L,S,k,t,T=>
  have q:=k d O;have z:Cells w b o d:=fun i u m=>T i u (by rw[Do,D4 (Ah.1 m).1];exact m);have X:L.length=l.length:=by simpa using S
  refine⟨b,o,c,rfl,by simp at n;omega,⟨p,d,q,z,t 0 d x rfl rfl⟩,_,_,L,rfl,⟨_,_,rfl,by simp at n;omega,by omega,?_,?_⟩,X,fun c T=>k c rR,fun i c g T y=>t (i+1) c g (by simpa using T) (by simpa using y)⟩
  ·intro G;unfold adv at G
   split at G
   ·cases G
   ·simp at G
  ·by_cases r:l.length=0
   ·exact .inl r
   ·refine .inr ⟨b,o+5,?_,p,?_⟩
    ·unfold adv;rw[AG (by simp at n;omega)];rfl
    ·intro i u m;have:=T (5+i) u (by rw[Do,EJ U,q,show 5+i-5=i by omega];exact m);rw[GH];exact this
def FL.form{ok:Nat->Prop}{w:World}{v:Value}{l:LF}(h:FL ok w v l):∃a c,v=.slice a l.length c:=by
 obtain⟨a,c,L,rfl,_⟩:=h;exact⟨a,c,rfl⟩
def PF.uniq{ok ok':Nat->Prop}{w:World}{b o:Nat}{f g:Fml}(h:PF ok w b o f)(y:PF ok' w b o g):f=g:=by
 obtain⟨_,d,x,T,e⟩:=h;obtain⟨_,a,k,j,W⟩:=y
 have:d=a:=by
  refine H1 fun i=>?_;by_cases F:i<5
  ·have c:=AU (l:=d) (i:=i) U;have u:=AU (l:=a) (i:=i) U;rw[c,u,<-T i _ c,<-j i _ u]
  ·rw[EF U,EF U]
 subst this;exact FAt.uniq f g _ e W
def MT{w:World}{b o:Nat}{v:Value}(h:w.cell? ⟨b,o,none⟩=some v):∃c t Q,w.heap[b]?=some (.cells c t Q)/\0<c.size/\c[o]?=some v:=by
 unfold World.cell? at h
 split at h
 ·rename_i c t Q heq;simp at h;exact⟨c,t,Q,heq,by have:=(FM.1 h).1;omega,h⟩
 ·cases h
def PD{w:World}{b o:Nat}{n:Int}(g:Unm w b)(h:w.cell? ⟨b,o,none⟩=some (iV n)):∃c t,w.heap[b]?=some (.cells c t (0,0))/\0<c.size:=by
 obtain⟨c,t,Q,a,W,R⟩:=MT h;rcases g c t Q a with rfl|A
 ·exact⟨c,t,a,W⟩
 ·obtain⟨m,e⟩:=A o _ R;cases e
section
attribute [local semireducible] WC AF CO B0 Cx B8 Cc CB
variable {P:Program}{all:Array Oper}{Z:Fr->DS->List PanicEntry->World->Prop}{K:Fr->DS->World->Prop}{rest:List Oper}{f:Fr}{ds:DS}{w:World}{d:Nat}{ty:TypeId}{pos:String}{af:Array Edge}
def Z1{T e size a:Nat}{b o:Nat}{x F:Operand}{S:IntKind}{Q:Int}[hT:Gt P T a e size](g:ev f x=.pointer (sn b o))(H:ev f F=.int S Q)(c:0<=Q)(W:Q<=a)
  (h:AF P all Z K rest (upd f d (.slice (sn b o) Q.toNat a)) ds w):AF P all Z K (⟨some d,.slice T x none (some F) none,ty,pos,af,none⟩::rest) f ds w:=by
 obtain⟨q,V,E⟩:=hT.out;refine At rfl ?_ h;simp only[execOp,g,H,GG,Ic,Instr.sliceAt,BX,BV hT.und,Bc,Instr.sureAddr,Instr.sliceBounds,Instr.sliceBound,asIntOf,Cq,sizeOf,typeInfo,program];simp[Sem.run,V,E,c,W,FQ]
def Zs(t ty e l:TypeId)(i:TypeInfo)(r:P.underlying t=some (.slice e))(F:P.info? e=some i)
  (g h k:Nat)(C:Array Value)(y:w.heap[g]?=some (.cells C l (0,0)))
  (a:Addr)(m c:Nat)(b:LV)(N:b.length=m*i.size)(A:∀j u,b[j]?=some u->w.cell? (a.add j)=some u)(o:∀u∈b,u.oneCell'=true)
  (L:h+m<=k)(q:h*i.size+b.length<=C.size):
  (Builtin.append_ #[t,t] ty #[.slice (sm g) h k,.slice (some a) m c]).run P w=
   .ok (.slice (sm g) (h+m) k) (w.setRow g (C.toList.take (h*i.size)++b++C.toList.drop (h*i.size+b.length)).toArray):=by
 have p:=run_firstCells_some (P:=P) w i.size m a m c b N A;have n:=Wx P g (h*i.size) l b 0 C w y (by simpa using q) o;simp only[HG]at n;simp[Builtin.append_,BV r,sizeOf,typeInfo,F,Builtin.lenOf,L,p,FQ,n]
def Qp{T e c size q n cap g:Nat}{z:Value}{s x:Operand}{sv:Value}{C:Array Value}{cs:LV}{ok:Nat->Prop}[hT:SlT P T e size q z](E:ev f s=.slice (sm g) n cap)(V:ev f x=sv)
  (y:w.heap[g]?=some (.cells C c (0,0)))(t:C.size=cap*size)(Q:n<=cap)(R:cap<=maxLen)(hs:Sl ok w sv 1 cs)(a6:0<size)(a2:z.cells.size=size)(N:cs.length=size)(G:oneC cs)(hm:n+1<=9223372036854775807)(S:(n+1)*q<=140737488355328)
  (h:∀g' cap' e'(p:Array Value)w',(g'=g\/g'=w.heap.size)->w'.heap[g']?=some (.cells p e' (0,0))->p.size=cap'*size->n+1<=cap'->cap'<=maxLen->p.toList.take ((n+1)*size)=C.toList.take (n*size)++cs->Keep [g] w w'->
   AF P all Z K rest (upd f d (.slice (sm g') (n+1) cap')) ds w'):
  AF P all Z K (⟨some d,.call ⟨.builtin .append,#[s,x],#[T,T]⟩,ty,pos,af,none⟩::rest) f ds w:=by
 obtain⟨i,F,hz,l,H⟩:=hT.out;obtain⟨a,r,rfl,a4,_,a5,M⟩:=hs;obtain⟨b,X,rfl,_,I⟩:=M.resolve_left U;have A:∀j u,cs[j]?=some u->w.cell? ((⟨b,X,none⟩:Addr).add j)=some u:=fun j u o=>by rw[FQ];exact I j u o
 have D:cs.length=1*i.size:=by rw[l];omega
 have v:(C.toList.take (n*size)).length=n*size:=by
  rw[DE,Lj,t];exact Ga (IY _ Q)
 by_cases L:n+1<=cap
 ·have W:n*i.size+cs.length<=C.size:=by
   rw[l,N,t,<-He];exact IY _ L
  have B:=Zs (P:=P) (w:=w) T ty e c i hT.und F g n cap C y ⟨b,X,none⟩ 1 r cs D A G L W;refine At (w':=w.setRow g (C.toList.take (n*i.size)++cs++C.toList.drop (n*i.size+cs.length)).toArray) rfl (by simp[execOp,resolve,invoke,builtin,E,V,B]) (h g cap c _ _ (.inl rfl) (JH w g C _ c _ y) ?_ L R ?_ ?_)
  ·simp only[IZ,A9,DE,HY,Lj];omega
  ·rw[l,Cg];exact uZ
  ·exact⟨rfl,rfl,rfl,by simp,fun k _ m=>JF w g k _ (by simpa using m),fun _=>JJ (g:=g) rz (fun k m=>JF w g k _ m) (Unm.cells (JH w g _ _ c _ y)),AO _⟩
 ·have a1:∀j u,(C.toList.take (n*size))[j]?=some u->w.cell? ((⟨g,0,none⟩:Addr).add j)=some u:=fun j u o=>by
   rw[FQ,Bs];rw[Ed]at o
   split at o
   ·simp only[World.cell?,y];simpa using o
   ·cases o
  have a0:((n+1:Nat):Int)<=9223372036854775807:=by omega
  have B:=run_append_grow (P:=P) w T ty e i z hT.und F hz ⟨g,0,none⟩ n cap (C.toList.take (n*size)) (by rw[l];exact v) a1 ⟨b,X,none⟩ 1 r cs D A U a0 (by rw[H];exact Rr U S);refine At (w':=w.drew.alloc (.cells ((C.toList.take (n*size)).toArray++cs.toArray++Builtin.zeroCells z.cells (grownCap w (n+1) cap e-(n+1))) e)) rfl (by simp[execOp,resolve,invoke,builtin,E,V,B]) (h w.heap.size _ e _ _ (.inr rfl) (HD w.drew _) ?_ (grownCap_ge w (n+1) cap e) (grownCap_le_maxLen w (n+1) cap e rL) ?_ ?_)
  ·simp only[Array.size_append,IZ,size_zeroCells,a2,v,N];have a3:=grownCap_ge w (n+1) cap e;rw[<-He,<-Nat.add_mul]
   congr 1
   omega
  ·simp only[Array.toList_append,Cg];exact uZ
  ·exact⟨rfl,rfl,rfl,by simp,fun k m _=>Gb w.drew _ m,fun _=>JI O (fun k m=>Gb w.drew _ m) (Unm.cells (HD w.drew _)),Jx _⟩
end
end
def Sm:=@Nat.zero_le
def OT:=@List.sum_cons
def HA:=@List.length_singleton
section
variable {mk:Prop}[MK mk]
abbrev PP:=LF×LF
def LH:List PP->Int
 | []=>0
 |p::r=>Ck (Db p.1 p.2) (LH r)
def Jk(ps:List PP):Nat:=(ps.map fun p=>2*szL p.1+1).sum
def Dq(ps:List PP)(p:PP):Jk (ps++[p])=Jk ps+(2*szL p.1+1):=by simp[Jk]
def Wr:∀ps:List PP,ps.length<=Jk ps
 | []=>Sm _
 |p::ps=>by have:=Wr ps;simp only[Jk,EG,OT,C9]at this⊢;omega
def Row2(okf okg:Nat->Prop)(W:World)(c:LV)(p:PP):Prop:=∃v B,c=[v,B]/\FL okf W v p.1/\FL okg W B p.2/\p.1.length=p.2.length
def Row2.E{okf okg:Nat->Prop}{X:List Nat}{W W':World}{c:LV}{p:PP}(h:Row2 okf okg W c p)(k:Keep X W W')(Z:∀b,okf b->b∉X)(d:∀b,okg b->b∉X):Row2 okf okg W' c p:=by
 obtain⟨v,B,e,a,b,l⟩:=h;exact⟨v,B,e,a.E k Z,b.E k d,l⟩
structure CS(okf okg:Nat->Prop)(C:Nat)(W:World)(g cap:Nat)(e:TypeId)(L:List (LV))(rest:LV)(ps:List PP):Prop where
 ge:C<=g
 D:Blk W g e (L.flatten++rest)
 len:(L.flatten++rest).length=cap*2
 mx:cap<=maxLen
 two:∀c∈L,c.length=2
 ll:L.length=ps.length
 rows:∀(i:Nat)(c:LV)(p:PP),L[i]?=some c->ps[i]?=some p->Row2 okf okg W c p
 lo:∀b,okf b\/okg b->b<C
section
variable {okf okg:Nat->Prop}{C g cap:Nat}{W W':World}{e:TypeId}{L:List (LV)}{rest:LV}{ps:List PP}
def CS.flat(h:CS okf okg C W g cap e L rest ps):L.flatten.length=ps.length*2:=by rw[EL 2 L h.two,h.ll]
def CS.le(h:CS okf okg C W g cap e L rest ps):ps.length<=cap:=by
 have Z:=h.len;rw[A9,h.flat]at Z;omega
def CS.ext(h:CS okf okg C W g cap e L rest ps)(k:Ext W W'):CS okf okg C W' g cap e L rest ps:=
 ⟨h.ge,h.D.E k O,h.len,h.mx,h.two,h.ll,fun i c p T a=>(h.rows i c p T a).E k O O,h.lo⟩
def CS.cut{c:LV}{p:PP}(h:CS okf okg C W g cap e (L++[c]) rest (ps++[p])):CS okf okg C W g cap e L (c++rest) ps:=by
 have f:(L++[c]).flatten++rest=L.flatten++(c++rest):=by simp
 refine⟨h.ge,by rw[<-f];exact h.D,by rw[<-f];exact h.len,h.mx,fun d x=>h.two d (by simp[x]),by have:=h.ll;simpa using this,fun i d q x V=>?_,h.lo⟩;have F:=(Ah.1 x).1;have v:=(Ah.1 V).1;exact h.rows i d q (by rw[D4 F];exact x) (by rw[D4 v];exact V)
def CS.split(h:CS okf okg C W g cap e L rest ps)(a:0<ps.length):∃z u v B l m,L=z++[[v,B]]/\ps=u++[(l,m)]/\FL okf W v l/\FL okg W B m/\l.length=m.length:=by
 have N:=h.ll;obtain⟨u,q,rfl⟩:∃u q,ps=u++[q]:=⟨ps.dropLast,ps.getLast (by intro e;simp[e]at a),(Lb _).symm⟩;obtain⟨z,c,rfl⟩:∃z c,L=z++[c]:=⟨L.dropLast,L.getLast (by intro e;simp[e]at N),(Lb _).symm⟩;simp only[A9,HA]at N;have d:=h.rows u.length c q sH O;obtain⟨v,B,rfl,Z,b,R⟩:=d;exact⟨z,u,v,B,q.1,q.2,rfl,rfl,Z,b,R⟩
def CS.cells{v B:Value}{l m:LF}(h:CS okf okg C W g cap e (L++[[v,B]]) rest (ps++[(l,m)])):CC W g (0+ps.length*2+0) v/\CC W g (0+ps.length*2+1) B/\0+ps.length*2+1<((L++[[v,B]]).flatten++rest).length:=by
 have b:=h.ll;simp only[A9,HA]at b;have S:L.flatten.length=ps.length*2:=by rw[EL 2 L fun c T=>h.two c rR];omega
 have a:((L++[[v,B]]).flatten++rest)[0+ps.length*2+0]?=some v:=by
  simp only[FN,Do,I6,Ch,Cg];rw[EJ U];simp[S]
 have f:((L++[[v,B]]).flatten++rest)[0+ps.length*2+1]?=some B:=by
  simp only[FN,Do,I6,Ch,Cg];rw[EJ U];rw[show 0+ps.length*2+1-L.flatten.length=1 by omega];rfl
 exact⟨h.D.cell a,h.D.cell f,(Ah.1 f).1⟩
def CS.put{v B u a:Value}{l m l' f:LF}(h:CS okf okg C W g cap e (L++[[v,B]]) rest (ps++[(l,m)]))(k:Keep [g] W W')
  (S:Blk W' g e ((((L++[[v,B]]).flatten++rest).set (0+ps.length*2+0) u).set (0+ps.length*2+1) a))(Z:FL okf W' u l')(o:FL okg W' a f)(A:l'.length=f.length):CS okf okg C W' g cap e (L++[[u,a]]) rest (ps++[(l',f)]):=by
 have s:=h.ll;simp only[A9,HA]at s;have d:∀c∈L,c.length=2:=fun c T=>h.two c rR;have t:L.flatten.length=ps.length*2:=by rw[EL 2 L d];omega
 have n:(((L++[[v,B]]).flatten++rest).set (0+ps.length*2+0) u).set (0+ps.length*2+1) a=(L++[[u,a]]).flatten++rest:=by
  simp only[FN,Do,I6,Ch,Cg];rw[NY _ _ U,NY _ _ U,show 0+ps.length*2+0-L.flatten.length=0 by omega,show 0+ps.length*2+1-L.flatten.length=1 by omega];rfl
 have y:∀b,okf b\/okg b->b∉[g]:=fun b S r=>by
  have:=h.lo b S;have:=h.ge;simp at r;omega
 refine⟨h.ge,by rw[<-n];exact S,?_,h.mx,fun c T=>?_,by simp;omega,fun i c p T j=>?_,h.lo⟩
 ·have:=h.len;simp only[FN,Do,I6,Ch,A9,C9,FP]at this⊢;exact this
 ·rcases DM.1 T with T|T
  ·exact d c T
  ·simp at T;subst T;rfl
 ·by_cases F:i<L.length
  ·rw[D4 F]at T;rw[D4 U]at j;exact(h.rows i c p (by rw[D4 F];exact T) (by rw[D4 U];exact j)).E k (fun b S=>y b (.inl S)) fun b S=>y b (.inr S)
  ·have q:=(Ah.1 T).1;simp at q;have:i=L.length:=by omega
   subst this;simp at T;have M:(ps++[(l',f)])[ps.length]?=some p:=by rw[show ps.length=L.length by omega];exact j
   simp at M;subst T;subst M;exact⟨u,a,rfl,Z,o,A⟩
def CS.push{D r:Nat}{d:TypeId}{x:Array Value}{u v:Value}{l' m:LF}(h:CS okf okg C W g cap e L rest ps)(q:C<=W.heap.size)(y:D=g\/D=W.heap.size)(S:W'.heap[D]?=some (.cells x d (0,0)))(E:x.size=r*2)(a:r<=maxLen)
  (P:x.toList.take ((ps.length+1)*2)=(L.flatten++rest).take (ps.length*2)++[u,v])(k:Keep [g] W W')(Z:FL okf W' u l')(n:FL okg W' v m)(A:l'.length=m.length):CS okf okg C W' D r d (L++[[u,v]]) (x.toList.drop ((ps.length+1)*2)) (ps++[(l',m)]):=by
 have t:=h.ll;have s:=h.ge
 have z:∀b,okf b\/okg b->b∉[g]:=fun b S a=>by
  have:=h.lo b S;simp at a;omega
 have f:(L.flatten++rest).take (ps.length*2)=L.flatten:=by rw[<-h.flat];exact Kd
 have l:(L++[[u,v]]).flatten++x.toList.drop ((ps.length+1)*2)=x.toList:=by
  rw[f]at P;simp only[FN,Do,I6,Ch];rw[<-P,HB]
 refine⟨by rcases y with rfl|rfl<;>omega,?_,by rw[l];simpa using E,a,fun c T=>?_,by simp;omega,fun i c p T j=>?_,h.lo⟩
 ·rw[l];show W'.heap[D]?=_;rw[S]
 ·rcases DM.1 T with T|T
  ·exact h.two c T
  ·simp at T;subst T;rfl
 ·by_cases F:i<L.length
  ·rw[D4 F]at T;rw[D4 U]at j;exact(h.rows i c p T j).E k (fun b S=>z b (.inl S)) fun b S=>z b (.inr S)
  ·have o:=(Ah.1 T).1;simp at o;have:i=L.length:=by omega
   subst this;have M:(ps++[(l',m)])[ps.length]?=some p:=by rw[show ps.length=L.length by omega];exact j
   simp at M T;subst T;subst M;exact⟨u,v,rfl,Z,n,A⟩
end
end
def Hz:=@List.length_eq_zero_iff
section
variable {mk:Prop}[MK mk]
def Nt{x y:Fml}{l m:LF}(h:BO x y=0):Db (x::l) (y::m)=Db l m:=by rw[Db,GL h]
def Kc(a b c:Int):Ck (Ck a b) c=Ck a (Ck b c):=by
 unfold Ck;by_cases h:a=0
 ·rw[AJ h,AJ h]
 ·rw[AG h,AG h,AG h]
structure CI(w:World)(okf okg:Nat->Prop)(N:Nat)(r:Int)(x:Nat×Nat×List PP)(W:World):Prop where
 cs:∃e L rest,CS okf okg w.heap.size W x.1 x.2.1 e L rest x.2.2
 ext:Ext w W
 res:r=LH x.2.2.reverse
 wt:Jk x.2.2<=N
def PF.op{ok:Nat->Prop}{w:World}{b o:Nat}{f:Fml}(h:PF ok w b o f):w.cell? ⟨b,o+0,none⟩=some (iV f.op):=by
 obtain⟨_,a,c,L,T,_⟩:=h.form;exact T 0 _ rfl
def Ig(A:List PP)(p:PP):LH (A++[p]).reverse=Ck (Db p.1 p.2) (LH A.reverse):=by simp[LH]
def N6{w W V:World}{b o:Nat}{v:Value}(k:Ext w W)(a:Ext w V)(S:b<w.heap.size)(h:W.cell? ⟨b,o,none⟩=some v):V.cell? ⟨b,o,none⟩=some v:=by
 have f:=k.block b S O;have u:=a.block b S O;unfold World.cell? at h⊢;rw[u,<-f];exact h
set_option maxHeartbeats 6400000 in
def Ng(w:World)(v v':Value)(f g:Fml)(a7 a8:Nat->Prop)(hf:FAt a7 w v f)(hg:FAt a8 w v' g)(o:(∀b,a7 b->Unm w b)\/(∀b,a8 b->Unm w b))(hz:szF f<=1000000):
  Fn Zp 208 [v,v'] w fun r w'=>r=iV (BO f g)/\Ext w w':=by
 obtain⟨av,rfl,Lf,hSf,hFf⟩:=hf.form;obtain⟨bv,rfl,Lg,e6,c7⟩:=hg.form;obtain⟨a,c,rfl,_⟩:=id hSf;obtain⟨a',c',rfl,_⟩:=id e6;have e5:=hSf.lt (Nv hFf.1 hFf.2.1);have e7:=e6.lt (Nv c7.1 c7.2.1);have g3:=hf.lt;have g4:=hg.lt;refine AM func208 rfl ntmps208 (go ?_);refine Ac (L:=fcC f (.slice a f.args.length c)) rfl (fun w1 n1=>?_);refine Ac (L:=fcC g (.slice a' g.args.length c')) rfl (fun w2 n2=>?_);have b1:=n1.D.E n2.E O;have b2:=n2.D;have z1:=n1.size;have z2:=n2.size;have k2:Ext w w2:=n1.E.Q n2.E;refine go ?_;have pf:PF AL w2 w.heap.size 0 f:=⟨trivial,fcC f _,rfl,b1.cells,((hf.ext k2).mono fun _ _=>trivial)⟩;have pg:PF AL w2 w1.heap.size 0 g:=⟨trivial,fcC g _,rfl,b2.cells,((hg.ext k2).mono fun _ _=>trivial)⟩;refine gC (QO w2 _ _ _ _ f g pf pg) ?_;rintro _ Q⟨rfl,k3⟩;refine AT (AS rfl ?_);refine nX ?_;have e4:Q.cell? ⟨w.heap.size,0+4,none⟩=some (.slice a f.args.length c):=(b1.E k3 O).cell rfl;have e3:Q.cell? ⟨w1.heap.size,0+4,none⟩=some (.slice a' g.args.length c'):=(b2.E k3 O).cell rfl;have a9:Ext w Q:=k2.Q k3;generalize b8:GW f g=cn;have hsp:=QX f g;rw[b8]at hsp;by_cases b9:cn=0;rotate_left
 ·(refine AN (AS rfl ?_)<;>(refine JV rfl rfl (fun T=>?_) (fun T=>?_)<;>try omega)<;>refine AH rfl (AP rfl (AP rfl (AP rfl (AP rfl (BF rfl (AH rfl ?_)))))))
  refine nX ?_;refine AN (AS rfl (AT (AS rfl ?_)));refine nX ?_;exact AC rfl ⟨congrArg (Value.int .i64) (by rw[hsp,J4 b9]),a9⟩
 rw[GL b9]at hsp;by_cases h0:f.args.length=0
 ·(refine AN (AS rfl ?_)<;>(refine JV rfl rfl (fun T=>?_) (fun T=>?_)<;>try omega)<;>refine AH rfl (AE rfl (AV rfl (AE rfl (AQ rfl rG ?_))))<;>refine AE rfl (Cj rfl ?_)<;>(refine AE rfl ?_;(refine Cb rfl rfl (fun T=>?_) (fun T=>?_)<;>try omega))<;>refine BJ rfl (AH rfl ?_))
  refine nX ?_;refine AN (AS rfl (AT (AS rfl ?_)));refine nX ?_;refine AC rfl ⟨congrArg (Value.int .i64) ?_,a9⟩;rw[hsp,Hz.1 h0,b9];cases g.args<;>rfl
 (refine AN (AS rfl ?_)<;>(refine JV rfl rfl (fun T=>?_) (fun T=>?_)<;>try omega)<;>refine AH rfl (AE rfl (AV rfl (AE rfl (AQ rfl rG ?_))))<;>refine AE rfl (Cj rfl ?_)<;>(refine AE rfl ?_;(refine Cb rfl rfl (fun T=>?_) (fun T=>?_)<;>try omega))<;>refine BJ rfl (AH rfl ?_))
 refine nY ?_
 have hlen:f.args.length=g.args.length:=by
  unfold GW at b8;rw[b9]at b8;simp only[MB,cmpI_zero]at b8;omega
 refine AN ?_;refine Ai (fun w4 n4=>?_);refine nX ?_;have z4:=n4.size;have z3:=k3.size;have h9:=a9.Q n4.E;have e1:∀W,Ext w W->FL (fun b=>a7 b/\b<w.heap.size) W (.slice a f.args.length c) f.args:=fun W k=>⟨a,c,Lf,rfl,e5.ext k,(FsAt.lt hFf).E k O⟩;have FLg:∀W,Ext w W->FL (fun b=>a8 b/\b<w.heap.size) W (.slice a' g.args.length c') g.args:=fun W k=>⟨a',c',Lg,rfl,e7.ext k,(FsAt.lt c7).E k O⟩
 have e8:(∀W,Ext w W->∀b,a7 b/\b<w.heap.size->Unm W b)\/(∀W,Ext w W->∀b,a8 b/\b<w.heap.size->Unm W b):=by
  rcases o with o|o
  ·exact .inl fun W k b S=>(o b S.1).eq (k.block b S.2 O)
  ·exact .inr fun W k b S=>(o b S.1).eq (k.block b S.2 O)
 clear g3 g4 e5 e7 pf pg;refine Ab (rd 0 6 (.alt 6 (.alt 7 (.read 8 .done) .stop) .stop)) AX rD (fun X q ed=>⟨Ext Q,?_,?_⟩)
 ·exact n4.E.Q q
 have qa:∀W,Ext Q W->W.cell? ⟨w.heap.size,0+4,none⟩=some (.slice a f.args.length c):=fun W e=>e.cell e4 O;have qb:∀W,Ext Q W->W.cell? ⟨w1.heap.size,0+4,none⟩=some (.slice a' g.args.length c'):=fun W e=>e.cell e3 O;(apply D_R rfl rfl;(intro W hW;(refine Z1 rfl rfl U U ?_);exact AB ⟨rfl,rfl,rfl⟩))
 (refine D_R rfl rfl (fun W hW=>AV rfl Z3) (D_R rfl rfl (fun W hW=>AQ rfl (qa W hW) Z3) (D_R rfl rfl (fun W hW=>AV rfl Z3) (D_R rfl rfl (fun W hW=>AQ rfl (qb W hW) Z3) ?_)))<;>(apply D_R rfl rfl;(intro W hW;refine DB rF rF ?_;exact Z3)))
 refine D_E rfl ?_;refine Ay (out:=[.slice a f.args.length c,.slice a' g.args.length c']) rfl U rD (fun w5 n5=>?_);have z5:=n5.size;have zd:=q.size;refine AB ⟨Ext Q,fun _ e=>e,(n4.E.Q q).Q n5.E,?_⟩;have b5:=(n4.D.E q O).E n5.E O;have f5:=(n4.E.Q q).Q n5.E;refine D_E rfl ?_
 refine Qp (size:=2) (n:=0) (cap:=8) (g:=Q.heap.size) (sv:=.slice (sm X.heap.size) 1 1) (ok:=AL) (cs:=[.slice a f.args.length c,.slice a' g.args.length c']) rfl rfl b5 rF U rI
  ⟨_,_,rfl,by omega,by omega,(fun h=>by cases h),.inr ⟨_,_,rfl,trivial,n5.D.cells⟩⟩ rI rfl rfl sE U U (fun g' f6 e' cur' w6 f9 e9 g7 h4 g6 f4 k6=>?_)
 have c0:CS (fun b=>a7 b/\b<w.heap.size) (fun b=>a8 b/\b<w.heap.size) w.heap.size w5 Q.heap.size 8 _ [] _ []:=⟨by omega,b5,rfl,by decide,(fun c T=>by cases T),rfl,(fun i c p T=>by simp at T),fun b S=>by rcases S with S|S<;>exact S.2⟩;have b6:Ext Q w6:=f5.E k6 O;have c6:=c0.push U f9 e9 g7 g6 f4 k6 (e1 w6 (a9.Q b6)) (FLg w6 (a9.Q b6)) hlen;refine AB ⟨Ext Q,fun _ e=>e,b6,?_⟩;refine D_R rfl rfl (fun W hW=>AT (BY rfl Z3)) (Cy ?_);refine nX ?_;have h8:=Bn f
 refine Aj (α:=Nat×Nat×List PP) (fun x=>[(7,.slice (sm x.1) x.2.2.length x.2.1)]) (CI w (fun b=>a7 b/\b<w.heap.size) (fun b=>a8 b/\b<w.heap.size) 2000001 (BO f g)) (fun x=>Jk x.2.2) (g',f6,[(f.args,g.args)]) ag
  ⟨⟨_,_,_,c6⟩,a9.Q b6,by rw[hsp];simp[LH,Ck],by simp[Jk];omega⟩ ?_
 clear c6 c0 b6 f5 e9 f4 k6 e1 FLg b5 n5 n4 T qa qb e4 e3 q;rintro⟨F,I,ps⟩W f3 hI;obtain⟨⟨e,L,i0,M⟩,kW,K,hwt⟩:=hI;simp only at M K hwt⊢;refine nX ?_;by_cases hp0:ps.length=0
 ·have e0:ps=[]:=Hz.1 hp0;subst e0;(refine AN (BY rfl (Cj rfl ?_))<;>(refine JU rfl rfl (fun T=>?_) (fun T=>?_)<;>try omega))
  refine nY ?_;refine AN (AT (AS rfl ?_));refine nX ?_;exact AC rfl ⟨congrArg (Value.int .i64) (by rw[K];rfl),kW⟩
 obtain⟨L',s,v,v',l,m,rfl,rfl,hl,d,f1⟩:=M.split U;obtain⟨x0,x1,h6⟩:=M.cells;have g0:=M.le;have g5:=M.lo;have f0:=M.ge
 have z:∀b,(a7 b/\b<w.heap.size)\/(a8 b/\b<w.heap.size)->b∉[F]:=fun b S d=>by
  have:=g5 b S;simp at d;omega
 have h5:=Wr s;rw[Ig]at K;rw[Dq]at hwt;simp only[A9,HA]at g0⊢;simp only at K hwt;clear hp0;(refine AN (BY rfl (Cj rfl ?_))<;>(refine JU rfl rfl (fun T=>?_) (fun T=>?_)<;>try omega))
 refine nX ?_;refine AN (BY rfl (BY rfl (Cj rfl (Iw rfl rfl rQ ?_))));refine DZ (k:=s.length) rfl rfl U U ?_;refine AT (Aq rfl ?_);refine nX ?_;cases l with
 |nil=>
  obtain⟨a0,c0,rfl⟩:=hl.form;have h3:([]:LF).length=0:=rfl;(refine AN (Aq rfl (A7 rfl (AV rfl (AQ rfl rG ?_))))<;>refine Cj rfl ?_<;>(refine Cb rfl rfl (fun T=>?_) (fun T=>?_)<;>try omega))
  refine nX ?_;refine AN (BY rfl (BY rfl (Cj rfl (Iw rfl rfl rQ ?_))));refine N5 rfl rfl U U ?_;rw[show((((s.length+1:Nat):Int)-1).toNat)=s.length by omega];refine AT (BY rfl ?_);refine nX ?_;refine⟨(F,I,s),⟨rfl,ag,⟨⟨_,_,_,M.cut⟩,kW,?_,by simp only;omega⟩⟩,by simp only;rw[Dq];omega⟩;simp only;rw[K];rfl
 |cons x l=>
  cases m with
  |nil=>simp at f1
  |cons y m=>
   obtain⟨j,E,cx,rfl,h1,hx,tx⟩:=hl.cons;obtain⟨G,t,cy,rfl,h2,hy,ty⟩:=d.cons;have f2:l.length=m.length:=by simpa using f1
   have h7:=Bn x;simp only[szL]at hwt;(refine AN (Aq rfl (A7 rfl (AV rfl (AQ rfl rG ?_))))<;>refine Cj rfl ?_<;>(refine Cb rfl rfl (fun T=>?_) (fun T=>?_)<;>try omega))
   refine nY ?_;refine Ab (rd 0 12 .done) AX rD (fun X q ed=>⟨Ext X,?_,?_⟩)
   ·exact sY
   have g8:∀V,Ext X V->V.cell? ⟨F,0+s.length*2+0,none⟩=some (.slice (sn j E) (l.length+1) cx):=fun V e=>(q.Q e).cell x0 O;have g9:∀V,Ext X V->V.cell? ⟨F,0+s.length*2+1,none⟩=some (.slice (sn G t) (m.length+1) cy):=fun V e=>(q.Q e).cell x1 O;refine go ?_;have kA:=q;clear q g8 g9;refine Ab (rd 0 5 (rd 7 3 (.alt 5 (.read 6 (.alt 10 (rd 11 3 (.alt 14 (.read 15 (.read 16 (.alt 17 .done .stop))) .stop)) .stop)) (.alt 10 (.read 11 (.alt 5 (.read 6 (.read 12 (.read 13 (.alt 14 (.read 15 (.read 16 (.alt 17 .done .stop))) .stop)))) .stop)) .stop)))) AX rD (fun X q ed=>⟨fun _=>True,?_,?_⟩)
   ·trivial
   have kAD:=kA.Q q;have kD:Keep [F] W X:=kAD.any;have bd:=M.D.E kAD O;have y0:=kAD.cell x0 O;have y1:=kAD.cell x1 O;refine go ?_;refine D_A rfl ?_ (D_E rfl ?_)
   ·refine AQ rfl y0 ?_;refine wNl trivial ?_;refine gE ?_;refine AQ rfl y1 ?_;refine wNl trivial ?_;refine gE ?_;refine AW rfl rfl rfl bd U (fun wA pA=>?_);refine wNl trivial ?_;refine gE ?_;refine AW rfl rfl rfl pA.D (by rw[Jq];omega) (fun A pB=>?_);refine wNl trivial ?_;refine go ?_;have kB:Keep [F] W A:=(kD.Q pA.E O).Q pB.E O;have hB:=M.put kB pB.D (tx.E kB fun b S d=>z b (.inl S) d) (ty.E kB fun b S d=>z b (.inr S) d) f2;have a3:Ext w A:=kW.E kB (by simp;exact M.ge);have H:=hx.E kB fun b S d=>z b (.inl S) d;have R:=hy.E kB fun b S d=>z b (.inr S) d;obtain⟨ca,ta,fa,b3,c8,_⟩:=MT H.op;obtain⟨cb,tb,fb,b4,c9,_⟩:=MT R.op
    have d7:fa=(0,0)\/fb=(0,0):=by
     rcases e8 with hU|hU
     ·obtain⟨c1,t1,Z,_⟩:=PD (hU A a3 j H.1) H.op;rw[b3]at Z;cases Z;exact .inl rfl
     ·obtain⟨c1,t1,Z,_⟩:=PD (hU A a3 G R.1) R.op;rw[b4]at Z;cases Z;exact .inr rfl
    refine go ?_;refine XD (a:=⟨j,E+0*5,none⟩) (b:=⟨G,t+0*5,none⟩) rfl rfl b3 b4 d7 c8 c9 (go ?_);by_cases a4:(⟨j,E+0*5,none⟩:Addr)=⟨G,t+0*5,none⟩
    ·rw[BE a4];refine go ?_
     obtain⟨rfl,rfl⟩:j=G/\E=t:=by
      have:=Addr.mk.inj a4;exact⟨this.1,by have:=this.2.1;omega⟩
     have d8:=H.uniq R;refine⟨(F,I,s++[(l,m)]),⟨rfl,⟨congrArg (fun n=>Value.slice (sm F) n I) O,trivial⟩,⟨⟨_,_,_,hB⟩,a3,?_,by simp only;rw[Dq];simp only;omega⟩⟩,by simp only;rw[Dq,Dq];simp only[szL];omega⟩;simp only;rw[Ig,K,Nt ((Gf x y).2 d8)]
    ·rw[BC a4];refine gC (QO A j _ G _ x y (H.mono fun _ _=>trivial) (R.mono fun _ _=>trivial)) ?_;rintro _ wC⟨rfl,kC⟩;refine go ?_;have P:=a3.Q kC;have hC:=hB.ext kC;have d9:=H.E kC O;have pyC:=R.E kC O;generalize a1:GW x y=cn2;have N:=QX x y;rw[a1]at N;by_cases a5:cn2=0;rotate_left
     ·refine gR ?_;exact⟨congrArg (Value.int .i64) (by rw[K,Db,N,Kc,Kc,J4 a5]),P⟩
     rw[GL a5]at N
     have d2:x.args.length=y.args.length:=by
      unfold GW at a1;rw[a5]at a1;simp only[MB,cmpI_zero]at a1;omega
     refine go ?_;obtain⟨vx,c2,fvx⟩:=d9.args;obtain⟨vy,c4,fvy⟩:=pyC.args;obtain⟨D,C,rfl⟩:=fvx.form;obtain⟨B,cyy,rfl⟩:=fvy.form;have c3:wC.cell? ⟨j,E+0*5+4,none⟩=some (.slice D x.args.length C):=c2;have c5:wC.cell? ⟨G,t+0*5+4,none⟩=some (.slice B y.args.length cyy):=c4;by_cases f8:0<x.args.length
     ·refine go ?_;refine Ab (rd 0 10 (.alt 10 (.alt 11 (.read 12 .done) .stop) .stop)) AX rD (fun X q ed=>⟨Ext w,?_,?_⟩)
      ·exact P.Q q
      have qp:∀V,Ext w V->V.cell? ⟨j,E+0*5+4,none⟩=some (.slice D x.args.length C):=fun V e=>N6 P e H.1.2 c3;have qq:∀V,Ext w V->V.cell? ⟨G,t+0*5+4,none⟩=some (.slice B y.args.length cyy):=fun V e=>N6 P e R.1.2 c5;refine go ?_;refine gE ?_;refine Ay (out:=[.slice D x.args.length C,.slice B y.args.length cyy]) rfl U rD (fun wE nE=>?_);have a2:=q.Q nE.E;have a6:=P.Q a2;have hE:=hC.ext a2;refine AB ⟨Ext w,fun _ e=>e,a6,?_⟩;have d4:(s++[(l,m)]).length=s.length+1:=by simp
      refine D_E rfl ?_
      refine Qp (size:=2) (n:=s.length+1) (cap:=I) (g:=F) (sv:=.slice (sm X.heap.size) 1 1) (ok:=AL) (cs:=[.slice D x.args.length C,.slice B y.args.length cyy]) rfl rfl hE.D (by rw[IZ];exact hE.len) U hE.mx
       ⟨_,_,rfl,by omega,by omega,(fun h=>by cases h),.inr ⟨_,_,rfl,trivial,nE.D.cells⟩⟩ rI rfl rfl sE U U (fun g2 b0 e2 f7 wF d1 d0 d5 g1 d3 d6 kF=>?_)
      have hF:=hE.push a6.size d1 d0 d5 d3 (by rw[d4];simpa using d6) kF (fvx.E (a2.any.Q kF O) fun b S d=>z b (.inl S) d) (fvy.E (a2.any.Q kF O) fun b S d=>z b (.inr S) d) d2;have b7:=a6.E kF (by simp;exact f0);refine AB ⟨Ext w,fun _ e=>e,b7,?_⟩;refine go ?_;refine⟨(g2,b0,s++[(l,m)]++[(x.args,y.args)]),⟨rfl,⟨congrArg (fun n=>Value.slice (sm g2) n b0) O,trivial⟩,⟨⟨_,_,_,hF⟩,b7,?_,by simp only;rw[Dq,Dq];simp only;omega⟩⟩,by simp only;rw[Dq,Dq,Dq];simp only[szL];omega⟩;simp only;rw[Ig,Ig,K,Db,N,Kc]
     ·refine go ?_;have ex:x.args=[]:=Hz.1 U;have ez:BO x y=0:=by rw[N,ex];cases y.args<;>rfl
      refine⟨(F,I,s++[(l,m)]),⟨rfl,⟨congrArg (fun n=>Value.slice (sm F) n I) O,trivial⟩,⟨⟨_,_,_,hC⟩,P,?_,by simp only;rw[Dq];simp only;omega⟩⟩,by simp only;rw[Dq,Dq];simp only[szL];omega⟩;simp only;rw[Ig,K,Nt ez]
   ·refine AQ rfl y1 ?_;refine wNl trivial ?_;refine gE ?_;refine AQ rfl y0 ?_;refine wNl trivial ?_;refine gE ?_;refine AW rfl rfl rfl bd U (fun wA pA=>?_);refine wNl trivial ?_;refine gE ?_;refine AW rfl rfl rfl pA.D (by rw[Jq];omega) (fun A pB=>?_);refine wNl trivial ?_;refine go ?_;have kB:Keep [F] W A:=(kD.Q pA.E O).Q pB.E O;have hB:=M.put kB pB.D (tx.E kB fun b S d=>z b (.inl S) d) (ty.E kB fun b S d=>z b (.inr S) d) f2;have a3:Ext w A:=kW.E kB (by simp;exact M.ge);have H:=hx.E kB fun b S d=>z b (.inl S) d;have R:=hy.E kB fun b S d=>z b (.inr S) d;obtain⟨ca,ta,fa,b3,c8,_⟩:=MT H.op;obtain⟨cb,tb,fb,b4,c9,_⟩:=MT R.op
    have d7:fa=(0,0)\/fb=(0,0):=by
     rcases e8 with hU|hU
     ·obtain⟨c1,t1,Z,_⟩:=PD (hU A a3 j H.1) H.op;rw[b3]at Z;cases Z;exact .inl rfl
     ·obtain⟨c1,t1,Z,_⟩:=PD (hU A a3 G R.1) R.op;rw[b4]at Z;cases Z;exact .inr rfl
    refine go ?_;refine XD (a:=⟨j,E+0*5,none⟩) (b:=⟨G,t+0*5,none⟩) rfl rfl b3 b4 d7 c8 c9 (go ?_);by_cases a4:(⟨j,E+0*5,none⟩:Addr)=⟨G,t+0*5,none⟩
    ·rw[BE a4];refine go ?_
     obtain⟨rfl,rfl⟩:j=G/\E=t:=by
      have:=Addr.mk.inj a4;exact⟨this.1,by have:=this.2.1;omega⟩
     have d8:=H.uniq R;refine⟨(F,I,s++[(l,m)]),⟨rfl,⟨congrArg (fun n=>Value.slice (sm F) n I) O,trivial⟩,⟨⟨_,_,_,hB⟩,a3,?_,by simp only;rw[Dq];simp only;omega⟩⟩,by simp only;rw[Dq,Dq];simp only[szL];omega⟩;simp only;rw[Ig,K,Nt ((Gf x y).2 d8)]
    ·rw[BC a4];refine gC (QO A j _ G _ x y (H.mono fun _ _=>trivial) (R.mono fun _ _=>trivial)) ?_;rintro _ wC⟨rfl,kC⟩;refine go ?_;have P:=a3.Q kC;have hC:=hB.ext kC;have d9:=H.E kC O;have pyC:=R.E kC O;generalize a1:GW x y=cn2;have N:=QX x y;rw[a1]at N;by_cases a5:cn2=0;rotate_left
     ·refine gR ?_;exact⟨congrArg (Value.int .i64) (by rw[K,Db,N,Kc,Kc,J4 a5]),P⟩
     rw[GL a5]at N
     have d2:x.args.length=y.args.length:=by
      unfold GW at a1;rw[a5]at a1;simp only[MB,cmpI_zero]at a1;omega
     refine go ?_;obtain⟨vx,c2,fvx⟩:=d9.args;obtain⟨vy,c4,fvy⟩:=pyC.args;obtain⟨D,C,rfl⟩:=fvx.form;obtain⟨B,cyy,rfl⟩:=fvy.form;have c3:wC.cell? ⟨j,E+0*5+4,none⟩=some (.slice D x.args.length C):=c2;have c5:wC.cell? ⟨G,t+0*5+4,none⟩=some (.slice B y.args.length cyy):=c4;by_cases f8:0<x.args.length
     ·refine go ?_;refine Ab (rd 0 10 (.alt 10 (.alt 11 (.read 12 .done) .stop) .stop)) AX rD (fun X q ed=>⟨Ext w,?_,?_⟩)
      ·exact P.Q q
      have qp:∀V,Ext w V->V.cell? ⟨j,E+0*5+4,none⟩=some (.slice D x.args.length C):=fun V e=>N6 P e H.1.2 c3;have qq:∀V,Ext w V->V.cell? ⟨G,t+0*5+4,none⟩=some (.slice B y.args.length cyy):=fun V e=>N6 P e R.1.2 c5;refine go ?_;refine gE ?_;refine Ay (out:=[.slice D x.args.length C,.slice B y.args.length cyy]) rfl U rD (fun wE nE=>?_);have a2:=q.Q nE.E;have a6:=P.Q a2;have hE:=hC.ext a2;refine AB ⟨Ext w,fun _ e=>e,a6,?_⟩;have d4:(s++[(l,m)]).length=s.length+1:=by simp
      refine D_E rfl ?_
      refine Qp (size:=2) (n:=s.length+1) (cap:=I) (g:=F) (sv:=.slice (sm X.heap.size) 1 1) (ok:=AL) (cs:=[.slice D x.args.length C,.slice B y.args.length cyy]) rfl rfl hE.D (by rw[IZ];exact hE.len) U hE.mx
       ⟨_,_,rfl,by omega,by omega,(fun h=>by cases h),.inr ⟨_,_,rfl,trivial,nE.D.cells⟩⟩ rI rfl rfl sE U U (fun g2 b0 e2 f7 wF d1 d0 d5 g1 d3 d6 kF=>?_)
      have hF:=hE.push a6.size d1 d0 d5 d3 (by rw[d4];simpa using d6) kF (fvx.E (a2.any.Q kF O) fun b S d=>z b (.inl S) d) (fvy.E (a2.any.Q kF O) fun b S d=>z b (.inr S) d) d2;have b7:=a6.E kF (by simp;exact f0);refine AB ⟨Ext w,fun _ e=>e,b7,?_⟩;refine go ?_;refine⟨(g2,b0,s++[(l,m)]++[(x.args,y.args)]),⟨rfl,⟨congrArg (fun n=>Value.slice (sm g2) n b0) O,trivial⟩,⟨⟨_,_,_,hF⟩,b7,?_,by simp only;rw[Dq,Dq];simp only;omega⟩⟩,by simp only;rw[Dq,Dq,Dq];simp only[szL];omega⟩;simp only;rw[Ig,Ig,K,Db,N,Kc]
     ·refine go ?_;have ex:x.args=[]:=Hz.1 U;have ez:BO x y=0:=by rw[N,ex];cases y.args<;>rfl
      refine⟨(F,I,s++[(l,m)]),⟨rfl,⟨congrArg (fun n=>Value.slice (sm F) n I) O,trivial⟩,⟨⟨_,_,_,hC⟩,P,?_,by simp only;rw[Dq];simp only;omega⟩⟩,by simp only;rw[Dq,Dq];simp only[szL];omega⟩;simp only;rw[Ig,K,Nt ez]
def VU{i:Bool}:∀{l:LF},(∀a∈l,BQ i a=true)->Gp i l=true
 | [],_=>rfl
 |a::l,h=>by rw[Gp,h a O,VU fun c T=>h c rR];rfl
def HI{op v b:Int}{l:LU}{args:LF}{i:Bool}(h:BQ i (.mk op l v b args)=true):
  E0 op=true/\CN op l v b args.length=true/\(i=true->FJ op=false)/\∀a∈args,BQ (i||CR op) a=true:=by
 simp only[BQ,AZ]at h;obtain⟨⟨⟨⟨Z,W⟩,R⟩,A⟩,c⟩:=h;refine⟨Z,W,fun e=>?_,fun a G=>Ij c G⟩;subst e;simpa using R
def JL{op v b:Int}{l:LU}{args:LF}{i:Bool}(Z:E0 op=true)(W:CN op l v b args.length=true)(R:i=true->FJ op=false)(A:op=4->∀a∈args,a.op=3)(c:∀a∈args,BQ (i||CR op) a=true):
  BQ i (.mk op l v b args)=true:=by
 simp only[BQ,AZ];refine⟨⟨⟨⟨Z,W⟩,?_⟩,?_⟩,VU c⟩
 ·cases i with
  |false=>rfl
  |true=>rw[R rfl];rfl
 ·by_cases e:op=4
  ·rw[AJ e];subst e
   have N:args.length=1:=by
    have:=Fp W;simpa[Am]using this
   obtain⟨a,rfl⟩:=FU N;exact BE (A rfl a O)
  ·rw[AG e]
def OZ{op:Int}(h:op=1\/op=2)(i:Bool):BQ i (En op)=true:=by rcases h with rfl|rfl<;>cases i<;>rfl
def PT{op:Int}(h:op=5\/op=6)(i:Bool):(i||CR op)=i:=by rcases h with rfl|rfl<;>cases i<;>rfl
def mF{op:Int}(h:op=5\/op=6){c:Fml}{i:Bool}(T:BQ i c=true):∀a∈Fl op c,BQ i a=true:=by
 intro a G;unfold Fl at G;by_cases d:c.op=op
 ·rw[AJ d]at G;obtain⟨o,l,v,b,e⟩:=c;obtain rfl:o=op:=d;have:=(HI T).2.2.2 a G
  rwa [PT h]at this
 ·rw[AG d]at G
  split at G
  ·cases G
  ·have:a=c:=by simpa using G
   subst this;exact T
def gc{op:Int}(h:op=5\/op=6){n:Nat}(H:2<=n):CN op [] 0 0 n=true:=by
 unfold CN Am;rcases h with rfl|rfl<;>simp[H]
def fP{op:Int}(h:op=5\/op=6){i:Bool}{l:LF}(N:∀c∈l,BQ i c=true):BQ i (GT op l)=true:=by
 obtain⟨H,y,A,f,v⟩:=Ja h;rw[In h];cases DL op l with
 |true=>exact OZ f i
 |false=>
  simp only[D6,Dh];rw[J1]
  have b:∀a∈Dl (l.flatMap (Fl op)),BQ i a=true:=by
   intro a G;rw[mem_dist,Ib]at G;obtain⟨c,T,G⟩:=G;exact mF h (N c T) a G
  generalize Dl (l.flatMap (Fl op))=d at b;cases Fg d with
  |true=>exact OZ f i
  |false=>
   match d,b with
   | [],_=>exact OZ v i
   | [a],b=>exact b a O
   |a::c::d,b=>
    refine JL ?_ (gc h O) ?_ (fun e=>by omega) fun x V=>by rw[PT h];exact b x V
    ·rcases h with rfl|rfl<;>rfl
    ·intro _;rcases h with rfl|rfl<;>rfl
def bR{op v b:Int}{l:LU}{n:Nat}(h:CN op l v b n=true):CN op l v 0 n=true:=by
 simp only[CN,AZ,BD]at h⊢;obtain⟨⟨⟨q,S⟩,a⟩,C⟩:=h;refine⟨⟨⟨q,by omega⟩,?_⟩,C⟩
 split<;>omega
def QW:∀{f:Fml}{i:Bool},BQ i f=true->BQ i (Ba f)=true
 | .mk op nm v b args,i,h=>by
  obtain⟨Z,j,R,A⟩:=HI h;have z:=Hd Z;have m:=sh_iff.1 (KA h);have G:=Fp j;have n:∀a∈args,BQ (i||CR op) (Ba a)=true:=fun a r=>QW (A a r);rw[Im];by_cases l:op=5\/op=6
  ·unfold Dr;rw[AJ l];refine fP l fun c T=>?_;obtain⟨a,r,rfl⟩:=By.1 T;have:=n a r
   rwa [PT l]at this
  have d:BQ i (.mk op nm v 0 (args.map Ba))=true:=by
   refine JL Z (by rw[Es];exact bR j) R (fun e a r=>?_) fun a r=>?_
   ·obtain⟨c,T,rfl⟩:=By.1 r;exact UY (m.2.1.2.2.2.2 e c T)
   ·obtain⟨c,T,rfl⟩:=By.1 r;exact n c T
  have W:∀k,k<args.length->CR op=false->BQ i ((args.map Ba).getD k Ad)=true:=fun k P C=>by
   rw[jA Ba args k Ad Ad P]
   have r:args.getD k Ad∈args:=by
    rw[Ce,AU P];exact E9 P
   have:=n _ r
   rwa [C,Bool.or_false]at this
  by_cases B:op=8
  ·subst B;have N:args.length=1:=by simpa[Am]using G
   rw[Kk]
   split
   ·exact W 0 U rfl
   ·exact d
  by_cases g:op=9
  ·subst g;have N:args.length=2:=by simpa[Am]using G
   rw[Kl]
   split
   ·exact W 1 U rfl
   ·exact d
  by_cases F:op=10
  ·subst F;have N:args.length=2:=by simpa[Am]using G
   rw[Kf]
   split
   ·exact W 1 U rfl
   ·exact d
  rw[Km l B g F];exact d
def dpL_le{n:Nat}:∀{l:LF},dpL l<=n↔∀a∈l,dpF a<=n
 | []=>by simp[dpL]
 |a::l=>by rw[dpL,Nat.max_le,dpL_le];simp
end
end Go.Proofs.YtjbocjodncbogaaGreatDoor
