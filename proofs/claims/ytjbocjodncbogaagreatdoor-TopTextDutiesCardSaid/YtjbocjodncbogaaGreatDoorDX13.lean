/- TopTextDuties, part 13 of 15: lemmas. Conditions: none. -/
import Derived.Test.YtjbocjodncbogaaGreatDoorDX12
namespace Go.Proofs.YtjbocjodncbogaaGreatDoor
open Go.RowKit Go.Proofs.Tryz
set_option linter.unusedVariables false
set_option linter.defProp false
def WK(w:World)(op:Int):Fn Zp 307 [iV op] w fun u w'=>(∃n:Int,u=iV n)/\w'=w:=by
 refine AM func307 rfl ntmps307 (go ?_);by_cases Z:op=1
 ·refine go ?_;exact AC rfl ⟨⟨_,rfl⟩,rfl⟩
 by_cases W:op=2
 ·refine go ?_;exact AC rfl ⟨⟨_,rfl⟩,rfl⟩
 by_cases R:op=5
 ·refine go ?_;exact AC rfl ⟨⟨_,rfl⟩,rfl⟩
 by_cases A:op=6
 ·refine go ?_;exact AC rfl ⟨⟨_,rfl⟩,rfl⟩
 by_cases a:op=9
 ·refine go ?_;exact AC rfl ⟨⟨_,rfl⟩,rfl⟩
 by_cases p:op=10
 ·refine go ?_;exact AC rfl ⟨⟨_,rfl⟩,rfl⟩
 by_cases b:op=16
 ·refine go ?_;exact AC rfl ⟨⟨_,rfl⟩,rfl⟩
 by_cases M:op=17
 ·refine go ?_;exact AC rfl ⟨⟨_,rfl⟩,rfl⟩
 refine gR ?_;exact⟨⟨_,rfl⟩,rfl⟩
def Ws(ok:Nat->Prop)(w:World):Fn Zp 303 [] w fun v w'=>Ext w w'/\FAt ok w' v ⟨1,[],0,0,[]⟩:=by
 refine AM func303 rfl ntmps303 (go ?_);refine Ai (L:=zero5) (fun Q D=>?_);have q:Blk Q w.heap.size 37 zero5:=D.D;refine go ?_;refine Aa (cs:=[iV 1,AA [],iV 0,iV 0,nS]) rfl rfl rfl (Ak rfl) q rK (fun a E=>go ?_);exact Ar rfl rfl rfl E.D.cells ⟨D.E.E E.E O,FAt.leaf _ _ _ _ _ _⟩
def VK(ok:Nat->Prop)(w:World):Fn Zp 304 [] w fun v w'=>Ext w w'/\FAt ok w' v ⟨2,[],0,0,[]⟩:=by
 refine AM func304 rfl ntmps304 (go ?_);refine Ai (L:=zero5) (fun Q D=>?_);have q:Blk Q w.heap.size 37 zero5:=D.D;refine go ?_;refine Aa (cs:=[iV 2,AA [],iV 0,iV 0,nS]) rfl rfl rfl (Ak rfl) q rK (fun a E=>go ?_);exact Ar rfl rfl rfl E.D.cells ⟨D.E.E E.E O,FAt.leaf _ _ _ _ _ _⟩
abbrev FmA(w:World)(u:Value)(w':World):Prop:=Ext w w'/\∃g,FAt (fun b=>w.heap.size<=b) w' u g
def Two.fresh{B:Nat}{W:World}{v1 v2:Value}{l1 Z:LF}(h:Two B W v1 v2 l1 Z):∃a c L,v1=.slice a l1.length c/\Sl (fun b=>B<=b) W v1 l1.length L.flatten/\FsAt (fun b=>B<=b) W L l1:=by
 obtain⟨⟨y,n,z⟩, -, -⟩:=h;have E:Sl (fun b=>B<=b) W v1 l1.length y.flatten:=BG n fun g d=>(Ao n d).1;obtain⟨a,c,e,_⟩:=id E;exact⟨a,c,y,e,E,z.mono fun _ S=>S.1⟩
set_option maxHeartbeats 1600000 in
def no(ok:Nat->Prop)(w:World)(op n:Int)(v:Value)(f:Fml)(P:FAt ok w v f)(hn:n<=1000)(a6:∀x,w.heap.size<=x->ok x):Fn Zp 305 [iV op,iV n,v] w fun u w'=>Ext w w'/\∃g,FAt ok w' u g:=by
 have a5:=P.lt;obtain⟨c5,rfl,a3,a7⟩:=P.cells;obtain⟨e,d,i,m,j,rfl⟩:=An a3;refine AM func305 rfl ntmps305 (go ?_);refine Ac (L:=[e,d,i,m,j]) rfl (fun Q D=>?_);refine Ai (L:=zero5) (fun c R=>?_);have z1:=D.size;have z2:=R.size;have e2:=D.E.Q R.E;have b1:=D.D.E R.E O;have b2:Blk c Q.heap.size 37 zero5:=R.D;refine go ?_;refine CL (cs:=[e,d,i,m,j]) rfl rfl rF a7 (fun w3 z=>?_);have z3:=z.size;have N:=e2.Q z.E;have a0:=b1.E z.E O;have a1:=b2.E z.E O;have a2:Blk w3 c.heap.size 37 [e,d,i,m,j]:=z.D;have a:=(a5.ext N).mono (ok':=fun b=>(ok b/\b≠Q.heap.size)/\b≠c.heap.size) fun b S=>⟨⟨S.1,by have:=S.2;omega⟩,by have:=S.2;omega⟩;refine go ?_
 refine Aj (α:=Nat) (fun k=>[(0,iV op),(1,iV n),(5,pt w.heap.size),(6,pt Q.heap.size),(7,pt c.heap.size),(8,iV (k:Int))])
  (fun k W=>Keep [c.heap.size] w3 W/\∃(t:LV)(g:Fml),t.length=5/\Blk W c.heap.size 37 t/\FAt (fun b=>(ok b/\b≠Q.heap.size)/\b≠c.heap.size) W (.agg t.toArray) g) (fun k=>n.toNat-k) 0 ag ⟨Keep.refl _ _,_,f,rfl,a2,a⟩ ?_
 rintro k W fr⟨K,t,g,a4,G,l⟩;have kw:Ext w W:=N.E K rE;have zW:=K.size;obtain⟨c0,c1,c2,c3,c4,rfl⟩:=An a4;refine go ?_;by_cases a8:(k:Int)<n
 ·refine go ?_;refine Ab (.read 0 (.read 1 (.alt 2 (.alt 3 (.alt 4 (.alt 5 .done .stop) .stop) .stop) .stop))) AX rD (fun X s ed=>⟨Keep [c.heap.size] X,?_,?_⟩)
  ·exact tK
  have zd:=s.size;have B5:∀V,Keep [c.heap.size] X V->Cells V w.heap.size 0 [e,d,i,m,j]:=fun V p=>((a0.E K rE).E s O).cells.E p rE;have bd:=G.E s O;have fd:=l.ext s;have E:∀x,c.heap.size<x->(ok x/\x≠Q.heap.size)/\x≠c.heap.size:=fun x T=>⟨⟨a6 _ U,by omega⟩,by omega⟩;refine go ?_;refine D_R (v:=.agg [e,d,i,m,j].toArray) rfl rfl (fun V p=>by refine Al (L:=[e,d,i,m,j]) rfl rfl (B5 V p) ?_;exact AB ⟨rfl,rfl,rfl⟩) ?_;refine gE ?_;refine Cu rfl bd rfl ?_;refine wNl (Keep.refl _ _) ?_;refine gE ?_;refine AD (WO X 8 _ _ g fd (E _ U) (fun x T=>E _ U)) rfl ?_;rintro u4 w4⟨o,f4⟩;have z4:=o.size;refine wNl o.any ?_;refine gE ?_;have fx:FAt (fun b=>(ok b/\b≠Q.heap.size)/\b≠c.heap.size) w4 (.agg [e,d,i,m,j].toArray) f:=((a.E K (fun b S F=>S.2 rm)).ext s).ext o;refine AD (WR w4 op _ _ _ f _ fx f4 (fun x T=>E _ U)) rfl ?_;rintro u5 w5⟨A,M⟩;have z5:=A.size;have Z:=(s.Q o).Q A;refine wNl ((o.Q A).any) ?_;refine gE ?_;refine Cv rfl rfl M (G.E Z O) rfl (fun w9 H C r q z9 B=>?_);refine wNl ((o.Q A).any.Q q (fun y I _=>I)) ?_;refine go ?_;exact⟨k+1,⟨rfl,ag,⟨(K.ext Z).Q q (fun y I _=>I),H,_,r,B,by rw[<-C];exact M.E q (fun b S F=>S.2 rm)⟩⟩,by omega⟩
 ·refine go ?_;refine Cv rfl rfl l (a1.E K rE) rfl (fun w9 H C r q z9 B=>?_);refine go ?_;exact Ar rfl rfl r B.cells ⟨kw.E q rE,_,FAt.ret (l.mono fun _ h=>h.1) C q⟩
def FsAt.elt{ok:Nat->Prop}{w:World}{a:Option Addr}{c k:Nat}{L:List (LV)}{l:LF}{x:Fml}(i:Sl ok w (.slice a l.length c) l.length L.flatten)(j:FsAt ok w L l)(n:l[k]?=some x):
  ∃b o f P V g G,a=some ⟨b,o,none⟩/\ok b/\Cells w b (o+k*5) [f,P,V,g,G]/\FAt ok w (.agg [f,P,V,g,G].toArray) x:=by
 have m:=(Ah.1 n).1;obtain⟨d,h⟩:∃d,L[k]?=some d:=⟨_,AU (by rw[j.1];exact m)⟩;obtain⟨b,o,e,S,T⟩:=i.fml j.2.1 h m;have Z:=j.2.1 d (BA h);have K:=j.2.2 k d x h n;obtain⟨f,P,V,g,G,rfl⟩:=An Z;exact⟨b,o,f,P,V,g,G,e,S,T,K⟩
set_option maxHeartbeats 4000000 in
def kJ:∀(N:Nat)(f:Fml),szF f<=N->N<=1000000->BU shQ f->∀(w:World)(v:Value)(neg:Bool),FAt AL w v f->Fn Zp 233 [v,.bool neg] w fun u w'=>FmA w u w':=by
 intro N
 induction N with
 |zero=>intro f hN;have:=Ey f;omega
 |succ N ih=>
 intro f hN hM a6 w v neg hf;have c8:=Bn f;have hal:=D8 f.args;have hs:=(allF_iff.1 a6).1;have b9:=(allF_iff.1 a6).2;simp only[shQ,CN,AZ,BD]at hs;obtain⟨⟨⟨⟨⟨⟨⟨s1,s2⟩,s3⟩,s4⟩,s5⟩,s6⟩,s7⟩,s8⟩:=hs;have d0:f.val<=3:=by split at s5<;>(try split at s5)<;>omega
 have d1:f.bound<=9:=by split at s7<;>omega
 have a2:f.op=4\/f.op=11\/f.op=12\/f.op=13\/f.op=14\/f.op=18\/f.op=19->f.args.length=1:=fun e=>by
  unfold Am at s3;rw[AG U,AG U,AG U]at s3;simpa using s3
 have hnone:f.op=3->f.args=[]:=fun e=>by
  unfold Am at s3;rw[AJ U]at s3;exact Dc (by simpa using s3)
 obtain⟨c5,rfl,b3,c7⟩:=hf.cells;obtain⟨x0,x1,x2,x3,x4,rfl⟩:=An b3;refine AM func233 rfl ntmps233 (go ?_);refine Ac (L:=[x0,x1,x2,x3,x4]) rfl (fun Q n1=>?_);have z1:=n1.size;have P1:PF AL Q w.heap.size 0 f:=⟨trivial,_,rfl,n1.D.cells,hf.ext n1.E⟩;obtain⟨aa,ac,hcap,q0,q1,q2,q3,q4,qa⟩:=P1.all;refine Ai (L:=zero5) (fun w2 n2=>?_);have z2:=n2.size;have Z:=n1.E.Q n2.E;have b1:=n1.D.E n2.E O;have R:Blk w2 Q.heap.size 37 zero5:=n2.D;refine go ?_
 refine Aj (α:=Nat×Value) (fun y=>[(1,.bool neg),(2,pt w.heap.size),(4,pt Q.heap.size),(5,y.2),(6,iV (y.1:Int))])
  (fun y W=>y.1<=f.args.length/\Ext w2 W/\∃l,l.length=y.1/\Two w2.heap.size W y.2 (nS) l []) (fun y=>f.args.length-y.1) (0,nS) ag ⟨by simp,Ext.refl _,[],rfl,Two.start _ _⟩ ?_
 rintro⟨k,v1⟩W fr⟨hk,K,l,hl,hT⟩;simp only at hk K hl hT;have kw:=Z.Q K;have bW:=b1.E K O;have zW:=K.size;have a0:=n2.E.Q K;have r0:=a0.cell q0 O;have r2:=a0.cell q2 O;have r3:=a0.cell q3 O;have r4:=a0.cell q4 O;refine go ?_;by_cases hlt:k<f.args.length
 ·obtain⟨x,hx⟩:=gl hlt;obtain⟨b',o',rfl,px⟩:=qa k x hx;obtain⟨_,d,hd,b5,b8⟩:=px;obtain⟨t,P,z,A,G,rfl⟩:=An hd;have b4:Cells W b' (o'+k*5) [t,P,z,A,G]:=b5.E a0 O;have a7:=BA hx;have c9:=Ci a7;obtain⟨L1,o1,f1⟩:=id hT.o1;have hX:∀y∈v1.ownBlock.toList,w2.heap.size<=y:=fun y I=>(Ao o1 (Aw.1 I)).1;rcases(by omega:f.op=4\/(f.op≠4/\f.op=7/\k=0)\/(f.op≠4/\f.op=7/\k≠0)\/(f.op≠4/\f.op≠7))with e|⟨e,e',e''⟩|⟨e,e',e''⟩|⟨e,e'⟩
  all_goals
   refine go ?_;refine Al (L:=[t,P,z,A,G]) rfl rfl b4 ?_;refine gC (ih x U U (b9 x a7) W _ _ (b8.ext a0)) ?_;rintro u w5⟨E,g,fu⟩;obtain⟨cs,rfl,b6,hone'⟩:=fu.cells;obtain⟨y0,y1,y2,y3,y4,rfl⟩:=An b6;refine Ay (out:=[y0,y1,y2,y3,y4]) rfl U rP (fun w8 n8=>?_);have k8:=E.Q n8.E;have z8:=k8.size;refine Bk (ok:=AL) (v:=v1) rfl rfl (CD o1 k8) (BG (n8.own (n:=1) (size:=5) rfl rL (AO _)) fun _ _=>trivial) U rfl rfl hone' U U U (fun v8 c a8=>?_);refine go ?_;exact⟨(k+1,v8),⟨rfl,ag,⟨by simp only;omega,(K.Q k8).E a8.E (fun y I=>by have:=hX y I;omega),l++[g],by simp[hl],hT.push o1 f1 k8 (fu.ext n8.E) rfl zW a8⟩⟩,by simp only;omega⟩
 ·obtain⟨sa,sc,L1,rfl,M,H⟩:=hT.fresh;replace M:=M.mono (ok':=fun x=>w.heap.size<=x/\x≠Q.heap.size) fun b hb=>⟨by omega,by omega⟩;replace H:=H.mono (ok':=fun x=>w.heap.size<=x/\x≠Q.heap.size) fun b hb=>⟨by omega,by omega⟩;have c6:l.length=f.args.length:=by omega
  have a5:∀x,W.heap.size<=x->w.heap.size<=x/\x≠Q.heap.size:=fun x hx=>⟨by omega,by omega⟩;have fE:f.args=[]->FAt (fun x=>w.heap.size<=x/\x≠Q.heap.size) W (.agg [x0,x1,x2,x3,x4].toArray) f:=fun h0=>hf.any h0;cases neg
  all_goals
   refine go ?_;by_cases e3:f.op=3
   ·have f3:=fE (hnone e3);refine go ?_;first
    |(refine AD (WO W 4 _ _ f f3 (a5 _ (AO _)) a5) rfl ?_
      rintro u6 w6⟨q,C⟩;refine go ?_;refine Cv rfl rfl (C) (R.E (K.Q q) O) rfl (fun c S s r a T j=>go ?_);exact Ar rfl rfl r j.cells ⟨(Z.Q (K.Q q)).E a rE,_,FAt.ret (C) s a⟩
      done)
    |(skip
      refine Cv rfl rfl (f3) (R.E (K) O) rfl (fun c S s r a T j=>go ?_);exact Ar rfl rfl r j.cells ⟨(Z.Q (K)).E a rE,_,FAt.ret (f3) s a⟩
      done)
   refine go ?_;by_cases e4:f.op=4
   ·have h1:=a2 (Or.inl e4);obtain⟨g0,F⟩:=gl (show 0<l.length by omega);obtain⟨b,o,t,P,z,A,G,rfl,a4,B,f0⟩:=FsAt.elt M H F;refine go ?_;refine Al (L:=[t,P,z,A,G]) rfl rfl B ?_;refine Cv rfl rfl (f0) (R.E (K) O) rfl (fun c S s r a T j=>go ?_);exact Ar rfl rfl r j.cells ⟨(Z.Q (K)).E a rE,_,FAt.ret (f0) s a⟩
   refine go ?_;by_cases e7:f.op=7
   ·refine gC (PU W _ _ _ _ L1 l M H) ?_;exact se
   refine go ?_;by_cases a9:f.op=11\/f.op=12
   ·have h1:=a2 U;obtain⟨g0,F⟩:=gl (show 0<l.length by omega);obtain⟨b,o,t,P,z,A,G,rfl,a4,B,f0⟩:=FsAt.elt M H F;rcases a9 with e|e
    all_goals
     refine go ?_;refine Ab (rd 1 3 (.alt 0 (.alt 4 (.alt 5 .done .stop) .stop) .stop)) AX rD (fun X i ed=>⟨Keep [Q.heap.size] X,?_,?_⟩)
     ·exact tK
     have zd:=i.size;have E1:∀V,Keep [Q.heap.size] X V->Cells V b (o+0*5) [t,P,z,A,G]:=fun V p=>(B.E i O).E p rE;have E3:∀V,Keep [Q.heap.size] X V->CC V w.heap.size (0+3) (iV f.bound):=fun V p=>p.cell (i.cell r3 O) rE;have a1:=f0.ext i;refine go ?_;refine D_R (v:=.agg [t,P,z,A,G].toArray) rfl rfl (fun V p=>by refine Al (L:=[t,P,z,A,G]) rfl rfl (E1 V p) ?_;exact AB ⟨rfl,rfl,rfl⟩) ?_;refine gE ?_;first|refine AD (Ws (fun x=>w.heap.size<=x/\x≠Q.heap.size) X) rfl ?_|refine AD (VK (fun x=>w.heap.size<=x/\x≠Q.heap.size) X) rfl ?_
     rintro u4 w4⟨D,f4⟩;have z4:=D.size;refine wNl D.any ?_;refine gE ?_;refine AD (WR w4 _ _ _ _ _ _ f4 (a1.ext D) (fun x hx=>⟨by omega,by omega⟩)) rfl ?_;rintro u5 w5⟨E,f5⟩;refine wNl ((D.Q E).any) ?_;refine gE ?_;refine Cv rfl rfl f5 (R.E (K.Q (i.Q (D.Q E))) O) rfl (fun c S s r a T j=>?_);refine wNl ((D.Q E).any.Q a (fun y I _=>I)) ?_;refine go ?_;exact Ar rfl rfl r j.cells ⟨(kw.Q (i.Q (D.Q E))).E a rE,_,FAt.ret f5 s a⟩
   refine go ?_;by_cases b0:f.op=13\/f.op=14
   ·have h1:=a2 U;obtain⟨g0,F⟩:=gl (show 0<l.length by omega);obtain⟨b,o,t,P,z,A,G,rfl,a4,B,f0⟩:=FsAt.elt M H F;rcases b0 with e|e
    all_goals
     refine go ?_;refine Ab (rd 0 5 (.alt 5 (.alt 6 .done .stop) .stop)) AX rD (fun X i ed=>⟨Keep [Q.heap.size] X,?_,?_⟩)
     ·exact tK
     have zd:=i.size;have E1:∀V,Keep [Q.heap.size] X V->Cells V b (o+0*5) [t,P,z,A,G]:=fun V p=>(B.E i O).E p rE;have E3:∀V,Keep [Q.heap.size] X V->CC V w.heap.size (0+3) (iV f.bound):=fun V p=>p.cell (i.cell r3 O) rE;have a1:=f0.ext i;refine go ?_;refine D_R (v:=.agg [t,P,z,A,G].toArray) rfl rfl (fun V p=>by refine Al (L:=[t,P,z,A,G]) rfl rfl (E1 V p) ?_;exact AB ⟨rfl,rfl,rfl⟩) ?_;refine gE ?_;refine AD (no (fun x=>w.heap.size<=x/\x≠Q.heap.size) X _ f.bound _ g0 a1 U (fun x hx=>⟨by omega,by omega⟩)) rfl ?_;rintro u5 w5⟨E,g5,f5⟩;refine wNl (E).any ?_;refine gE ?_;refine Cv rfl rfl f5 (R.E (K.Q (i.Q (E))) O) rfl (fun c S s r a T j=>?_);refine wNl ((E).any.Q a (fun y I _=>I)) ?_;refine go ?_;exact Ar rfl rfl r j.cells ⟨(kw.Q (i.Q (E))).E a rE,_,FAt.ret f5 s a⟩
   refine go ?_;by_cases b2:f.op=18\/f.op=19
   ·have h1:=a2 U;obtain⟨g0,F⟩:=gl (show 0<l.length by omega);obtain⟨b,o,t,P,z,A,G,rfl,a4,B,f0⟩:=FsAt.elt M H F;rcases b2 with e|e
    all_goals
     refine go ?_;refine Ab (rd 1 3 (.alt 0 (.alt 4 (.alt 5 (.alt 6 .done .stop) .stop) .stop) .stop)) AX rD (fun X i ed=>⟨Keep [Q.heap.size] X,?_,?_⟩)
     ·exact tK
     have zd:=i.size;have E1:∀V,Keep [Q.heap.size] X V->Cells V b (o+0*5) [t,P,z,A,G]:=fun V p=>(B.E i O).E p rE;have E3:∀V,Keep [Q.heap.size] X V->CC V w.heap.size (0+3) (iV f.bound):=fun V p=>p.cell (i.cell r3 O) rE;have a1:=f0.ext i;refine go ?_;refine D_R (v:=.agg [t,P,z,A,G].toArray) rfl rfl (fun V p=>by refine Al (L:=[t,P,z,A,G]) rfl rfl (E1 V p) ?_;exact AB ⟨rfl,rfl,rfl⟩) ?_;refine gE ?_;first|refine AD (Ws (fun x=>w.heap.size<=x/\x≠Q.heap.size) X) rfl ?_|refine AD (VK (fun x=>w.heap.size<=x/\x≠Q.heap.size) X) rfl ?_
     rintro u4 w4⟨D,f4⟩;have z4:=D.size;obtain⟨cu,rfl,b7, -⟩:=f4.cells;obtain⟨c0,c1,c2,c3,c4,rfl⟩:=An b7;refine wNl D.any ?_;refine gE ?_;refine Ay (out:=[c0,c1,c2,c3,c4,t,P,z,A,G]) rfl U rZ (fun w5 n5=>?_);have z5:=n5.size;obtain⟨S5,F5⟩:=FsAt.fresh (ok:=fun x=>w.heap.size<=x/\x≠Q.heap.size) (L:=[[c0,c1,c2,c3,c4],[t,P,z,A,G]]) n5 (FsAt.two f4 rfl (a1.ext D) rfl) ⟨by omega,by omega⟩ O;refine wNl ((D.Q n5.E).any) ?_;refine gE ?_;refine AD (Rb w5 _ _ _ _ _ _ _ S5 F5) rfl ?_;rintro u6 w6⟨q,C⟩;refine wNl (((D.Q n5.E).Q q).any) ?_;refine gE ?_;refine Cv rfl rfl C (R.E (K.Q (i.Q ((D.Q n5.E).Q q))) O) rfl (fun c S s r a T j=>?_);refine wNl (((D.Q n5.E).Q q).any.Q a (fun y I _=>I)) ?_;refine go ?_;exact Ar rfl rfl r j.cells ⟨(kw.Q (i.Q ((D.Q n5.E).Q q))).E a rE,_,FAt.ret C s a⟩
   refine go ?_;by_cases e15:f.op=15
   ·refine gC (Rb W _ _ _ _ _ L1 l M H) ?_;exact se
   refine go ?_;by_cases e16:f.op=16\/f.op=17
   ·rcases e16 with e|e
    all_goals
     refine go ?_
     try
      refine AD (WK W _) rfl ?_;rintro _ W9⟨⟨m,rfl⟩,a3⟩;rw[a3];refine go ?_
     refine AD (Rb W _ _ _ _ _ L1 l M H) rfl ?_;exact se
   refine go ?_
   try
    refine AD (WK W _) rfl ?_;rintro _ W9⟨⟨m,rfl⟩,a3⟩;rw[a3];refine go ?_
   refine AD (PU W _ _ _ _ L1 l M H) rfl ?_;exact se
def Xx:∀(l:LF)(k:Nat),szL (l.take k)<=szL l
 | [],k=>by simp
 |a::l,0=>by simp[szL]
 |a::l,k+1=>by have:=Xx l k;simp only[Ln,szL];omega
def ZB{op b:Int}{r:Int×Int}(h:op=4):xtN op b r=(min r.1 1000,r.2):=by simp[xtN,h]
def Jl{op b:Int}{r:Int×Int}(h:op=11\/op=12\/op=18\/op=19):xtN op b r=(min (r.1+2) 1000,r.2+1):=by
 unfold xtN;rw[AG U,AJ (by simp[DI];omega),AG U,AG U]
def Pz{op b:Int}{r:Int×Int}(h:op=13\/op=14):xtN op b r=(min (r.1*(b+1)+2*b) 1000,r.2+2*b):=by
 unfold xtN;rw[AG U,AG (by simp[DI];omega),AJ h,AG U,AJ h]
def ZC{op b:Int}{r:Int×Int}(A:op≠4)(N:¬(op=11\/op=12\/op=18\/op=19))(S:¬(op=13\/op=14)):xtN op b r=(min (r.1+1) 1000,r.2+1):=by
 unfold xtN;rw[AG A,AG (by simp[DI];omega),AG S,AG A,AG S]
def Fk{a b c d:Int}(Z:a=c)(W:b=d):Value.tuple #[iV a,iV b]=Value.tuple #[iV c,iV d]:=by rw[Z,W]
set_option maxHeartbeats 4000000 in
def nc:∀(N:Nat)(f:Fml),szF f<=N->N<=1000->BU shQ f->∀(w:World)(v:Value)(neg:Bool),FAt AL w v f->Fn Zp 232 [v,.bool neg] w fun u w'=>u=.tuple #[iV (xtF f neg).1,iV (xtF f neg).2]/\Ext w w':=by
 intro N
 induction N with
 |zero=>intro f hN;have:=Ey f;omega
 |succ N ih=>
 intro f hN hM a8 w v neg hf;have b4:=Bn f;have hs:=(allF_iff.1 a8).1;have B:=(allF_iff.1 a8).2;simp only[shQ,CN,AZ,BD]at hs;obtain⟨⟨⟨⟨⟨⟨⟨s1,s2⟩,s3⟩,s4⟩,s5⟩,s6⟩,s7⟩,s8⟩:=hs;have b5:f.bound<=9:=by split at s7<;>omega
 have a6:f.op=4\/f.op=13\/f.op=14->f.args.length=1:=fun e=>by
  unfold Am at s3;rw[AG U,AG U,AG U]at s3;simpa using s3
 have V:=qH f neg;obtain⟨T,E⟩:∃T,T=(f.op==4||f.op==7):=⟨_,rfl⟩;rw[<-E]at V
 have a7:∀k,0<=(xtL T (f.args.take k) neg).1/\(xtL T (f.args.take k) neg).1<=1000000/\0<=(xtL T (f.args.take k) neg).2/\(xtL T (f.args.take k) neg).2<=20000:=fun k=>by
  have F:∀a∈f.args.take k,BU shQ a:=fun a ha=>B a (NZ ha);have h1:=PY (f.args.take k) T neg F;have h2:=(K2 (f.args.take k) T neg F).1;have h3:=D8 f.args;have h4:(f.args.take k).length<=f.args.length:=by rw[DE];omega
  have h5:=Xx f.args k;omega
 have c:∀S,S=(xtL T f.args neg).1->f.op=13\/f.op=14->S<=1000:=fun S h e=>by
  have h1:=(PY f.args T neg B).1;have h2:=a6 (Or.inr e);rw[<-h,h2]at h1;simpa using h1
 obtain⟨c5,rfl,a9,b3⟩:=hf.cells;obtain⟨x0,x1,x2,x3,x4,rfl⟩:=An a9;refine AM func232 rfl ntmps232 (go ?_);refine Ac (L:=[x0,x1,x2,x3,x4]) rfl (fun w1 n1=>?_);have z1:=n1.size;have P1:PF AL w1 w.heap.size 0 f:=⟨trivial,_,rfl,n1.D.cells,hf.ext n1.E⟩;obtain⟨aa,ac,b2,q0,q1,q2,q3,q4,qa⟩:=P1.all;cases neg with
 |true=>
  by_cases e3:f.op=3
  ·rw[AJ ⟨e3,rfl⟩]at V;rw[V];refine go ?_;exact DF rfl ⟨rfl,n1.E⟩
  rw[AG (fun h=>e3 h.1)]at V;refine go ?_
  refine Aj (α:=Nat) (fun k=>[(1,.bool true),(2,pt w.heap.size),(4,iV 0),(5,iV 0),(6,iV (1+(xtL T (f.args.take k) true).1)),(7,iV (xtL T (f.args.take k) true).2),(8,iV (k:Int))])
   (fun k W=>k<=f.args.length/\Ext w1 W) (fun k=>f.args.length-k) 0 (by refine⟨rfl,rfl,rfl,rfl,?_,?_,rfl,trivial⟩<;>(rw[Ke,xtL];rfl)) ⟨by omega,Ext.refl _⟩ ?_
  rintro k W fr⟨hk,K⟩;have y:=n1.E.Q K;have r0:=K.cell q0 O;have r3:=K.cell q3 O;have r4:=K.cell q4 O;obtain⟨g1,g2,g3,g4⟩:=a7 k;refine go ?_;by_cases a5:k<f.args.length
  ·obtain⟨x,I⟩:=gl a5;obtain⟨b',o',rfl,px⟩:=qa k x I;obtain⟨_,d,hd,a4,j⟩:=px;obtain⟨b,P,q,z,G,rfl⟩:=An hd;have l:Cells W b' (o'+k*5) [b,P,q,z,G]:=a4.E K O;have r:=BA I;have b1:=Ci r;have X:=Rq f.args k x T true I;obtain⟨g,t⟩:∃g,g=(T&&(k==0)):=⟨_,rfl⟩;rw[<-t]at X;rcases(by omega:f.op=4\/(f.op≠4/\f.op=7/\k=0)\/(f.op≠4/\f.op=7/\k≠0)\/(f.op≠4/\f.op≠7))with e|⟨e,C,M⟩|⟨e,C,M⟩|⟨e,C⟩
   ·have s:g=true:=by rw[t,E];simp[e];have:=a6 (Or.inl e);omega
    rw[s]at X;refine go ?_;refine Al (L:=[b,P,q,z,G]) rfl rfl l ?_;refine gC (ih x U U (B x r) W _ _ (j.ext K)) ?_;rintro _ Z⟨rfl,m⟩;obtain⟨H,o⟩:=Gl x (true !=g) (B x r);obtain⟨A,p⟩:=Iu x (true !=g) (B x r);rw[s]at H o A p;refine go ?_;refine IL rfl rfl (go ?_);refine⟨k+1,⟨rfl,⟨rfl,rfl,rfl,rfl,?_,?_,?_,trivial⟩,⟨by omega,K.Q m⟩⟩,by omega⟩
    ·exact tD
    ·refine congrArg (Value.int .i64) ?_;rw[X];all_goals first|rfl|(exfalso;omega)
    ·exact tQ
   ·have s:g=true:=by rw[t,E];simp[C,M]
    rw[s]at X;refine go ?_;refine Al (L:=[b,P,q,z,G]) rfl rfl l ?_;refine gC (ih x U U (B x r) W _ _ (j.ext K)) ?_;rintro _ Z⟨rfl,m⟩;obtain⟨H,o⟩:=Gl x (true !=g) (B x r);obtain⟨A,p⟩:=Iu x (true !=g) (B x r);rw[s]at H o A p;refine go ?_;refine IL rfl rfl (go ?_);refine⟨k+1,⟨rfl,⟨rfl,rfl,rfl,rfl,?_,?_,?_,trivial⟩,⟨by omega,K.Q m⟩⟩,by omega⟩
    ·exact tD
    ·refine congrArg (Value.int .i64) ?_;rw[X];all_goals first|rfl|(exfalso;omega)
    ·exact tQ
   ·have s:g=false:=by rw[t,E];simp[C,M]
    rw[s]at X;refine go ?_;refine Al (L:=[b,P,q,z,G]) rfl rfl l ?_;refine gC (ih x U U (B x r) W _ _ (j.ext K)) ?_;rintro _ Z⟨rfl,m⟩;obtain⟨H,o⟩:=Gl x (true !=g) (B x r);obtain⟨A,p⟩:=Iu x (true !=g) (B x r);rw[s]at H o A p;refine go ?_;refine IL rfl rfl (go ?_);refine⟨k+1,⟨rfl,⟨rfl,rfl,rfl,rfl,?_,?_,?_,trivial⟩,⟨by omega,K.Q m⟩⟩,by omega⟩
    ·exact tD
    ·refine congrArg (Value.int .i64) ?_;rw[X];all_goals first|rfl|(exfalso;omega)
    ·exact tQ
   ·have s:g=false:=by rw[t,E];simp[e,C]
    rw[s]at X;refine go ?_;refine Al (L:=[b,P,q,z,G]) rfl rfl l ?_;refine gC (ih x U U (B x r) W _ _ (j.ext K)) ?_;rintro _ Z⟨rfl,m⟩;obtain⟨H,o⟩:=Gl x (true !=g) (B x r);obtain⟨A,p⟩:=Iu x (true !=g) (B x r);rw[s]at H o A p;refine go ?_;refine IL rfl rfl (go ?_);refine⟨k+1,⟨rfl,⟨rfl,rfl,rfl,rfl,?_,?_,?_,trivial⟩,⟨by omega,K.Q m⟩⟩,by omega⟩
    ·exact tD
    ·refine congrArg (Value.int .i64) ?_;rw[X];all_goals first|rfl|(exfalso;omega)
    ·exact tQ
  obtain rfl:k=f.args.length:=by omega
  rw[Co]at g1 g2 g3 g4⊢;obtain⟨S,i⟩:∃S,S=(xtL T f.args true).1:=⟨_,rfl⟩;obtain⟨D,n⟩:∃D,D=(xtL T f.args true).2:=⟨_,rfl⟩;rw[<-i]at g1 g2;rw[<-n]at g3 g4;rw[<-i,<-n];refine go ?_;by_cases e4:f.op=4
  ·refine go ?_;refine Fb rfl rfl (go ?_);exact DF rfl ⟨by rw[V,ZB e4,<-i,<-n];exact Fk rN rN,y⟩
  refine go ?_;by_cases a0:f.op=11
  ·exact uX
  refine go ?_;by_cases a1:f.op=12
  ·exact uQ
  refine go ?_;by_cases a2:f.op=18
  ·exact uJ
  refine go ?_;by_cases a3:f.op=19
  ·exact uK
  refine go ?_;have c:f.op=13\/f.op=14->S<=1000:=c S i
  have F:f.op=13\/f.op=14->0<=(1+S-1)*(f.bound+1)/\(1+S-1)*(f.bound+1)<=10000:=fun h=>by
   exact tf
  exact sZ
 |false=>
  rw[AG (fun h=>CX h.2)]at V;by_cases e3:f.op=3
  all_goals
   refine go ?_
   refine Aj (α:=Nat) (fun k=>[(1,.bool false),(2,pt w.heap.size),(4,iV 0),(5,iV 0),(6,iV (1+(xtL T (f.args.take k) false).1)),(7,iV (xtL T (f.args.take k) false).2),(8,iV (k:Int))])
    (fun k W=>k<=f.args.length/\Ext w1 W) (fun k=>f.args.length-k) 0 (by refine⟨rfl,rfl,rfl,rfl,?_,?_,rfl,trivial⟩<;>(rw[Ke,xtL];rfl)) ⟨by omega,Ext.refl _⟩ ?_
   rintro k W fr⟨hk,K⟩;have y:=n1.E.Q K;have r0:=K.cell q0 O;have r3:=K.cell q3 O;have r4:=K.cell q4 O;obtain⟨g1,g2,g3,g4⟩:=a7 k;refine go ?_;by_cases a5:k<f.args.length
   ·obtain⟨x,I⟩:=gl a5;obtain⟨b',o',rfl,px⟩:=qa k x I;obtain⟨_,d,hd,a4,j⟩:=px;obtain⟨b,P,q,z,G,rfl⟩:=An hd;have l:Cells W b' (o'+k*5) [b,P,q,z,G]:=a4.E K O;have r:=BA I;have b1:=Ci r;have X:=Rq f.args k x T false I;obtain⟨g,t⟩:∃g,g=(T&&(k==0)):=⟨_,rfl⟩;rw[<-t]at X;rcases(by omega:f.op=4\/(f.op≠4/\f.op=7/\k=0)\/(f.op≠4/\f.op=7/\k≠0)\/(f.op≠4/\f.op≠7))with e|⟨e,C,M⟩|⟨e,C,M⟩|⟨e,C⟩
    ·have s:g=true:=by rw[t,E];simp[e];have:=a6 (Or.inl e);omega
     rw[s]at X;refine go ?_;refine Al (L:=[b,P,q,z,G]) rfl rfl l ?_;refine gC (ih x U U (B x r) W _ _ (j.ext K)) ?_;rintro _ Z⟨rfl,m⟩;obtain⟨H,o⟩:=Gl x (false !=g) (B x r);obtain⟨A,p⟩:=Iu x (false !=g) (B x r);rw[s]at H o A p;refine go ?_;refine IL rfl rfl (go ?_);refine⟨k+1,⟨rfl,⟨rfl,rfl,rfl,rfl,?_,?_,?_,trivial⟩,⟨by omega,K.Q m⟩⟩,by omega⟩
     ·exact tD
     ·refine congrArg (Value.int .i64) ?_;rw[X];all_goals first|rfl|(exfalso;omega)
     ·exact tQ
    ·have s:g=true:=by rw[t,E];simp[C,M]
     rw[s]at X;refine go ?_;refine Al (L:=[b,P,q,z,G]) rfl rfl l ?_;refine gC (ih x U U (B x r) W _ _ (j.ext K)) ?_;rintro _ Z⟨rfl,m⟩;obtain⟨H,o⟩:=Gl x (false !=g) (B x r);obtain⟨A,p⟩:=Iu x (false !=g) (B x r);rw[s]at H o A p;refine go ?_;refine IL rfl rfl (go ?_);refine⟨k+1,⟨rfl,⟨rfl,rfl,rfl,rfl,?_,?_,?_,trivial⟩,⟨by omega,K.Q m⟩⟩,by omega⟩
     ·exact tD
     ·refine congrArg (Value.int .i64) ?_;rw[X];all_goals first|rfl|(exfalso;omega)
     ·exact tQ
    ·have s:g=false:=by rw[t,E];simp[C,M]
     rw[s]at X;refine go ?_;refine Al (L:=[b,P,q,z,G]) rfl rfl l ?_;refine gC (ih x U U (B x r) W _ _ (j.ext K)) ?_;rintro _ Z⟨rfl,m⟩;obtain⟨H,o⟩:=Gl x (false !=g) (B x r);obtain⟨A,p⟩:=Iu x (false !=g) (B x r);rw[s]at H o A p;refine go ?_;refine IL rfl rfl (go ?_);refine⟨k+1,⟨rfl,⟨rfl,rfl,rfl,rfl,?_,?_,?_,trivial⟩,⟨by omega,K.Q m⟩⟩,by omega⟩
     ·exact tD
     ·refine congrArg (Value.int .i64) ?_;rw[X];all_goals first|rfl|(exfalso;omega)
     ·exact tQ
    ·have s:g=false:=by rw[t,E];simp[e,C]
     rw[s]at X;refine go ?_;refine Al (L:=[b,P,q,z,G]) rfl rfl l ?_;refine gC (ih x U U (B x r) W _ _ (j.ext K)) ?_;rintro _ Z⟨rfl,m⟩;obtain⟨H,o⟩:=Gl x (false !=g) (B x r);obtain⟨A,p⟩:=Iu x (false !=g) (B x r);rw[s]at H o A p;refine go ?_;refine IL rfl rfl (go ?_);refine⟨k+1,⟨rfl,⟨rfl,rfl,rfl,rfl,?_,?_,?_,trivial⟩,⟨by omega,K.Q m⟩⟩,by omega⟩
     ·exact tD
     ·refine congrArg (Value.int .i64) ?_;rw[X];all_goals first|rfl|(exfalso;omega)
     ·exact tQ
   obtain rfl:k=f.args.length:=by omega
   rw[Co]at g1 g2 g3 g4⊢;obtain⟨S,i⟩:∃S,S=(xtL T f.args false).1:=⟨_,rfl⟩;obtain⟨D,n⟩:∃D,D=(xtL T f.args false).2:=⟨_,rfl⟩;rw[<-i]at g1 g2;rw[<-n]at g3 g4;rw[<-i,<-n];refine go ?_;by_cases e4:f.op=4
   ·refine go ?_;refine Fb rfl rfl (go ?_);exact DF rfl ⟨by rw[V,ZB e4,<-i,<-n];exact Fk rN rN,y⟩
   refine go ?_;by_cases a0:f.op=11
   ·exact uX
   refine go ?_;by_cases a1:f.op=12
   ·exact uQ
   refine go ?_;by_cases a2:f.op=18
   ·exact uJ
   refine go ?_;by_cases a3:f.op=19
   ·exact uK
   refine go ?_;have c:f.op=13\/f.op=14->S<=1000:=c S i
   have F:f.op=13\/f.op=14->0<=(1+S-1)*(f.bound+1)/\(1+S-1)*(f.bound+1)<=10000:=fun h=>by
    exact tf
   exact sZ
def O5{P:Fml->Bool->Prop}{H:Nd->Bool}(y:∀f i,P f i->H (f,i)=true)(b:∀f i a,P f i->a∈f.args->P a (i||(Be f.op).past)):∀(n:Nat)(f:Fml)(i:Bool),szF f<=n->P f i->(CW i f).all H=true
 |0,f,i,hz,_=>by rw[Bn]at hz;omega
 |n+1,f,i,hz,h=>by
  have N:∀(l:LF)(j:Bool),(∀a∈l,a∈f.args/\P a j)->(B9 j l).all H=true:=by
   intro l
   induction l with
   |nil=>intro j _;rfl
   |cons a l ih=>
    intro j r;have Z:=Ci (r a O).1;rw[Bn]at hz;rw[B9,HC,O5 y b n a j U (r a O).2,ih j fun c T=>r c rR];rfl
  rw[Iq,Gc,y f i h,N f.args _ fun a G=>⟨G,b f i a h G⟩];rfl
def vaQ(f:Fml):Prop:=szF f<=60/\dpF f<=20/\BU shQ f
def Wp{f:Fml}(h:vaQ f):Fy f=true:=by
 obtain⟨Z,W,R⟩:=h;simp only[Fy,AZ,BD];refine⟨⟨Z,W⟩,O5 (P:=fun f _=>szF f<=60/\BU shQ f) (fun g i y=>?_) (fun g i a y G=>?_) _ f false (AO _) ⟨Z,R⟩⟩
 ·have:=D8 g.args;have A:=y.1;rw[Bn]at A;simp only;rw[MQ g U];exact(allF_iff.1 y.2).1
 ·have:=Ci G;have A:=y.1;rw[Bn]at A;exact⟨by omega,(allF_iff.1 y.2).2 a G⟩
def ix{f:Fml}(h:BU E7 f):KM f=true:=
 O5 (P:=fun f _=>BU E7 f) (fun g i y=>by
  have:=(allF_iff.1 y).1;unfold NF;simp only;rw[(Kg g.op).2.1];unfold E7 at this;rw[this];rfl) (fun g i a y G=>(allF_iff.1 y).2 a G) _ f false (AO _) h
def jZ{f:Fml}(h:BU Jg f):KQ f=true:=
 O5 (P:=fun f i=>BU Jg f/\(i=true->BU E7 f)) (fun g i y=>by
  unfold Jf;simp only;rw[(Kg g.op).2.1];cases i with
  |false=>simp
  |true=>
   have:=(allF_iff.1 (y.2 rfl)).1;unfold E7 at this;rw[this];rfl) (fun g i a y G=>⟨(allF_iff.1 y.1).2 a G,fun F=>by
  rw[(Kg g.op).1,Fm]at F;rcases F with F|F
  ·exact(allF_iff.1 (y.2 F)).2 a G
  ·exact(allF_iff.1 y.1).1 F a G⟩) _ f false (AO _) ⟨h,fun h=>by cases h⟩
def ndS(S:List Sgn)(f:Fml):Prop:=(f.op=3->knS S f.name f.val=true)/\(CR f.op=true->∀a∈f.args,BU E7 a)
def YU(S:List Sgn):∀(n:Nat)(f:Fml),szF f<=n->BU (ndS S) f->HU (HW S) f=true
 |0,f,hz,_=>by rw[Bn]at hz;omega
 |n+1,f,hz,h=>by
  obtain⟨⟨Z,W⟩,R⟩:=allF_iff.1 h;rw[Bn]at hz;rw[RM,AZ];refine⟨?_,(Lw _).2 fun a G=>YU S n a (by have:=Ci G;omega) (R a G)⟩;unfold HW;by_cases N:f.op=3
  ·rw[AJ N];exact Z N
  rw[AG N]
  split
  ·rename_i hp;refine Bu.2 fun a G=>ix (W ?_ a G);simp only[Mu,Fm,BD]at hp;simp only[CR,AZ,BD];omega
  ·rfl
def fmS(S:List Sgn)(f:Fml):Prop:=Bo S=true/\vaQ f/\BU (ndS S) f/\BU Jg f/\(xtF f false).1<=60/\(xtF f false).2<=20
def pQ{S:List Sgn}{f:Fml}(h:fmS S f):GD S f=true:=by
 obtain⟨Z,W,R,A,a⟩:=h;simp only[GD,AZ,BD];exact⟨⟨⟨Z,Wp W⟩,YU S _ f (AO _) R⟩,(mn (Wp W) (jZ A) W.2.2).2 a⟩
def pn{k:List Rqm}{i:Nat}{x:Rqm}(h:k[i]?=some x)(H:∀j y,j<i->k[j]?=some y->y.name≠x.name):nmI k x.name=some i:=by
 obtain⟨j,C,G⟩:=V7 h;rw[C];refine congrArg some ?_;unfold nmI at C;obtain⟨z,Z, -⟩:=IX.1 C;refine Nat.le_antisymm G (Wz fun b=>?_);exact H j k[j] b (AU z) (by simpa using Z)
def rqS(S:List Sgn)(k:List Rqm)(i:Nat)(x:Rqm):Prop:=Hn x=true/\(∀j y,j<i->k[j]?=some y->y.name≠x.name)/\fmS S x.formula
def pL{s:Spc}(Z:Bo s.sigs=true)(W:s.reqs.length<=16)(R:∀i x,s.reqs[i]?=some x->rqS s.sigs s.reqs i x):Dx s=true:=by
 simp only[Dx,AZ,BD];refine⟨⟨Z,W⟩,Bu.2 fun i F=>?_⟩;obtain⟨x,V⟩:∃x,s.reqs[i]?=some x:=⟨_,AU (HZ.1 F)⟩;obtain⟨X,P,L⟩:=R i x V;unfold Hx;rw[V];simp only[AZ,BD];exact⟨⟨X,pn V P⟩,pQ L⟩
def VH(w:World)(v:Value)(f:Fml)(K:FAt AL w v f):Fn Zp 174 [v] w fun u w'=>∃b:Bool,u=.bool b/\Ext w w'/\(b=true->vaQ f):=by
 obtain⟨y,rfl,F,A⟩:=K.cells;obtain⟨p,d,q,k,j,rfl⟩:=An F;refine AM func174 rfl ntmps174 (go ?_);refine Ac (L:=[p,d,q,k,j]) rfl (fun Q D=>?_);have H:=D.size;have C:PF AL Q w.heap.size 0 f:=⟨trivial,_,rfl,D.D.cells,K.ext D.E⟩;obtain⟨r,s,z,B,G,S,l,E,a⟩:=C.all;refine gC (OL Q _ f 60 U (K.ext D.E)) ?_;rintro _ n⟨rfl,m⟩;have c:=D.E.Q m;have e:=D.D.E m O;by_cases Z:szF f<=60;rotate_left
 ·rw[BC Z];exact um
 rw[BE Z];refine gC (Uc _ f (AO _) U n _ (K.ext c)) ?_;rintro _ o⟨rfl,g⟩;have N:=c.Q g;have x:=e.E g O;by_cases W:dpF f<=20;rotate_left
 ·exact uh
 refine gC (Ut _ f (AO _) o _ (K.ext N)) ?_;rintro _ t⟨b,rfl,i,R⟩;refine gR ?_;exact⟨b,rfl,N.Q i,fun h=>⟨Z,W,R h⟩⟩
set_option maxHeartbeats 1000000 in
def dI(w:World)(v:Value)(f:Fml)(K:FAt AL w v f):Fn Zp 176 [v] w fun u w'=>∃(c:Value)(e:Int),u=.tuple #[c,iV e]/\Ext w w'/\(∃g,FAt AL w' c g)/\(e=0->vaQ f/\BU Jg f/\(xtF f false).1<=60/\(xtF f false).2<=20):=by
 obtain⟨c5,rfl,F,a3⟩:=K.cells;obtain⟨Z,x1,x2,x3,x4,rfl⟩:=An F;refine AM func176 rfl ntmps176 (go ?_);refine Ac (L:=[Z,x1,x2,x3,x4]) rfl (fun B D=>?_);have z1:=D.size;have C:PF AL B w.heap.size 0 f:=⟨trivial,_,rfl,D.D.cells,K.ext D.E⟩;obtain⟨aa,ac,a2,q0,q1,q2,q3,q4,qa⟩:=C.all;refine Ai (L:=zero5) (fun G R=>?_);have z2:=R.size;have y:=D.E.Q R.E;have H:=D.D.E R.E O;have P:Blk G B.heap.size 37 zero5:=R.D;refine gC (VH G _ f (K.ext y)) ?_;rintro _ V⟨b,rfl,a,S⟩;have N:=y.Q a;have I:=H.E a O;have i:=P.E a O;cases b with
 |false=>
  refine go ?_;refine Aa (cs:=zero5) rfl rfl rfl (Ak rfl) i rK (fun o E=>go ?_);exact Dp rfl rfl rfl E.D.cells ⟨_,30,rfl,N.E E.E rE,⟨_,FAt.leaf _ _ 0 [] 0 0⟩,fun h=>absurd h rI⟩
 |true=>
 have s:=S rfl;refine gC (XZ _ f (AO _) V _ (K.ext N)) ?_;rintro _ t⟨b,rfl,j,A⟩;have n:=N.Q j;have M:=I.E j O;have p:=i.E j O;cases b with
 |false=>
  refine go ?_;refine Aa (cs:=zero5) rfl rfl rfl (Ak rfl) p rK (fun o E=>go ?_);exact Dp rfl rfl rfl E.D.cells ⟨_,30,rfl,n.E E.E rE,⟨_,FAt.leaf _ _ 0 [] 0 0⟩,fun h=>absurd h rI⟩
 |true=>
 have T:=A rfl;have a4:=s.1;refine gC (nc _ f (AO _) U s.2.2 t _ false (K.ext n)) ?_;rintro _ X⟨rfl,m⟩;have l:=n.Q m;have a0:=M.E m O;have Q:=p.E m O;by_cases h5:60<(xtF f false).1
 ·exact tW
 by_cases h6:20<(xtF f false).2
 ·exact tW
 refine gC (kJ _ f (AO _) U s.2.2 X _ false (K.ext l)) ?_;rintro u6 w6⟨q,g,W⟩;have z3:=a.size;have z4:=j.size;have z5:=m.size;refine Cv rfl rfl W (Q.E q O) rfl (fun o a1 k r z z9 d=>go ?_);exact Dp rfl rfl r d.cells ⟨_,0,rfl,(l.Q q).E z rE,⟨g,FAt.ret (ok:=AL) (W.mono fun x hx=>⟨trivial,by omega⟩) k z⟩,fun _=>⟨s,T,by omega,by omega⟩⟩
def Ux(w:World)(op:Int):Fn Zp 230 [iV op] w fun u w'=>(∃b:Bool,u=.bool b/\b=CR op)/\w'=w:=by
 refine AM func230 rfl ntmps230 ?_;unfold CR;refine go ?_;by_cases Z:15<=op
 ·by_cases W:op<=19
  ·refine go ?_;exact AC rfl ⟨⟨_,rfl,by simp[Z,W]⟩,rfl⟩
  ·refine go ?_;exact AC rfl ⟨⟨_,rfl,by simp[W]⟩,rfl⟩
 ·refine go ?_;exact AC rfl ⟨⟨_,rfl,by simp[Z]⟩,rfl⟩
set_option maxHeartbeats 2000000 in
def eR(S:List Sgn)(sa:Option Addr)(T:Nat):∀(N:Nat)(f:Fml),szF f<=N->∀(w:World)(v:Value),SlAt sgnR AL w (.slice sa S.length T) S->FAt AL w v f->Fn Zp 175 [.slice sa S.length T,v] w fun u w'=>∃e:Int,u=iV e/\Ext w w'/\(e=0->BU (ndS S) f):=by
 intro N
 induction N with
 |zero=>intro f hN;have:=Ey f;omega
 |succ N ih=>
 intro f hN w v hS hf;have b1:=Bn f;obtain⟨c5,rfl,a4,b0⟩:=hf.cells;obtain⟨x0,x1,x2,x3,x4,rfl⟩:=An a4;refine AM func175 rfl ntmps175 (go ?_);refine Ac (L:=[x0,x1,x2,x3,x4]) rfl (fun w1 D=>?_);have z1:=D.size;have P1:PF AL w1 w.heap.size 0 f:=⟨trivial,_,rfl,D.D.cells,hf.ext D.E⟩;obtain⟨aa,ac,a8,q0,q1,q2,q3,q4,qa⟩:=P1.all;by_cases e3:f.op=3
 ·refine gC (Ra w1 _ S f.name (hS.ext D.E)) ?_;rintro _ _⟨rfl,rfl⟩;rcases QZ S f.name with⟨hm,R⟩|⟨i,s,hm,hs,R⟩
  ·rw[hm];refine gR ?_;exact⟨70,rfl,D.E,fun h=>absurd h rI⟩
  ·rw[hm];have a9:=(Ah.1 hs).1;obtain⟨_,sb,so,rfl,_,a6⟩:=hS.sig hs;have a3:=a6 2 _ rfl;refine go ?_;refine Ab (rd 0 8 .done) AX rD (fun wd kd ed=>⟨Ext wd,?_,?_⟩)
   ·exact sY
   have s1:CC wd w.heap.size (0+2) (iV f.val):=kd.cell q2 O;have s2:CC wd sb (so+i*3+2) (iV s.size):=(D.E.Q kd).cell a3 O;by_cases hv:f.val<s.size;rotate_left
   ·refine gR ?_;exact⟨71,rfl,D.E.Q kd,fun h=>absurd h rI⟩
   have a5:f.op=3->knS S f.name f.val=true:=fun _=>by rw[R];simpa using hv
   refine go ?_;refine Aj (α:=Nat) (fun k=>[(0,.slice (sn sb so) S.length T),(3,pt w.heap.size),(4,iV 0),(6,iV (k:Int))]) (fun k W=>k<=f.args.length/\Ext wd W/\∀(i:Nat)(y:Fml),i<k->f.args[i]?=some y->CR f.op=true->BU E7 y) (fun k=>f.args.length-k) 0 ag ⟨by omega,Ext.refl _,fun i y h=>by omega⟩ ?_;rintro k W fr⟨R,E,o⟩;have K:=Ext.Q kd E;have kw:=D.E.Q K;have r0:=K.cell q0 O;have r4:=K.cell q4 O;refine go ?_;by_cases z:k<f.args.length
   ·obtain⟨x,V⟩:=gl z;obtain⟨q,m,rfl,Q⟩:=qa k x V;obtain⟨_,d,A,g,j⟩:=Q;obtain⟨b,P,c,n,G,rfl⟩:=An A;have l:Cells W q (m+k*5) [b,P,c,n,G]:=g.E K O;refine gC (Ux W f.op) ?_;rintro _ W9⟨⟨pb,rfl,a2⟩,a0⟩;rw[a0];cases pb with
    |false=>
     exact uY
    |true=>
     refine go ?_;refine Al (L:=[b,P,c,n,G]) rfl rfl l ?_;refine gC (RZ _ x (AO _) W _ (j.ext K)) ?_;rintro _ w4⟨pc,rfl,Z,h4⟩;cases pc with
     |false=>
      refine gR ?_;exact⟨72,rfl,kw.Q Z,fun h=>absurd h rI⟩
     |true=>
      refine go ?_;refine⟨k+1,⟨rfl,ag,⟨by omega,E.Q Z,fun i y F I C=>?_⟩⟩,by omega⟩;by_cases t:i=k
      ·subst t;rw[V]at I;cases I;exact h4 rfl
      ·exact o i y U I C
   obtain rfl:k=f.args.length:=by omega
   have a1:CR f.op=true->∀a∈f.args,BU E7 a:=fun C a r=>by
    obtain⟨i,F⟩:=Cn r;exact o i a (Ah.1 F).1 F C
   refine go ?_;refine Aj (α:=Nat) (fun k=>[(0,.slice (sn sb so) S.length T),(3,pt w.heap.size),(4,iV 0),(7,iV (k:Int))]) (fun k p=>k<=f.args.length/\Ext W p/\∀(i:Nat)(y:Fml),i<k->f.args[i]?=some y->BU (ndS S) y) (fun k=>f.args.length-k) 0 ag ⟨by omega,Ext.refl _,fun i y h=>by omega⟩ ?_;rintro k p fr⟨R,X,o⟩;have M:=K.Q X;have H:=kw.Q X;have r0:=M.cell q0 O;have r4:=M.cell q4 O;refine go ?_;by_cases z:k<f.args.length
   ·obtain⟨x,V⟩:=gl z;obtain⟨q,m,rfl,Q⟩:=qa k x V;obtain⟨_,d,A,g,j⟩:=Q;obtain⟨b,P,c,n,G,rfl⟩:=An A;have l:Cells p q (m+k*5) [b,P,c,n,G]:=g.E M O;have a7:=Ci (BA V);refine go ?_;refine Al (L:=[b,P,c,n,G]) rfl rfl l ?_;refine gC (ih x U p _ (hS.ext H) (j.ext M)) ?_;rintro _ w5⟨e,rfl,k5,h5⟩;by_cases B:e=0
    ·subst B;refine go ?_;refine⟨k+1,⟨rfl,ag,⟨by omega,X.Q k5,fun i y F I=>?_⟩⟩,by omega⟩;by_cases t:i=k
     ·subst t;rw[V]at I;cases I;exact h5 rfl
     ·exact o i y U I
    ·refine gR ?_;exact⟨e,rfl,H.Q k5,fun h=>absurd h B⟩
   obtain rfl:k=f.args.length:=by omega
   refine gR ?_
   exact⟨0,rfl,H,fun _=>allF_iff.2 ⟨⟨a5,a1⟩,fun a r=>by
    obtain⟨i,F⟩:=Cn r;exact o i a (Ah.1 F).1 F⟩⟩
 ·refine go ?_;refine Aj (α:=Nat) (fun k=>[(0,.slice sa S.length T),(3,pt w.heap.size),(4,iV 0),(6,iV (k:Int))]) (fun k W=>k<=f.args.length/\Ext w1 W/\∀(i:Nat)(y:Fml),i<k->f.args[i]?=some y->CR f.op=true->BU E7 y) (fun k=>f.args.length-k) 0 ag ⟨by omega,Ext.refl _,fun i y h=>by omega⟩ ?_;rintro k W fr⟨R,E,o⟩;have K:=Ext.Q (Ext.refl w1) E;have kw:=D.E.Q K;have r0:=K.cell q0 O;have r4:=K.cell q4 O;refine go ?_;by_cases z:k<f.args.length
  ·obtain⟨x,V⟩:=gl z;obtain⟨q,m,rfl,Q⟩:=qa k x V;obtain⟨_,d,A,g,j⟩:=Q;obtain⟨b,P,c,n,G,rfl⟩:=An A;have l:Cells W q (m+k*5) [b,P,c,n,G]:=g.E K O;refine gC (Ux W f.op) ?_;rintro _ W9⟨⟨pb,rfl,a2⟩,a0⟩;rw[a0];cases pb with
   |false=>
    exact uY
   |true=>
    refine go ?_;refine Al (L:=[b,P,c,n,G]) rfl rfl l ?_;refine gC (RZ _ x (AO _) W _ (j.ext K)) ?_;rintro _ w4⟨pc,rfl,Z,h4⟩;cases pc with
    |false=>
     refine gR ?_;exact⟨72,rfl,kw.Q Z,fun h=>absurd h rI⟩
    |true=>
     refine go ?_;refine⟨k+1,⟨rfl,ag,⟨by omega,E.Q Z,fun i y F I C=>?_⟩⟩,by omega⟩;by_cases t:i=k
     ·subst t;rw[V]at I;cases I;exact h4 rfl
     ·exact o i y U I C
  obtain rfl:k=f.args.length:=by omega
  have a1:CR f.op=true->∀a∈f.args,BU E7 a:=fun C a r=>by
   obtain⟨i,F⟩:=Cn r;exact o i a (Ah.1 F).1 F C
  refine go ?_;refine Aj (α:=Nat) (fun k=>[(0,.slice sa S.length T),(3,pt w.heap.size),(4,iV 0),(7,iV (k:Int))]) (fun k p=>k<=f.args.length/\Ext W p/\∀(i:Nat)(y:Fml),i<k->f.args[i]?=some y->BU (ndS S) y) (fun k=>f.args.length-k) 0 ag ⟨by omega,Ext.refl _,fun i y h=>by omega⟩ ?_;rintro k p fr⟨R,X,o⟩;have M:=K.Q X;have H:=kw.Q X;have r0:=M.cell q0 O;have r4:=M.cell q4 O;refine go ?_;by_cases z:k<f.args.length
  ·obtain⟨x,V⟩:=gl z;obtain⟨q,m,rfl,Q⟩:=qa k x V;obtain⟨_,d,A,g,j⟩:=Q;obtain⟨b,P,c,n,G,rfl⟩:=An A;have l:Cells p q (m+k*5) [b,P,c,n,G]:=g.E M O;have a7:=Ci (BA V);refine go ?_;refine Al (L:=[b,P,c,n,G]) rfl rfl l ?_;refine gC (ih x U p _ (hS.ext H) (j.ext M)) ?_;rintro _ w5⟨e,rfl,k5,h5⟩;by_cases B:e=0
   ·subst B;refine go ?_;refine⟨k+1,⟨rfl,ag,⟨by omega,X.Q k5,fun i y F I=>?_⟩⟩,by omega⟩;by_cases t:i=k
    ·subst t;rw[V]at I;cases I;exact h5 rfl
    ·exact o i y U I
   ·refine gR ?_;exact⟨e,rfl,H.Q k5,fun h=>absurd h B⟩
  obtain rfl:k=f.args.length:=by omega
  refine gR ?_
  exact⟨0,rfl,H,fun _=>allF_iff.2 ⟨⟨(fun h=>absurd h e3),a1⟩,fun a r=>by
   obtain⟨i,F⟩:=Cn r;exact o i a (Ah.1 F).1 F⟩⟩
set_option maxHeartbeats 1000000 in
def TW(w:World)(H:Option Addr)(G:Nat)(S:List Sgn)(v:Value)(f:Fml)(i:SlAt sgnR AL w (.slice H S.length G) S)(K:FAt AL w v f):Fn Zp 117 [.slice H S.length G,v] w fun u w'=>∃e:Int,u=iV e/\Ext w w'/\(e=0->fmS S f):=by
 obtain⟨c5,rfl,F,a1⟩:=K.cells;obtain⟨x0,d,x2,x3,x4,rfl⟩:=An F;refine AM func117 rfl ntmps117 (go ?_);refine Ac (L:=[x0,d,x2,x3,x4]) rfl (fun Q D=>?_);have z1:=D.size;have C:PF AL Q w.heap.size 0 f:=⟨trivial,_,rfl,D.D.cells,K.ext D.E⟩;obtain⟨aa,ac,a0,q0,q1,q2,q3,q4,qa⟩:=C.all;refine gC (N0 Q _ S (i.ext D.E)) ?_;rintro _ W⟨rfl,m⟩;have a:=D.E.Q m;have p:=D.D.E m O;cases hv:Bo S with
 |false=>
  refine gR ?_;exact⟨1,rfl,a,fun h=>absurd h rI⟩
 |true=>
 refine gC (VH W _ f (K.ext a)) ?_;rintro _ X⟨b,rfl,j,R⟩;have N:=a.Q j;have q:=p.E j O;cases b with
 |false=>
  refine gR ?_;exact⟨30,rfl,N,fun h=>absurd h rI⟩
 |true=>
 refine gC (eR S H G _ f (AO _) X _ (i.ext N) (K.ext N)) ?_;rintro _ w4⟨e,rfl,l,y⟩;have n:=N.Q l;have b4:=q.E l O;by_cases B:e=0;rotate_left
 ·refine gR ?_;exact⟨e,rfl,n,fun h=>absurd h B⟩
 subst B;refine gC (dI w4 _ f (K.ext n)) ?_;rintro _ w5⟨c,e,rfl,x,⟨g,r⟩,Z⟩;obtain⟨k,rfl,o,I⟩:=r.cells;obtain⟨E,M,T,t,V,rfl⟩:=An o;refine go ?_;refine CL (cs:=[E,M,T,t,V]) rfl rfl rF I (fun w6 z=>?_);have A:=(n.Q x).Q z.E;by_cases B:e=0
 ·subst B;refine go ?_;obtain⟨g1,P,s⟩:=Z rfl;exact AC rfl ⟨0,rfl,A,fun _=>⟨hv,R rfl,y rfl,P,s⟩⟩
 ·refine gR ?_;exact⟨2,rfl,A,fun h=>absurd h rI⟩
set_option maxHeartbeats 2000000 in
def eN(w:World)(H:Option Addr)(G:Nat)(C:Option Addr)(a:Nat)(s:Spc)(hS:SlAt sgnR AL w (.slice H s.sigs.length G) s.sigs)(B:SlAt reqR AL w (.slice C s.reqs.length a) s.reqs)(i:Nat)(x:Rqm)(T:s.reqs[i]?=some x):
  Fn Zp 71 [.agg #[.slice H s.sigs.length G,.slice C s.reqs.length a],iV (i:Int)] w fun u w'=>∃e:Int,u=iV e/\Ext w w'/\(e=0->rqS s.sigs s.reqs i x):=by
 have b0:=(Ah.1 T).1;obtain⟨F,M,d,a7, -,hd,a2,S⟩:=B.req T;obtain⟨f,m,g,n,o,rfl⟩:=An hd;obtain⟨cF,a1, -,a6⟩:=S.cells;obtain rfl:[f,m,g,n,o]=cF:=by have:=congrArg Array.toList (Value.agg.inj a1);simpa using this
 subst a7;obtain⟨_,_,_,b4⟩:=B.len;refine AM func71 rfl ntmps71 (go ?_);refine Ac (L:=[.slice H s.sigs.length G,.slice (sn F M) s.reqs.length a]) rfl (fun Q D=>?_);have z1:=D.size;have a0:=a2.E D.E O;refine go ?_;refine Al (L:=[AA x.part,AA x.name,iV x.kind,f,m,g,n,o]) rfl rfl a0 ?_;refine CL (cs:=[AA x.part,AA x.name,iV x.kind,f,m,g,n,o]) rfl rfl rF (MY (l:=[AA x.part,AA x.name,iV x.kind]) (Ak rfl) a6) (fun Z R=>?_);have z2:=R.size;have E:=D.E.Q R.E;have q:=D.D.E R.E O;have c:Blk Z Q.heap.size 57 [AA x.part,AA x.name,iV x.kind,f,m,g,n,o]:=R.D;have a5:x.kind=1\/x.kind=2\/(x.kind≠1/\x.kind≠2):=by omega
 refine go ?_;rcases a5 with P|P|⟨P,b1⟩
 rotate_right
 ·refine gR ?_;exact⟨1,rfl,E,fun h=>absurd h rI⟩
 all_goals
  refine gC (Qe x.part Z) ?_;rintro _ w3⟨rfl,A⟩;have E:=E.Q A;have q:=q.E A O;have c:=c.E A O;cases hp:BP x.part with
  |false=>
   refine gR ?_;exact⟨1,rfl,E,fun h=>absurd h rI⟩
  |true=>
  refine gC (Qe x.name w3) ?_;rintro _ w4⟨rfl,b⟩;have E:=E.Q b;have q:=q.E b O;have c:=c.E b O;cases hnm:BP x.name with
  |false=>
   refine gR ?_;exact⟨1,rfl,E,fun h=>absurd h rI⟩
  |true=>
  have a8:Hn x=true:=by simp[Hn,hp,hnm,P]
  refine go ?_;refine Aj (α:=Nat) (fun k=>[(1,iV (i:Int)),(2,pt w.heap.size),(4,iV 0),(5,pt Q.heap.size),(6,iV (k:Int))]) (fun k W=>k<=i/\Ext w4 W/\∀j y,j<k->s.reqs[j]?=some y->y.name≠x.name) (fun k=>i-k) 0 ag ⟨by omega,Ext.refl _,fun j y h=>by omega⟩ ?_;rintro k W fr⟨b2,K,N⟩;have E:=E.Q K;have q:=q.E K O;have c:=c.E K O;refine go ?_;by_cases b3:k<i
  ·obtain⟨y,I⟩:=gl (show k<s.reqs.length by omega);obtain⟨b5,b6,d',e', -,a9,a3, -⟩:=B.req I;cases e';have c1:=(a3.E E O) 1 _ rfl;refine go ?_;refine Ab (rd 0 9 .done) AX rD (fun X r ed=>⟨Ext X,?_,?_⟩)
   ·exact sY
   have s1:CC X F (M+k*8+1) (AA y.name):=r.cell c1 O;have s2:CC X Q.heap.size (0+1) (AA x.name):=r.cell (c.cell rfl) O;have s3:CC X w.heap.size (0+1) (.slice (sn F M) s.reqs.length a):=r.cell (q.cell rfl) O;have E:=E.Q r;by_cases t:y.name=x.name
   ·refine go ?_;refine D_R (v:=.bool true) rfl rfl (fun V hV=>CZ rfl rfl (fun _=>AB ⟨rfl,rfl,rfl⟩) (fun h=>absurd t h)) ?_;refine gR ?_;exact⟨4,rfl,E,fun h=>absurd h rI⟩
   ·refine go ?_;refine D_R (v:=.bool false) rfl rfl (fun V hV=>CZ rfl rfl (fun h=>absurd h t) (fun _=>AB ⟨rfl,rfl,rfl⟩)) (go ?_);refine⟨k+1,⟨rfl,ag,⟨by omega,K.Q r,fun j z hj p=>?_⟩⟩,by omega⟩;by_cases a4:j=k
    ·subst a4;rw[I]at p;cases p;exact t
    ·exact N j z U p
  ·obtain rfl:k=i:=by omega
   have c5:Cells W Q.heap.size (0+3) [f,m,g,n,o]:=c.cells.part 3 5;refine go ?_;refine Al (L:=[f,m,g,n,o]) rfl rfl c5 ?_;refine gC (TW W H G s.sigs _ x.formula (hS.ext E) (S.ext E)) ?_;rintro _ w9⟨e,rfl,k9,h9⟩;refine gR ?_;exact⟨e,rfl,E.Q k9,fun h=>⟨a8,N,h9 h⟩⟩
def pe:(madeCells (Value.agg #[iV 0,iV 0]).cells (0*2)).toList=[]:=by kernel_rfl
def FlsA(w:World)(u:Value)(w':World)(H:Prop):Prop:=∃(n:Nat)(a:Option Addr)(c:Nat),u=.slice a n c/\n<=100/\Ext w w'/\(n=0->H)
set_option maxHeartbeats 1000000 in
def eG(w:World)(H:Option Addr)(G:Nat)(C:Option Addr)(j:Nat)(s:Spc)(z:SlAt sgnR AL w (.slice H s.sigs.length G) s.sigs)(A:SlAt reqR AL w (.slice C s.reqs.length j) s.reqs):
  Fn Zp 27 [.agg #[.slice H s.sigs.length G,.slice C s.reqs.length j]] w fun u w'=>FlsA w u w' (Dx s=true):=by
 obtain⟨_,_,_,a3⟩:=A.len;refine AM func27 rfl ntmps27 (go ?_);refine Ac (L:=[.slice H s.sigs.length G,.slice C s.reqs.length j]) rfl (fun w1 D=>?_);have z1:=D.size;have q:=D.D;refine gC (N0 w1 _ s.sigs (z.ext D.E)) ?_;rintro _ l⟨rfl,g⟩;have z3:=g.size;have N:=D.E.Q g;have P:=q.E g O;cases hv:Bo s.sigs with
 |false=>
  refine go ?_;refine Ay (out:=[iV (-1),iV 1]) rfl U rp (fun c t=>?_);refine gR ?_;exact⟨1,_,_,rfl,by omega,N.Q t.E,fun h=>absurd h rI⟩
 |true=>
 by_cases a2:16<s.reqs.length
 ·refine go ?_;refine Ay (out:=[iV (-1),iV 2]) rfl U rp (fun c t=>?_);refine gR ?_;exact⟨1,_,_,rfl,by omega,N.Q t.E,fun h=>absurd h rI⟩
 refine go ?_;refine Ay (out:=[]) rfl U (by rw[pe];rfl) (fun w4 f=>?_);have z4:=f.size;have S:=N.Q f.E;have Q:=P.E f.E O;refine go ?_
 refine Aj (α:=Nat×Value) (fun y=>[(1,pt w.heap.size),(3,y.2),(4,iV (y.1:Int))])
  (fun y W=>y.1<=s.reqs.length/\Ext w W/\Ext l W/\Blk W w.heap.size 25 [.slice H s.sigs.length G,.slice C s.reqs.length j]/\∃n M,W.ownsRow l.heap.size 78 2 y.2 n M/\n<=y.1/\M.length=n*2/\(n=0->∀i x,i<y.1->s.reqs[i]?=some x->rqS s.sigs s.reqs i x)) (fun y=>s.reqs.length-y.1) (0,.slice (sm l.heap.size) 0 0) ag
  ⟨by simp,S,f.E,Q,0,[],f.own (n:=0) (size:=2) rfl rL (AO _),AO _,rfl,fun _ i x h=>by omega⟩ ?_
 rintro⟨k,v⟩W fr⟨hk,K,B,p,n,M,a,hn,r,o⟩;simp only at hk K B p a hn r o;have zW:=B.size;refine go ?_;by_cases a1:k<s.reqs.length
 ·obtain⟨x,V⟩:=gl a1;refine gC (eN W H G C j s (z.ext K) (A.ext K) k x V) ?_;rintro _ c⟨e,rfl,b,Z⟩;have z5:=b.size;by_cases X:e=0
  ·subst X;refine go ?_;refine⟨(k+1,v),⟨rfl,ag,⟨by simp only;omega,K.Q b,B.Q b,p.E b O,n,M,CD a b,by simp only;omega,r,fun m i y F I=>?_⟩⟩,by simp only;omega⟩;simp only at F;by_cases a0:i=k
   ·subst a0;rw[V]at I;cases I;exact Z rfl
   ·exact o m i y U I
  ·refine go ?_;refine Ay (out:=[iV (k:Int),iV e]) rfl U rp (fun V3 E=>?_);have d:=b.Q E.E;have z8:=d.size;refine Bk (ok:=AL) (v:=v) rfl rfl (CD a d) (BG (E.own (n:=1) (size:=2) rfl rL (AO _)) fun _ _=>trivial) U rfl rfl (Ak rfl) U U U (fun v8 w8 R=>?_);have T:∀y∈v.ownBlock.toList,l.heap.size<=y:=fun y I=>(Ao a (Aw.1 I)).1;refine go ?_;exact⟨(k+1,v8),⟨rfl,ag,⟨by simp only;omega,(K.Q d).E R.E (fun y I=>by have:=T y I;omega),(B.Q d).E R.E (fun y I=>by have:=T y I;omega),(p.E d O).E R.E (fun hm=>by have:=T _ hm;omega),n+1,_,R.own,by simp only;omega,by simp[r];omega,fun h=>absurd h U⟩⟩,by simp only;omega⟩
 ·obtain rfl:k=s.reqs.length:=by omega
  have hs:Sl AL W v n M:=BG a fun _ _=>trivial;obtain⟨va,vc,rfl, -⟩:=hs;refine gR ?_;exact⟨n,va,vc,rfl,by omega,K,fun m=>pL hv U fun i x V=>o m i x (Ah.1 V).1 V⟩
section
variable {mk:Prop}[MK mk]
def YO(t:LU)(w:World)(N:t.length<=1000000):Fn Zp 106 [AA t] w fun v w'=>v=iV (Dn t 0:Int)/\w'=w:=by
 refine AM func106 rfl ntmps106 (go ?_);refine Aj (α:=Nat) (fun a=>[(0,AA t),(3,iV (a:Int))]) (fun a Q=>a<=t.length/\Dn t a=Dn t 0/\Q=w) (fun a=>t.length-a) 0 ag ⟨by omega,rfl,rfl⟩ ?_;rintro a Q e⟨G,y,rfl⟩;refine go ?_;by_cases z:a<t.length
 ·have b:t[a]?=some t[a]:=AU z;generalize t[a]=c at b;rw[ML b]at y;refine go ?_;by_cases q:c.toNat=37
  ·rw[AJ q]at y;refine go ?_;have f:=Eu (p:=CA) (t:=t) (a:=a) U;have g:=Fo (p:=CA) b (by simp[CA,q]);have u:=Fs CA t (a+1);refine Aj (α:=Nat) (fun j=>[(0,AA t),(3,iV (j:Int))]) (fun j L=>j<=t.length/\As CA t j=As CA t a/\L=Q) (fun j=>t.length-j) a ag ⟨by omega,rfl,rfl⟩ ?_;rintro j L D⟨C,S,rfl⟩;refine go ?_;by_cases l:j<t.length
   ·have X:t[j]?=some t[j]:=AU l;generalize t[j]=d at X;by_cases I:d.toNat=10
    ·refine go ?_;have A:=Nl (p:=CA) X (by simp[CA,I]);exact⟨j,⟨rfl,ag,⟨C,by rw[<-y,<-S,A],rfl⟩⟩,by omega⟩
    ·refine go ?_;have A:=Fo (p:=CA) X (by simp[CA,I]);refine⟨j+1,⟨rfl,⟨rfl,?_,trivial⟩,⟨by omega,by rw[<-S,A],rfl⟩⟩,by omega⟩;show iV ((j:Int)+1)=_;rw[BB];rfl
   ·refine go ?_;have A:=N2 (p:=CA) (t:=t) (a:=j) U;exact⟨j,⟨rfl,ag,⟨C,by rw[<-y,<-S,A],rfl⟩⟩,by omega⟩
  ·rw[AG q]at y;refine gC (eA c _) ?_;rintro v L⟨rfl,rfl⟩;refine go ?_;cases hb:IE c with
   |true=>
    rw[AJ hb]at y;refine go ?_;refine⟨a+1,⟨rfl,⟨rfl,?_,trivial⟩,⟨by omega,y,rfl⟩⟩,by omega⟩;show iV ((a:Int)+1)=_;rw[BB];rfl
   |false=>
    rw[hb,AG O]at y;refine gR ?_;exact⟨by rw[<-y];rfl,rfl⟩
 ·obtain rfl:a=t.length:=by omega
  refine gR ?_;exact⟨by rw[<-y,J0];rfl,rfl⟩
def SF:IS 165 Bp:=by
 intro c w;refine AM func165 rfl ntmps165 ?_;refine nX ?_;refine AN (AT (AH rfl ?_));refine nX ?_;(refine AN (AS rfl ?_)<;>(refine Iv rfl rfl (fun T=>?_) (fun T=>?_)<;>try omega)<;>refine AH rfl ?_<;>(first|refine AP rfl ?_|(refine AE rfl ?_;refine AS rfl ?_))<;>(first|refine AP rfl ?_|(refine AE rfl ?_;(refine Fa rfl rfl (fun T=>?_) (fun T=>?_)<;>try omega)))<;>((first|refine BF rfl ?_|refine BJ rfl ?_);refine AH rfl ?_)<;>refine AT (AH rfl (AB ?_)))
 all_goals
  refine nX ?_;exact AC rfl ⟨by simp[Bp,upd,Nat.beq];omega,rfl⟩
def SD:IS 162 Je:=by
 intro c w;refine AM func162 rfl ntmps162 ?_;refine nX ?_;refine AN (AT (AH rfl ?_));refine nX ?_;(refine AN (AS rfl ?_)<;>(refine Iv rfl rfl (fun T=>?_) (fun T=>?_)<;>try omega)<;>refine AH rfl ?_<;>(first|refine AP rfl ?_|(refine AE rfl ?_;refine AS rfl ?_))<;>(first|refine AP rfl ?_|(refine AE rfl ?_;(refine Fa rfl rfl (fun T=>?_) (fun T=>?_)<;>try omega)))<;>((first|refine BF rfl ?_|refine BJ rfl ?_);refine AH rfl ?_)<;>refine AT (AH rfl (AB ?_)))
 all_goals
  refine nX ?_;exact AC rfl ⟨by simp[Je,upd,Nat.beq];omega,rfl⟩
def SE:IS 164 Ag:=by
 intro c w;refine AM func164 rfl ntmps164 ?_;refine nX ?_;refine AN (AT (AH rfl ?_));refine nX ?_;(refine AN (AS rfl ?_)<;>(refine Iv rfl rfl (fun T=>?_) (fun T=>?_)<;>try omega)<;>refine AH rfl ?_<;>(first|refine AP rfl ?_|(refine AE rfl ?_;refine AS rfl ?_))<;>(first|refine AP rfl ?_|(refine AE rfl ?_;(refine Fa rfl rfl (fun T=>?_) (fun T=>?_)<;>try omega)))<;>((first|refine BF rfl ?_|refine BJ rfl ?_);refine AH rfl ?_)<;>refine AT (AH rfl (AB ?_)))
 all_goals
  refine nX ?_;exact AC rfl ⟨by simp[Ag,upd,Nat.beq];omega,rfl⟩
def kL:IS 163 Bl:=by
 intro c w;refine AM func163 rfl ntmps163 ?_;refine gC (SF c w) ?_;rintro v X⟨rfl,rfl⟩;cases hs:Bp c with
 |true=>
  refine go ?_
  all_goals
   refine gR ?_;exact⟨by simp[Bl,hs,upd,Nat.beq],rfl⟩
 |false=>
  refine gC (SE c _) ?_;rintro v X⟨rfl,rfl⟩;cases hd:Ag c with
  |true=>
   refine go ?_
   all_goals
    refine gR ?_;exact⟨by simp[Bl,hs,hd,upd,Nat.beq],rfl⟩
  |false=>
   (refine BJ rfl (AH rfl (AH rfl (AE rfl (AS rfl ?_))))<;>(refine AE rfl ?_;(refine Cb rfl rfl (fun T=>?_) (fun T=>?_)<;>try omega))<;>refine BJ rfl (AH rfl (AT (AH rfl (AB ?_)))))
   all_goals
    refine nX ?_;exact AC rfl ⟨by simp[Bl,hs,hd,upd,Nat.beq];omega,rfl⟩
def bL(w:World):Fn Zp 212 [] w fun v w'=>v=.slice (sm w.heap.size) 15 15/\Ext w w'/\Cells w' w.heap.size 0 symC:=by
 refine AM func212 rfl ntmps212 (go ?_);refine Ka (out:=symC) rfl U rfl rD (fun L R=>?_);refine gR ?_;exact⟨rfl,R.E,R.D.cells⟩
def Eb(u:LU):LU:=(symsL.find? (DG u)).getD []
def db(u:LU)(w:World):Fn Zp 166 [AA u] w fun v w'=>v=AA (Eb u)/\Ext w w':=by
 refine AM func166 rfl ntmps166 ?_;refine gC (bL w) ?_;rintro v Q⟨rfl,d,b⟩;refine go ?_;refine Aj (α:=Nat) (fun k=>[(0,AA u),(3,.slice (sm w.heap.size) 15 15),(4,iV (k:Int))]) (fun k L=>k<=15/\Ext Q L/\symsL.find? (DG u)=(symsL.drop k).find? (DG u)) (fun k=>15-k) 0 ag ⟨by omega,Ext.refl _,rfl⟩ ?_;rintro k L f⟨P,m,K⟩;refine go ?_;by_cases e:k<15
 ·obtain⟨y,c⟩:∃y,symsL[k]?=some y:=⟨_,AU (by show k<15;exact e)⟩;have g:symC[k]?=some (AA y):=by unfold symC;rw[Cl,c];rfl
  rw[Qx c]at K;refine go ?_;refine Ab (rd 0 22 .done) AX rD (fun X a h=>⟨fun W=>W=X,?_,?_⟩)
  ·rfl
  have z:CC X w.heap.size (0+k) (AA y):=((b.E m O).E a O) k _ g;by_cases N:y.length<=u.length
  ·by_cases B:u.take y.length=y
   ·have C:DG u y=true:=by simp[DG,N,B]
    ((apply D_R rfl rfl;(intro W I;subst I;refine BL rfl ?_;exact Z3))<;>(apply D_R rfl rfl;(intro W I;subst I;refine EM rfl ?_;exact Z3))<;>(apply D_R rfl rfl;(intro W I;subst I;refine BY rfl ?_;exact Z3))<;>(apply D_R rfl rfl;(intro W I;subst I;refine AS rfl ?_;exact Z3))<;>(apply D_R rfl rfl;(intro W I;subst I;refine HS rfl rfl rfl U ?_;exact Z3))<;>(apply D_R rfl rfl;(intro W I;subst I;refine AQ rfl rG ?_;exact Z3))<;>(apply D_R rfl rfl;(intro W I;subst I;refine EM rfl ?_;exact Z3))<;>refine YB rfl rfl rfl rfl U ?_<;>(apply D_R rfl rfl;(intro W I;subst I;refine AH rfl ?_;exact Z3))<;>(apply D_R rfl rfl;(intro W I;subst I;(refine AE rfl ?_;refine BL rfl ?_);exact Z3))<;>(apply D_R rfl rfl;(intro W I;subst I;(refine AE rfl ?_;refine BY rfl ?_);exact Z3))<;>(apply D_R rfl rfl;(intro W I;subst I;(refine AE rfl ?_;refine AS rfl ?_);exact Z3))<;>(apply D_R rfl rfl;(intro W I;subst I;(refine AE rfl ?_;refine HS rfl rfl rfl U ?_);exact Z3))<;>(apply D_R rfl rfl;(intro W I;subst I;(refine AE rfl ?_;refine AQ rfl rG ?_);exact Z3))<;>(apply D_R rfl rfl;(intro W I;subst I;(refine AE rfl ?_;refine EM rfl ?_);exact Z3))<;>(apply D_R rfl rfl;(intro W I;subst I;(refine AE rfl ?_;refine Lv rfl rfl U ?_);exact Z3))<;>(apply D_R rfl rfl;(intro W I;subst I;(refine AE rfl ?_;refine BY rfl ?_);exact Z3))<;>(apply D_R rfl rfl;(intro W I;subst I;(refine AE rfl ?_;refine AS rfl ?_);exact Z3))<;>(apply D_R rfl rfl;(intro W I;subst I;(refine AE rfl ?_;refine HS rfl rfl rfl U ?_);exact Z3))<;>(apply D_R rfl rfl;(intro W I;subst I;(refine AE rfl ?_;refine AQ rfl rG ?_);exact Z3))<;>(refine SR rfl rfl rfl rfl (fun T=>?_) (fun T=>?_))<;>(apply D_R rfl rfl;(intro W I;subst I;(refine BF rfl ?_;refine AH rfl ?_);exact Z3))<;>refine Cy ?_)
    ·refine go ?_;have i:CC X w.heap.size (0+k) (AA y):=z;refine go ?_;rw[C,AJ rfl]at K;exact AC rfl ⟨by unfold Eb;rw[K];rfl,(d.Q m).Q a⟩
    ·exact absurd B rG
   ·have C:DG u y=false:=by simp[DG,B]
    rw[C,AG O]at K;((apply D_R rfl rfl;(intro W I;subst I;refine BL rfl ?_;exact Z3))<;>(apply D_R rfl rfl;(intro W I;subst I;refine EM rfl ?_;exact Z3))<;>(apply D_R rfl rfl;(intro W I;subst I;refine BY rfl ?_;exact Z3))<;>(apply D_R rfl rfl;(intro W I;subst I;refine AS rfl ?_;exact Z3))<;>(apply D_R rfl rfl;(intro W I;subst I;refine HS rfl rfl rfl U ?_;exact Z3))<;>(apply D_R rfl rfl;(intro W I;subst I;refine AQ rfl rG ?_;exact Z3))<;>(apply D_R rfl rfl;(intro W I;subst I;refine EM rfl ?_;exact Z3))<;>refine YB rfl rfl rfl rfl U ?_<;>(apply D_R rfl rfl;(intro W I;subst I;refine AH rfl ?_;exact Z3))<;>(apply D_R rfl rfl;(intro W I;subst I;(refine AE rfl ?_;refine BL rfl ?_);exact Z3))<;>(apply D_R rfl rfl;(intro W I;subst I;(refine AE rfl ?_;refine BY rfl ?_);exact Z3))<;>(apply D_R rfl rfl;(intro W I;subst I;(refine AE rfl ?_;refine AS rfl ?_);exact Z3))<;>(apply D_R rfl rfl;(intro W I;subst I;(refine AE rfl ?_;refine HS rfl rfl rfl U ?_);exact Z3))<;>(apply D_R rfl rfl;(intro W I;subst I;(refine AE rfl ?_;refine AQ rfl rG ?_);exact Z3))<;>(apply D_R rfl rfl;(intro W I;subst I;(refine AE rfl ?_;refine EM rfl ?_);exact Z3))<;>(apply D_R rfl rfl;(intro W I;subst I;(refine AE rfl ?_;refine Lv rfl rfl U ?_);exact Z3))<;>(apply D_R rfl rfl;(intro W I;subst I;(refine AE rfl ?_;refine BY rfl ?_);exact Z3))<;>(apply D_R rfl rfl;(intro W I;subst I;(refine AE rfl ?_;refine AS rfl ?_);exact Z3))<;>(apply D_R rfl rfl;(intro W I;subst I;(refine AE rfl ?_;refine HS rfl rfl rfl U ?_);exact Z3))<;>(apply D_R rfl rfl;(intro W I;subst I;(refine AE rfl ?_;refine AQ rfl rG ?_);exact Z3))<;>(refine SR rfl rfl rfl rfl (fun T=>?_) (fun T=>?_))<;>(apply D_R rfl rfl;(intro W I;subst I;(refine BF rfl ?_;refine AH rfl ?_);exact Z3))<;>refine Cy ?_)
    ·exact absurd rG B
    ·refine go ?_;refine⟨k+1,⟨rfl,⟨rfl,rfl,?_,trivial⟩,⟨by omega,m.Q a,K⟩⟩,by omega⟩;show iV ((k:Int)+1)=_;rw[BB];rfl
  ·have C:DG u y=false:=by simp[DG,N]
   rw[C,AG O]at K;refine go ?_;refine⟨k+1,⟨rfl,⟨rfl,rfl,?_,trivial⟩,⟨by omega,m.Q a,K⟩⟩,by omega⟩;show iV ((k:Int)+1)=_;rw[BB];rfl
 ·refine go ?_;have x:symsL.drop k=[]:=NV (by show 15<=k;omega);rw[x]at K;exact AC rfl ⟨by unfold Eb;rw[K];rfl,d.Q m⟩
def DH(u:LU):Int×Nat×Bool:=
 if Ct (u.getD 0 0)=true then(1,As Bl u 1,decide (As Bl u 1<=20))
 else if Ag (u.getD 0 0)=true then(2,As Ag u 0, !B6 u 0)
 else(3,(Eb u).length, !decide (Eb u=[]))
def kK(u:LU)(w:World)(h1:1<=u.length)(h6:u.length<=1000000):Fn Zp 107 [AA u] w fun v w'=>Ext w w'/\v=.tuple #[.agg #[iV (DH u).1,AA (u.take (DH u).2.1),iV 0],.bool (DH u).2.2]:=by
 have C:u[0]?=some u[0]:=AU U;generalize u[0]=c at C;have k:u.getD 0 0=c:=by simp[C]
 have cb:=c.toNat_lt;refine AM func107 rfl ntmps107 (go ?_);refine Ai (fun w1 D=>?_);have q:Blk w1 w.heap.size 170 [iV 0,AA [],iV 0]:=D.D;refine AT (AH rfl ?_);refine nX ?_;refine AN (AT (AS rfl ?_));refine nX ?_;refine CE (α:=Unit) (fun _=>[(0,AA u),(2,pt w.heap.size),(3,.bool false),(4,iV 0),(19,.bool (Ct c))]) (fun _ W=>W=w1) ?_ ?_
 ·by_cases hs:97<=c.toNat/\c.toNat<=122
  ·have X:Bp c=true:=by simp[Bp,hs.1,hs.2]
   refine go ?_;exact Af () ⟨rfl,rfl,rfl,rfl,by simp[upd,Nat.beq,Ct,X],trivial⟩ rfl
  ·have X:Bp c=false:=by simp[Bp];omega
   (refine AN (BL rfl (FF rfl rfl rG ?_))<;>(refine Iv rfl rfl (fun T=>?_) (fun T=>?_)<;>try omega)<;>refine AH rfl ?_<;>(first|refine AP rfl ?_|(refine AE rfl ?_;refine BL rfl ?_))<;>(first|refine AP rfl ?_|(refine AE rfl ?_;refine FF rfl rfl rG ?_))<;>(first|refine AP rfl ?_|(refine AE rfl ?_;refine KD rfl rfl U ?_))<;>((first|refine BF rfl ?_|refine BJ rfl ?_);refine AH rfl ?_)<;>refine AH rfl (AE rfl (BL rfl (AE rfl (FF rfl rfl rG ?_)))))
   all_goals
    refine AE rfl (AD (SD c _) rfl ?_);rintro v w'⟨rfl,rfl⟩;refine go ?_;exact Af () ⟨rfl,rfl,rfl,rfl,by simp[upd,Nat.beq,Ct,X],trivial⟩ rfl
 rintro _ w2 f2 rfl;refine go ?_;cases hl:Ct c with
 |true=>
  refine go ?_;refine Aj (α:=Nat) (fun n=>[(0,AA u),(2,pt w.heap.size),(3,.bool false),(4,iV (n:Int))]) (fun n W=>n<=u.length/\1<=n/\As Bl u n=As Bl u 1/\W=w2) (fun n=>u.length-n) 1 ag ⟨by omega,AO _,rfl,rfl⟩ ?_;rintro n w3 f3⟨hn,a1,S,rfl⟩;refine go ?_;by_cases z:n<u.length
  ·have F:u[n]?=some u[n]:=AU z;generalize u[n]=d at F;refine gC (kL d _) ?_;rintro v w'⟨rfl,rfl⟩;refine go ?_;cases hp:Bl d with
   |true=>
    refine go ?_;refine⟨n+1,⟨rfl,⟨rfl,rfl,rfl,?_,trivial⟩,⟨by omega,by omega,(Fo F hp).symm.Q S,rfl⟩⟩,by omega⟩;show iV ((n:Int)+1)=_;rw[BB];rfl
   |false=>
    have x:=Nl F hp;refine go ?_;have G:n=As Bl u 1:=by omega
    have s:=Eu (p:=Bl) (t:=u) (a:=1) U;rw[G];by_cases A:As Bl u 1<=20
    ·refine go ?_;refine Aa (cs:=[iV 1,AA (u.take (As Bl u 1)),iV 0]) rfl rfl rfl (Ak rfl) q O (fun e g=>?_);have b:Blk e w.heap.size 170 [iV 1,AA (u.take (As Bl u 1)),iV 0]:=g.D;refine go ?_;refine Dp rfl rfl rfl b.cells ⟨D.E.E g.E O,?_⟩;unfold DH;rw[k,AJ hl,BE A];rfl
    ·refine go ?_;refine Aa (cs:=[iV 1,AA (u.take (As Bl u 1)),iV 0]) rfl rfl rfl (Ak rfl) q O (fun e g=>?_);have b:Blk e w.heap.size 170 [iV 1,AA (u.take (As Bl u 1)),iV 0]:=g.D;refine go ?_;refine Dp rfl rfl rfl b.cells ⟨D.E.E g.E O,?_⟩;unfold DH;rw[k,AJ hl,BC A];rfl
  ·obtain rfl:n=u.length:=by omega
   have x:=N2 (p:=Bl) (t:=u) (a:=u.length) U;have G:u.length=As Bl u 1:=by omega
   refine go ?_;have s:=Eu (p:=Bl) (t:=u) (a:=1) U;rw[G];by_cases A:As Bl u 1<=20
   ·refine go ?_;refine Aa (cs:=[iV 1,AA (u.take (As Bl u 1)),iV 0]) rfl rfl rfl (Ak rfl) q O (fun e g=>?_);have b:Blk e w.heap.size 170 [iV 1,AA (u.take (As Bl u 1)),iV 0]:=g.D;refine go ?_;refine Dp rfl rfl rfl b.cells ⟨D.E.E g.E O,?_⟩;unfold DH;rw[k,AJ hl,BE A];rfl
   ·refine go ?_;refine Aa (cs:=[iV 1,AA (u.take (As Bl u 1)),iV 0]) rfl rfl rfl (Ak rfl) q O (fun e g=>?_);have b:Blk e w.heap.size 170 [iV 1,AA (u.take (As Bl u 1)),iV 0]:=g.D;refine go ?_;refine Dp rfl rfl rfl b.cells ⟨D.E.E g.E O,?_⟩;unfold DH;rw[k,AJ hl,BC A];rfl
 |false=>
  refine gC (SE c _) ?_;rintro v w'⟨rfl,rfl⟩;refine go ?_;cases hd:Ag c with
  |true=>
   refine go ?_;refine Aj (α:=Nat) (fun n=>[(0,AA u),(2,pt w.heap.size),(3,.bool false),(4,iV (n:Int))]) (fun n W=>n<=u.length/\0<=n/\As Ag u n=As Ag u 0/\W=w') (fun n=>u.length-n) 0 ag ⟨by omega,AO _,rfl,rfl⟩ ?_;rintro n w3 f3⟨hn,a1,S,rfl⟩;refine nX ?_;by_cases z:n<u.length
   ·have F:u[n]?=some u[n]:=AU z;generalize u[n]=d at F;refine AN (AS rfl (BL rfl (EM rfl (FX rfl rfl U (AH rfl (AE rfl (BL rfl (AE rfl (AS rfl (AE rfl (FF rfl rfl rG ?_)))))))))));refine AE rfl (AD (SE d _) rfl ?_);rintro v w'⟨rfl,rfl⟩;refine BF rfl (AH rfl (AB ?_));cases hp:Ag d with
    |true=>
     refine nX ?_;(refine AN (AS rfl (Fz rfl rfl rQ ?_))<;>refine AT (AS rfl ?_))
     refine nX ?_;refine⟨n+1,⟨rfl,⟨rfl,rfl,rfl,?_,trivial⟩,⟨by omega,by omega,(Fo F hp).symm.Q S,rfl⟩⟩,by omega⟩;show iV ((n:Int)+1)=_;rw[BB];rfl
    |false=>
     have x:=Nl F hp;refine nY ?_;have G:n=As Ag u 0:=by omega
     have s:=Eu (p:=Ag) (t:=u) (a:=0) U
     have Q:1<=As Ag u 0:=by
      have h1:=Fo (p:=Ag) C hd;have h2:=Fs Ag u (0+1);omega
     have o:DH u=(2,As Ag u 0, !B6 u 0):=by
      unfold DH;rw[k,hl,hd];rfl
     rw[G];clear G x S;generalize L:As Ag u 0=N at s Q o
     have m:B6 u 0=(decide (4<N)||(decide (1<N)&&decide (c.toNat=48))||(decide (N<u.length)&&(Ct (u.getD N 0)||decide ((u.getD N 0).toNat=95)))):=by
      unfold B6;rw[L,k,Nat.sub_zero]
     refine CE (α:=Unit) (fun _=>[(0,AA u),(2,pt w.heap.size),(3,.bool false),(4,iV (N:Int)),(5,.bool (decide (N<u.length)&&(Ct (u.getD N 0)||decide ((u.getD N 0).toNat=95))))]) (fun _ W=>Ext w W/\Blk W w.heap.size 170 [iV 0,AA [],iV 0]) ?_ ?_
     ·by_cases z:N<u.length
      ·have F:u[N]?=some u[N]:=AU z;generalize u[N]=d at F;have V:u.getD N 0=d:=by simp[F]
       rw[V,BE z,HE];refine AN (AS rfl (BL rfl (EM rfl (FX rfl rfl U (AH rfl (AE rfl (BL rfl (AE rfl (AS rfl (AE rfl (FF rfl rfl rG ?_)))))))))));refine AE rfl (AD (SF d _) rfl ?_);rintro v w'⟨rfl,rfl⟩;cases hsd:Bp d with
       |true=>
        refine AE rfl (AH rfl (AP rfl (AP rfl (AP rfl (AP rfl (AE rfl (BF rfl (AH rfl (AE rfl (AH rfl (AP rfl (AP rfl (AP rfl (AP rfl (AE rfl (BF rfl (AH rfl (BF rfl (AH rfl (AT (AH rfl (AB ?_))))))))))))))))))))));exact Af () ⟨rfl,rfl,rfl,rfl,by simp[upd,Nat.beq,Ct,hsd],trivial⟩ ⟨D.E,q⟩
       |false=>
        refine AE rfl (AH rfl (AE rfl (BL rfl (AE rfl (AS rfl (AE rfl (FF rfl rfl rG ?_)))))));refine AE rfl (AD (SD d _) rfl ?_);rintro v w'⟨rfl,rfl⟩;cases hud:Je d with
        |true=>
         refine AE rfl (BJ rfl (AH rfl (AE rfl (AH rfl (AP rfl (AP rfl (AP rfl (AP rfl (AE rfl (BF rfl (AH rfl (BF rfl (AH rfl (AT (AH rfl (AB ?_))))))))))))))));exact Af () ⟨rfl,rfl,rfl,rfl,by simp[upd,Nat.beq,Ct,hsd,hud],trivial⟩ ⟨D.E,q⟩
        |false=>
         (refine AE rfl (BJ rfl (AH rfl (AE rfl (AH rfl (AE rfl (BL rfl (AE rfl (AS rfl (AE rfl (FF rfl rfl rG ?_))))))))))<;>(refine AE rfl ?_;(refine Cb rfl rfl (fun T=>?_) (fun T=>?_)<;>try omega))<;>refine AE rfl (BJ rfl (AH rfl (BF rfl (AH rfl (AT (AH rfl (AB ?_))))))))
         all_goals exact Af () ⟨rfl,rfl,rfl,rfl,by simp[upd,Nat.beq,Ct,hsd,hud];omega,trivial⟩ ⟨D.E,q⟩
      ·exact tE
     rintro _ e f4⟨k4,b⟩;refine nX ?_;generalize (decide (N<u.length)&&(Ct (u.getD N 0)||decide ((u.getD N 0).toNat=95)))=glued at m;refine Ab (rd 0 19 (.alt 19 (.read 20 .done) .stop)) AX rD (fun wd l ed=>⟨Keep [w.heap.size] e,?_,?_⟩)
     ·exact l.any
     have E:=b.E l O
     have R:∀r:Bool,r= !B6 u 0->∀(f:Fr)(i:World),Put wd i w.heap.size 170 [iV 2,AA (u.take N),iV 0]->f 2=pt w.heap.size->f 3=.bool r->
       B8 Zp Tryz.f107 (fun v w'=>Ext w w'/\v=.tuple #[.agg #[iV (DH u).1,AA (u.take (DH u).2.1),iV 0],.bool (DH u).2.2]) (fun _ _=>False) .ret f [] i:=by
      rintro r rfl f i j H K;refine Dp rfl H rfl j.D.cells ⟨(k4.Q l).E j.E O,?_⟩;rw[o,K]
     cases glued<;>by_cases M:N<=4<;>by_cases h:N=1<;>by_cases P:c.toNat=48;all_goals try (exfalso;omega)
     all_goals
      (refine D_R rfl rfl (fun W I=>BL rfl Z3) (D_R rfl rfl (fun W I=>AS rfl Z3) (D_R rfl rfl (fun W I=>Lv rfl rfl U Z3) ?_))<;>(apply D_R rfl rfl;(intro W I;refine DB rF rF ?_;exact Z3))<;>refine D_R rfl rfl (fun W I=>AS rfl Z3) ?_<;>(refine So rfl rfl rfl rfl (fun T=>?_) (fun T=>?_)<;>try omega)<;>refine D_R rfl rfl (fun W I=>AH rfl Z3) ?_<;>(first|refine Bq rfl rfl rfl rfl ?_|(refine D_R rfl rfl (fun W I=>AE rfl (AH rfl dz)) ?_))<;>(first|refine Bq rfl rfl rfl rfl ?_|(refine D_R rfl rfl (fun W I=>AE rfl (IM rfl dz)) ?_))<;>(apply D_R rfl rfl;(intro W I;((first|refine BF rfl ?_|refine BJ rfl ?_);refine AH rfl ?_);exact Z3))<;>refine D_R rfl rfl (fun W I=>AH rfl Z3) ?_<;>(first|refine Bq rfl rfl rfl rfl ?_|(refine D_R rfl rfl (fun W I=>AE rfl (AS rfl dz)) ?_))<;>(first|refine Bq rfl rfl rfl rfl ?_|(refine M2 rfl rfl rfl rfl (fun T=>?_) (fun T=>?_)<;>try omega))<;>(first|refine Bq rfl rfl rfl rfl ?_|(refine D_R rfl rfl (fun W I=>AE rfl (AH rfl dz)) ?_))<;>(first|refine Bq rfl rfl rfl rfl ?_|(refine D_R rfl rfl (fun W I=>AP rfl dz) ?_)|(refine D_R rfl rfl (fun W I=>AE rfl (BL rfl dz)) ?_))<;>(first|refine Bq rfl rfl rfl rfl ?_|(refine D_R rfl rfl (fun W I=>AP rfl dz) ?_)|(apply D_R rfl rfl;(intro W I;(refine AE rfl ?_;refine FF rfl rfl rG ?_);exact AB ⟨rfl,rfl,rfl⟩)))<;>(first|refine Bq rfl rfl rfl rfl ?_|(refine D_R rfl rfl (fun W I=>AP rfl dz) ?_)|(refine Sp rfl rfl rfl rfl (fun T=>?_) (fun T=>?_)<;>try omega))<;>(first|refine Bq rfl rfl rfl rfl ?_|(apply D_R rfl rfl;(intro W I;(refine AE rfl ?_;((first|refine BF rfl ?_|refine BJ rfl ?_);refine AH rfl ?_));exact AB ⟨rfl,rfl,rfl⟩)))<;>(apply D_R rfl rfl;(intro W I;((first|refine BF rfl ?_|refine BJ rfl ?_);refine AH rfl ?_);exact Z3)))
      refine D_E rfl ?_;refine Aa (cs:=[iV 2,AA (u.take N),iV 0]) rfl rfl rfl (Ak rfl) E O (fun i j=>?_);refine AB ⟨fun W=>W=i,fun W I=>I▸(l.any.Q j.E O),rfl,?_⟩;((apply D_R rfl rfl;(intro W I;subst I;(refine AT ?_;refine AH rfl ?_);exact Z3))<;>refine Cy ?_)
      refine nX ?_;refine R _ ?_ _ i j rfl rfl;rw[m];simp[M,h,P]<;>omega
   ·obtain rfl:n=u.length:=by omega
    have x:=N2 (p:=Ag) (t:=u) (a:=u.length) U;have G:u.length=As Ag u 0:=by omega
    refine AN (AS rfl (BL rfl (EM rfl (JQ rfl rfl U (AH rfl (AP rfl (AP rfl (AP rfl ?_))))))));refine AP rfl (BJ rfl (AH rfl ?_));refine nY ?_;have s:=Eu (p:=Ag) (t:=u) (a:=0) U
    have Q:1<=As Ag u 0:=by
     have h1:=Fo (p:=Ag) C hd;have h2:=Fs Ag u (0+1);omega
    have o:DH u=(2,As Ag u 0, !B6 u 0):=by
     unfold DH;rw[k,hl,hd];rfl
    rw[G];clear G x S;generalize L:As Ag u 0=N at s Q o
    have m:B6 u 0=(decide (4<N)||(decide (1<N)&&decide (c.toNat=48))||(decide (N<u.length)&&(Ct (u.getD N 0)||decide ((u.getD N 0).toNat=95)))):=by
     unfold B6;rw[L,k,Nat.sub_zero]
    refine CE (α:=Unit) (fun _=>[(0,AA u),(2,pt w.heap.size),(3,.bool false),(4,iV (N:Int)),(5,.bool (decide (N<u.length)&&(Ct (u.getD N 0)||decide ((u.getD N 0).toNat=95))))]) (fun _ W=>Ext w W/\Blk W w.heap.size 170 [iV 0,AA [],iV 0]) ?_ ?_
    ·by_cases z:N<u.length
     ·have F:u[N]?=some u[N]:=AU z;generalize u[N]=d at F;have V:u.getD N 0=d:=by simp[F]
      rw[V,BE z,HE];refine AN (AS rfl (BL rfl (EM rfl (FX rfl rfl U (AH rfl (AE rfl (BL rfl (AE rfl (AS rfl (AE rfl (FF rfl rfl rG ?_)))))))))));refine AE rfl (AD (SF d _) rfl ?_);rintro v w'⟨rfl,rfl⟩;cases hsd:Bp d with
      |true=>
       refine go ?_;exact Af () ⟨rfl,rfl,rfl,rfl,by simp[upd,Nat.beq,Ct,hsd],trivial⟩ ⟨D.E,q⟩
      |false=>
       refine gC (SD d _) ?_;rintro v w'⟨rfl,rfl⟩;cases hud:Je d with
       |true=>
        refine go ?_;exact Af () ⟨rfl,rfl,rfl,rfl,by simp[upd,Nat.beq,Ct,hsd,hud],trivial⟩ ⟨D.E,q⟩
       |false=>
        (refine AE rfl (BJ rfl (AH rfl (AE rfl (AH rfl (AE rfl (BL rfl (AE rfl (AS rfl (AE rfl (FF rfl rfl rG ?_))))))))))<;>(refine AE rfl ?_;(refine Cb rfl rfl (fun T=>?_) (fun T=>?_)<;>try omega))<;>refine AE rfl (BJ rfl (AH rfl (BF rfl (AH rfl (AT (AH rfl (AB ?_))))))))
        all_goals exact Af () ⟨rfl,rfl,rfl,rfl,by simp[upd,Nat.beq,Ct,hsd,hud];omega,trivial⟩ ⟨D.E,q⟩
     ·exact tE
    rintro _ e f4⟨k4,b⟩;refine nX ?_;generalize (decide (N<u.length)&&(Ct (u.getD N 0)||decide ((u.getD N 0).toNat=95)))=glued at m;refine Ab (rd 0 19 (.alt 19 (.read 20 .done) .stop)) AX rD (fun wd l ed=>⟨Keep [w.heap.size] e,?_,?_⟩)
    ·exact l.any
    have E:=b.E l O
    have R:∀r:Bool,r= !B6 u 0->∀(f:Fr)(i:World),Put wd i w.heap.size 170 [iV 2,AA (u.take N),iV 0]->f 2=pt w.heap.size->f 3=.bool r->
      B8 Zp Tryz.f107 (fun v w'=>Ext w w'/\v=.tuple #[.agg #[iV (DH u).1,AA (u.take (DH u).2.1),iV 0],.bool (DH u).2.2]) (fun _ _=>False) .ret f [] i:=by
     rintro r rfl f i j H K;refine Dp rfl H rfl j.D.cells ⟨(k4.Q l).E j.E O,?_⟩;rw[o,K]
    cases glued<;>by_cases M:N<=4<;>by_cases h:N=1<;>by_cases P:c.toNat=48;all_goals try (exfalso;omega)
    all_goals
     refine gE ?_;refine Aa (cs:=[iV 2,AA (u.take N),iV 0]) rfl rfl rfl (Ak rfl) E O (fun i j=>?_);refine AB ⟨fun W=>W=i,fun W I=>I▸(l.any.Q j.E O),rfl,?_⟩;refine go ?_;refine R _ ?_ _ i j rfl rfl;rw[m];simp[M,h,P]<;>omega
  |false=>
   refine gC (db u _) ?_;rintro v w3⟨rfl,Z⟩;refine AT (BL rfl ?_);refine nX ?_;have b3:=q.E Z O
   have a0:Eb u=u.take (Eb u).length:=by
    unfold Eb;cases hf:symsL.find? (DG u)with
    |none=>rfl
    |some y=>exact(List.prefix_iff_eq_take.1 ((Ii _ _).1 (Jp hf)))
   have o:DH u=(3,(Eb u).length, !decide (Eb u=[])):=by
    unfold DH;rw[k,hl,hd];rfl
   by_cases B:Eb u=[]
   ·(refine AN (BL rfl (DB rF rF ?_))<;>refine BL rfl ?_<;>refine Mt rfl rfl (fun T=>?_) (fun T=>?_))
    ·exact absurd B rG
    ·refine Aa (cs:=[iV 3,AA (Eb u),iV 0]) rfl rfl rfl (Ak rfl) b3 O (fun e g=>?_);have b:Blk e w.heap.size 170 [iV 3,AA (Eb u),iV 0]:=g.D;refine AT (AH rfl ?_);refine nX ?_;refine Dp rfl rfl rfl b.cells ⟨(D.E.Q Z).E g.E O,?_⟩;rw[o];simp only;rw[<-a0,BE B];rfl
   ·(refine AN (BL rfl (DB rF rF ?_))<;>refine BL rfl ?_<;>refine Mt rfl rfl (fun T=>?_) (fun T=>?_))
    ·refine Aa (cs:=[iV 3,AA (Eb u),iV 0]) rfl rfl rfl (Ak rfl) b3 O (fun e g=>?_);have b:Blk e w.heap.size 170 [iV 3,AA (Eb u),iV 0]:=g.D;refine go ?_;refine Dp rfl rfl rfl b.cells ⟨(D.E.Q Z).E g.E O,?_⟩;rw[o];simp only;rw[<-a0,BC B];rfl
    ·exact absurd rG B
def Se(c:UInt8):Bool:=match EA c with
 |some 0=>IE c
 |some 1=>decide (c.toNat=37)
 |some 2=>Ct c
 |some 3=> !Ct c&&Ag c
 |some _=> !Ct c&& !Ag c
 |none=> !Ct c&& !Ag c&&symsL.all (fun y=>decide (y.head?≠some c))
def Pi(c:UInt8):Bool:=(!IE c||decide (EA c=some 0))&&(!decide (c.toNat=37)||decide (EA c=some 1))
def fU:∀n:Fin 256,(Se (UInt8.ofNat n.val)&&Pi (UInt8.ofNat n.val))=true:=by decide+kernel
def RV(c:UInt8):Se c=true/\Pi c=true:=by
 have h:=fU ⟨c.toNat,c.toNat_lt⟩;rw[AZ]at h;have e:UInt8.ofNat c.toNat=c:=by simp
 simp only[e]at h;exact h
def dK{c:UInt8}(h:IE c=true):EA c=some 0:=by
 have:=(RV c).2;simp only[Pi,h,Bool.not_true,Ha,AZ,BD]at this;exact this.1
def mu{c:UInt8}(h:c.toNat=37):EA c=some 1:=by
 have:=(RV c).2;simp only[Pi,h,decide_true,Bool.not_true,Ha,AZ,BD]at this;exact this.2
def QY(t:LU){a:Nat}(h:a<=t.length):t=t.take a++t.drop a/\(t.take a).length=a:=⟨(HB a t).symm,by simp;omega⟩
def Tj(q:UInt8->Bool)(t:LU){a:Nat}(h:a<=t.length)(j:Nat):As q t (a+j)=a+As q (t.drop a) j:=by
 obtain⟨Z,W⟩:=QY t h;have:=Il (q:=q) (t.take a) (t.drop a) j;rw[<-Z,W]at this;exact this
def gw(t:LU)(a:Nat)(ts:List Tok)(G:a<t.length)(v:EA (t.getD a 0)≠some 0)(Z:EA (t.getD a 0)≠some 1):
  BZ t a ts=if(DH (t.drop a)).2.2=true then CH t a ts (DH (t.drop a)).1 (a+(DH (t.drop a)).2.1)else .error (40,a):=by
 have c:(t.drop a).getD 0 0=t.getD a 0:=by simp
 have P:=(RV (t.getD a 0)).1;unfold Se at P;unfold BZ DH;rw[c]
 split at P
 ·rename_i e;exact absurd e v
 ·rename_i e;exact absurd e Z
 ·rename_i e;rw[e,AJ P];simp only[EX];rw[Tj Bl t U 1];by_cases A:As Bl (t.drop a) 1<=20
  ·rw[AG U,AJ (by simpa using A)]
  ·rw[AJ U,AG (by simpa using A)]
 ·rename_i e;rw[e];rw[AZ,D7]at P;rw[P.1,P.2];simp only[D6,Dh,DN,C8];obtain⟨X,b⟩:=QY t (Nat.le_of_lt G)
  have f:B6 t a=B6 (t.drop a) 0:=by
   have:=OI (t.take a) (t.drop a) 0;rw[<-X,b]at this;exact this
  have S:=Tj Ag t (Nat.le_of_lt G) 0;rw[HG]at S;rw[f,S];cases B6 (t.drop a) 0<;>rfl
 ·rename_i k e0 e1 e2 e3 hkk;simp only[AZ,D7]at P;rw[P.1,P.2];simp only[D6,Dh];have N:k≠0:=e0;have R:k≠1:=e1;have h:k≠2:=e2;have p:k≠3:=e3;obtain⟨j,rfl⟩:∃j,k=j+4:=⟨k-4,by omega⟩;rw[hkk];show ET t a ts=_;unfold ET Eb;cases K:symsL.find? (DG (t.drop a))with
  |none=>rfl
  |some y=>
   have M:∀y∈symsL,y≠[]:=by decide
   have:=M y (Ld K);simp[this]
 ·rename_i e;simp only[AZ,D7]at P;rw[e,P.1.1,P.1.2];simp only[D6,Dh]
  have K:symsL.find? (DG (t.drop a))=none:=by
   rw[List.find?_eq_none];intro y I C;have Z:=(Ii _ _).1 C;have W:=Bu.1 P.2 y I;have M:∀y∈symsL,y≠[]:=by decide
   match y,M y I,Z,W with
   |d::y,_,Z,W=>
    obtain⟨r,B⟩:=Z;have:(t.drop a).head?=some d:=by rw[<-B];rfl
    have T:t[a]?=some t[a]:=AU G;rw[List.head?_drop,T]at this;rw[HR T]at W;simp at W;exact W (Ae this).symm
  unfold Eb;rw[K];rfl
def O1(t:LU):∀(m a:Nat),t.length-a<=m->a<=t.length->a<=Dn t a/\Dn t a<=t.length/\Dn t (Dn t a)=Dn t a:=by
 intro m
 induction m with
 |zero=>
  intro a r G;obtain rfl:a=t.length:=by omega
  rw[J0];exact⟨AO _,AO _,J0⟩
 |succ m ih=>
  intro a r G;by_cases h:a<t.length
  ·have T:t[a]?=some t[a]:=AU h;rw[ML T]
   split
   ·rename_i h37;have Z:=Eu (p:=CA) (t:=t) (a:=a) U;have W:=Fo (p:=CA) T (by simp[CA,h37]);have R:=Fs CA t (a+1);have:=ih (As CA t a) U Z;exact⟨by omega,this.2⟩
   ·split
    ·have:=ih (a+1) U U;exact⟨by omega,this.2⟩
    ·rename_i Z W;refine⟨AO _,by omega,?_⟩;rw[ML T,AG Z,AG W]
  ·obtain rfl:a=t.length:=by omega
   rw[J0];exact⟨AO _,AO _,J0⟩
def WU(t:LU)(ts:List Tok):∀(m a:Nat),t.length-a<=m->a<=t.length->Fe t a ts=Fe t (Dn t a) ts:=by
 intro m
 induction m with
 |zero=>
  intro a r G;obtain rfl:a=t.length:=by omega
  rw[J0]
 |succ m ih=>
  intro a r G;by_cases h:a<t.length
  ·have T:t[a]?=some t[a]:=AU h;have y:t.getD a 0=t[a]:=HR T;rw[ML T]
   split
   ·rename_i h37;have Z:=Eu (p:=CA) (t:=t) (a:=a) U;have W:=Fo (p:=CA) T (by simp[CA,h37]);have R:=Fs CA t (a+1);rw[JE h];have:BZ t a ts=.ok (As CA t a,ts):=by unfold BZ;rw[y,mu h37];rfl
    rw[this];exact ih _ U Z
   ·split
    ·rename_i hb;rw[JE h];have:BZ t a ts=.ok (a+1,ts):=by unfold BZ;rw[y,dK hb];rfl
     rw[this];exact ih _ U U
    ·rfl
  ·obtain rfl:a=t.length:=by omega
   rw[J0]
def iz{t:LU}{i:Nat}(F:i<t.length)(h:Dn t i=i):EA (t.getD i 0)≠some 0/\EA (t.getD i 0)≠some 1:=by
 have T:t[i]?=some t[i]:=AU F;have y:t.getD i 0=t[i]:=HR T;rw[ML T]at h;rw[y];refine⟨fun e=>?_,fun e=>?_⟩
 ·obtain⟨Z,W⟩:=mo e;rw[AG Z,AJ W]at h;have:=(O1 t _ (i+1) (AO _) U).1;omega
 ·have q:=mq e;rw[AJ q]at h;have Z:=Eu (p:=CA) (t:=t) (a:=i) U;have W:=Fo (p:=CA) T (by simp[CA,q]);have R:=Fs CA t (i+1);have:=(O1 t _ (As CA t i) (AO _) Z).1;omega
def eh(t:LU){a:Nat}(h:a<=t.length):Dn t a=a+Dn (t.drop a) 0:=by
 obtain⟨Z,W⟩:=QY t h;have:=mL (t.take a) (t.drop a) 0 U;rw[<-Z,W,HG]at this;exact this
def fm{u:LU}(h:1<=u.length)(B:(DH u).2.2=true):1<=(DH u).2.1/\(DH u).2.1<=u.length:=by
 unfold DH at B⊢
 split
 ·have:=Fs Bl u 1;have:=Eu (p:=Bl) (t:=u) (a:=1) h;simp only;omega
 ·split
  ·rename_i hd;have T:u[0]?=some u[0]:=AU U;rw[HR T]at hd;have:=Fo (p:=Ag) T hd;have:=Fs Ag u (0+1);have:=Eu (p:=Ag) (t:=u) (a:=0) U;simp only;omega
  ·rename_i h1 h2;rw[AG h1,AG h2]at B;simp only[D7,Ec]at B;simp only
   have N:(Eb u).length<=u.length:=by
    unfold Eb;cases hf:symsL.find? (DG u)with
    |none=>simp
    |some y=>exact((Ii _ _).1 (Jp hf)).length_le
   have:(Eb u).length≠0:=fun e=>B (Dc e);omega
def nH:(madeCells (Value.agg #[iV 0,AA [],iV 0]).cells (1*3)).toList=[iV 0,AA [],iV 0]:=by kernel_rfl
def gM(w:World)(t:LU):Fn Zp 44 [AA t] w fun v w'=>∃a c e q ts,v=.tuple #[.slice a ts.length c,iV e,iV q]/\Ext w w'/\Y3 w' a c ts/\
  ((C7 t=.ok ts/\e=0/\q= -1)\/∃p:Nat,C7 t=.error (e,p)/\e≠0/\q=(p:Int)/\ts=[]):=by
 have P:∀W:World,Y3 W none 0 []:=fun W=>⟨none,0,rfl,by simp,by omega,fun _=>rfl,.inl rfl⟩;refine AM func44 rfl ntmps44 (go ?_);by_cases hl:6000<t.length
 ·refine go ?_;exact Df rfl ⟨none,0,2,6000,[],rfl,Ext.refl _,P _,.inr ⟨6000,by unfold C7;rw[AJ hl],by decide,rfl,rfl⟩⟩
 have C:=R4 (t:=t) U;refine go ?_;refine Ay (out:=[]) rfl U rD (fun w1 E=>?_);have o1:=E.own (n:=0) (size:=3) rfl rL (AO _);have z1:=E.size;refine gC (YO t w1 U) ?_;rintro v w2⟨rfl,rfl⟩;refine go ?_;have F:=O1 t _ 0 (AO _) U;have a7:=WU t [] _ 0 (AO _) U
 refine Aj (α:=Nat×Value×List Tok) (fun x=>[(0,AA t),(5,x.2.1),(6,iV (x.1:Int))])
  (fun x W=>x.1<=t.length/\Dn t x.1=x.1/\x.2.2.length<=2000/\Ext w W/\w.heap.size<W.heap.size/\W.ownsRow w.heap.size 170 3 x.2.1 x.2.2.length (EB x.2.2)/\Fe t 0 []=Fe t x.1 x.2.2) (fun x=>t.length-x.1)
  (Dn t 0,.slice (sm w.heap.size) 0 0,[]) ag ⟨F.2.1,F.2.2,by simp,E.E,by omega,o1,a7⟩ ?_
 rintro⟨i,ov,ts⟩l f3⟨hi,H,a0,j,z3,L,h⟩;simp only at hi H a0 j z3 L h⊢
 obtain⟨D,k,rfl⟩:∃D k,ov=.slice D ts.length k:=by
  rcases L.2 with⟨rfl,h0⟩|⟨g,a9,b0,rfl,_⟩
  ·exact⟨none,0,by rw[h0]⟩
  ·exact ud
 refine go ?_;by_cases z:i<t.length
 ·have a1:(t.drop i).length=t.length-i:=by simp
  obtain⟨a4,a5⟩:=iz z H;have B:=gw t i ts z a4 a5;refine gC (kK (t.drop i) l U U) ?_;rintro v w4⟨b,rfl⟩;generalize K:DH (t.drop i)=x at B;obtain⟨d,n,ok⟩:=x;simp only at B;have a8:(t.drop i).take n=(t.take (i+n)).drop i:=by rw[N3];congr 1;omega
  refine go ?_;refine CL (cs:=[iV d,AA ((t.drop i).take n),iV 0]) rfl rfl rF (Ak rfl) (fun w5 I=>?_);have r:=I.D;have s:Ext l w5:=b.Q I.E;have z5:=s.size;have b1:=b.size;refine go ?_;cases ok with
  |false=>
   rw[AG O]at B;refine go ?_;refine Df rfl ⟨none,0,40,i,[],rfl,j.Q s,P _,.inr ⟨i,?_,by decide,rfl,rfl⟩⟩;rw[C,h,JE z,B]
  |true=>
   rw[AJ rfl]at B;have N:=fm (u:=t.drop i) U (by rw[K]);rw[K,a1]at N;simp only at N;have Q:((t.drop i).take n).length=n:=by simp;omega
   refine go ?_;by_cases o:ts.length=2000
   ·have e:CH t i ts d (i+n)=.error (2,i):=by unfold CH;rw[AJ o]
    rw[e]at B;refine go ?_;refine Df rfl ⟨none,0,2,i,[],rfl,j.Q s,P _,.inr ⟨i,?_,by decide,rfl,rfl⟩⟩;rw[C,h,JE z,B]
   ·have e:CH t i ts d (i+n)=.ok (i+n,ts++[⟨d,(t.take (i+n)).drop i,i⟩]):=by unfold CH;rw[AG o]
    rw[e,<-a8]at B;generalize hT:(t.drop i).take n=y at B r Q;refine go ?_;refine AW rfl rfl rfl r O (fun T G=>?_);have m:Blk T w4.heap.size 170 [iV d,AA y,iV (i:Int)]:=G.D;have k6:Ext l T:=s.E G.E rH;have z6:=G.size;refine go ?_;refine Ay (out:=G9 ⟨d,y,i⟩) rfl U (by rw[nH];rfl) (fun w7 A=>?_);have o7:=A.own (n:=1) (size:=3) rfl rL (AO _);have z7:=A.size;have S:Ext l w7:=k6.Q A.E;have Z:=m.E A.E O;have M:∀x∈(Value.slice D ts.length k).ownBlock.toList,w.heap.size<=x/\x<l.heap.size:=fun x V=>Ao L (Aw.1 V);refine Bk (ok:=AL) (v:=.slice D ts.length k) rfl rfl (CD L S) (BG o7 fun _ _=>trivial) U rfl rfl (Ak rfl) U U U (fun v8 X R=>?_);have o8:=R.own;have z8:=R.E.size;have b8:=Z.E R.E (fun V=>by have:=M _ V;omega);have k8:Ext w X:=(j.Q S).E R.E (fun x V=>(M x V).1);refine AT (GQ ?_);refine nX ?_;(refine AN (AS rfl (AV rfl (AQ rfl (Blk.cell rG rF) ?_)))<;>refine EM rfl (Fz rfl rfl rQ ?_)<;>refine AT (AS rfl ?_))
    refine nX ?_;have a3:(i:Int)+(y.length:Int)=((i+n:Nat):Int):=by rw[Q];omega
    rw[a3];refine AN (AS rfl (BL rfl (AS rfl (QV rfl rfl U ?_))));refine AD (YO (t.drop (i+n)) X rE) rfl ?_;rintro v w9⟨rfl,rfl⟩;have a2:=eh t (a:=i+n) U;have f:=O1 t _ (i+n) (AO _) U;have a6:=WU t (ts++[⟨d,y,i⟩]) _ (i+n) (AO _) U;refine go ?_;refine⟨(Dn t (i+n),v8,ts++[⟨d,y,i⟩]),⟨rfl,⟨rfl,rfl,?_,trivial⟩,⟨f.2.1,f.2.2,by simp;omega,k8,by omega,?_,?_⟩⟩,by simp only;omega⟩
    ·show iV (((i+n:Nat):Int)+(Dn (t.drop (i+n)) 0:Int))=_;rw[a2];rw[<-BB]
    ·have e1:EB (ts++[⟨d,y,i⟩])=EB ts++G9 ⟨d,y,i⟩:=by simp[EB]
     rw[e1,A9];exact o8
    ·rw[h,JE z,B];exact a6
 ·obtain rfl:i=t.length:=by omega
  refine go ?_;refine Df rfl ⟨D,k,0, -1,ts,rfl,j,BG (ok:=AL) L (fun _ _=>trivial),.inl ⟨?_,rfl,rfl⟩⟩;rw[C,h,OM]
mutual
def oF:Nat->Fml->Nat
 |n,.mk op nm v b args=>(if(BH op).level<n then 1 else 0)+oA (BH op).first (BH op).next args
def oA:Nat->Nat->LF->Nat
 |_,_,[]=>0
 |first,next,a::l=>oF first a+oR next l
def oR:Nat->LF->Nat
 |_,[]=>0
 |next,a::l=>oF next a+oR next l
end
def cnt(l:List Tok):Nat:=l.countP fun x=>decide (x.text=[40])
end
def UO:=@List.dropWhile_cons
def G0(r:Rqm):List BT:=(1,if r.kind=1 then[97,115,115,117,109,101]else[103,117,97,114,97,110,116,101,101])::(1,r.name)::(3,[58])::tkF 0 r.formula
def ES(x:Sgn):List BT:=(1,if x.input then[105,110,112,117,116]else[111,117,116,112,117,116])::(1,x.name)::((if x.size=2 then[]else[(3,[58]),(2,Br x.size)])++[(3,[59])])
def itG{α:Type}(o:LU->List α)(m:Rqm->List α)(c:List α)(l:List Rqm)(i:Nat):List α:=match l[i]? with
 |none=>[]
 |some r=>(if i=0\/(l[i-1]?).map (·.part)≠some r.part then o r.part else[])++(m r++(if i+1=l.length\/(l[i+1]?).map (·.part)≠some r.part then c else[]))
def itR{α:Type}(o:LU->List α)(m:Rqm->List α)(c:List α)(a:Option (LU)):List Rqm->List α
 | []=>[]
 |r::l=>(if a≠some r.part then o r.part else[])++(m r++((if l.head?.map (·.part)≠some r.part then c else[])++itR o m c (some r.part) l))
def XV{α:Type}(o:LU->List α)(m:Rqm->List α)(c:List α):∀(Z l1:List Rqm),(List.range' l1.length Z.length).flatMap (itG o m c (l1++Z))=itR o m c (l1.getLast?.map (·.part)) Z
 | [],l1=>by simp[itR]
 |r::Z,l1=>by
  have n:=XV o m c Z (l1++[r]);rw[Cg,List.singleton_append]at n;simp only[A9,HA,List.getLast?_append,List.getLast?_singleton,Option.some_or,GG]at n;rw[C9,List.range'_succ,GZ,n];have B:(l1++r::Z)[l1.length]?=some r:=by simp
  have d:(l1.length=0\/((l1++r::Z)[l1.length-1]?).map (·.part)≠some r.part)↔l1.getLast?.map (·.part)≠some r.part:=by
   cases l1 with
   |nil=>simp
   |cons a k=>
    have:((a::k)++r::Z)[(a::k).length-1]?=(a::k).getLast?:=by
     rw[D4 O,List.getLast?_eq_getElem?]
    rw[this];simp
  have W:(l1.length+1=(l1++r::Z).length\/((l1++r::Z)[l1.length+1]?).map (·.part)≠some r.part)↔Z.head?.map (·.part)≠some r.part:=by
   rw[EJ U,show l1.length+1-l1.length=0+1 by omega,List.getElem?_cons_succ];cases Z with
   |nil=>simp
   |cons b k=>simp
  have e:itG o m c (l1++r::Z) l1.length=(if l1.getLast?.map (·.part)≠some r.part then o r.part else[])++(m r++(if Z.head?.map (·.part)≠some r.part then c else[])):=by
   unfold itG;rw[B];simp only[d,W]
  rw[e];simp[itR]
def mZ{α:Type}(o:LU->List α)(m:Rqm->List α)(c:List α)(l:List Rqm):(List.range l.length).flatMap (itG o m c l)=itR o m c none l:=by
 have:=XV o m c l [];rw[List.range_eq_range'];simpa using this
def XW{α:Type}(o:LU->List α)(m:Rqm->List α)(c:List α)(p:LU):∀(l:List Rqm)(r:Rqm),r.part=p->
  itR o m c (some p) (r::l)=((r::l).takeWhile fun x=>decide (x.part=p)).flatMap m++(c++itR o m c none ((r::l).dropWhile fun x=>decide (x.part=p)))
 | [],r,hr=>by simp[itR,hr]
 |x::l,r,hr=>by
  have f:(r::x::l).takeWhile (fun y=>decide (y.part=p))=r::(x::l).takeWhile (fun y=>decide (y.part=p)):=by rw[Ll];simp[hr]
  have u:(r::x::l).dropWhile (fun y=>decide (y.part=p))=(x::l).dropWhile (fun y=>decide (y.part=p)):=by rw[UO];simp[hr]
  rw[f,u,GZ];rw[itR,hr,AG O];by_cases V:x.part=p
  ·rw[AG ri,Ef,Ef,XW o m c p l x V];simp
  ·have N:(x::l).takeWhile (fun y=>decide (y.part=p))=[]:=by rw[Ll];simp[V]
   have n:(x::l).dropWhile (fun y=>decide (y.part=p))=x::l:=by rw[UO];simp[V]
   have Z:some p≠some x.part:=fun h=>V (Ae h).symm;have W:((x::l).head?.map (·.part))≠some p:=fun h=>V (Ae h)
   have a:itR o m c (some p) (x::l)=itR o m c none (x::l):=by
    simp only[itR];rw[AJ Z,AJ (show(none:Option (LU))≠some x.part from nofun)]
   rw[N,n,AJ W,a];simp
def oT(p:LU):LU:=[112,97,114,116,32]++(p++[32,123,10])
def mT(r:Rqm):LU:=[32,32]++(Gz r++[59,10])
def oK(p:LU):List BT:=[(1,[112,97,114,116]),(1,p),(3,[123])]
def mK(r:Rqm):List BT:=G0 r++[(3,[59])]
def cK:List BT:=[(3,[125])]
def nh(l:List Rqm):NR l=itR oT mT [125,10] none l:=by
 rw[<-mZ];unfold NR
 congr 1
 funext i
 unfold rqI itG;cases l[i]? with
 |none=>rfl
 |some r=>simp[oT,mT]
def KS(s:Spc):List BT:=s.sigs.flatMap ES++itR oK mK cK none s.reqs
def edtK(e:Edt):List BT:=if e.kind=2 then[(1,[100,114,111,112]),(1,e.req.name)]else(1,if e.kind=1 then[97,100,100]else[114,101,112,108,97,99,101])::(1,e.req.part)::G0 e.req
def ReadL.word{y s:LU}{P:List BT}(Z:1<=y.length)(W:y.length<=12)(R:Bp (y.getD 0 0)=true)(A:y.all Bl=true)(B:ReadL s P)(E:Gv s.head?=true):ReadL (y++s) ((1,y)::P):=.tok Z (OR Z W R A E) B
def ReadL.nl{s:LU}{P:List BT}(h:ReadL s P):ReadL (59::10::s) ((3,[59])::P):=ReadL.one O (ReadL.gap (.inr rfl) h)
def gO{r:Rqm}(h:okR r=true){s:LU}{P:List BT}(B:ReadL s P)(E:Fol s):ReadL (Gz r++s) (G0 r++P):=by
 simp only[okR,AZ]at h;have K:=(Sg _ r.formula (AO _) h.2 0 s P B E).1;have Z:ReadL (r.name++([58,32]++(prF 0 r.formula++s))) ((1,r.name)::(3,[58])::(tkF 0 r.formula++P)):=ReadL.name h.1.2 (ReadL.one O (ReadL.gap (.inl rfl) K)) rfl;by_cases a:r.kind=1
 ·have W:=ReadL.word (y:=[97,115,115,117,109,101]) O O rfl rfl (ReadL.gap (c:=32) (.inl rfl) Z) rfl;simpa[Gz,G0,a]using W
 ·have W:=ReadL.word (y:=[103,117,97,114,97,110,116,101,101]) O O rfl rfl (ReadL.gap (c:=32) (.inl rfl) Z) rfl;simpa[Gz,G0,a]using W
def ga{x:Sgn}(h:okS x=true){s:LU}{P:List BT}(B:ReadL s P):ReadL (Fi x++s) (ES x++P):=by
 simp only[okS,Gx,AZ,BD]at h
 have Z:ReadL (x.name++((if x.size=2 then[]else[58,32]++Br x.size)++59::10::s)) ((1,x.name)::((if x.size=2 then[]else[(3,[58]),(2,Br x.size)])++(3,[59])::P)):=by
  by_cases W:x.size=2
  ·rw[AJ W,AJ W];exact ReadL.name h.1 B.nl rfl
  ·rw[AG W,AG W];have:=ReadL.num h.2.2 B.nl rfl;have R:ReadL (58::32::(Br x.size++59::10::s)) ((3,[58])::(2,Br x.size)::(3,[59])::P):=ReadL.one O (ReadL.gap (.inl rfl) this);exact ReadL.name h.1 R rfl
 cases hi:x.input with
 |true=>
  have W:=ReadL.word (y:=[105,110,112,117,116]) O O rfl rfl (ReadL.gap (c:=32) (.inl rfl) Z) rfl;simpa[Fi,ES,hi]using W
 |false=>
  have W:=ReadL.word (y:=[111,117,116,112,117,116]) O O rfl rfl (ReadL.gap (c:=32) (.inl rfl) Z) rfl;simpa[Fi,ES,hi]using W
def U7:∀{l:List Sgn}(_:l.all okS=true){s:LU}{P:List BT}(_:ReadL s P),ReadL (l.flatMap Fi++s) (l.flatMap ES++P)
 | [],_,s,P,hr=>hr
 |x::l,h,s,P,hr=>by
  rw[Gc,AZ]at h;rw[GZ,GZ,Cg,Cg];exact ga h.1 (U7 h.2 hr)
def Vw:∀(l:List Rqm)(m:Option (LU))(_:l.all EQ=true){s:LU}{P:List BT}(_:ReadL s P),ReadL (itR oT mT [125,10] m l++s) (itR oK mK cK m l++P)
 | [],_,_,s,P,hr=>hr
 |r::l,m,h,s,P,hr=>by
  rw[Gc,AZ]at h;have a:=h.1;simp only[EQ,AZ]at a;have n:=Vw l (some r.part) h.2 hr
  have Z:ReadL ((if l.head?.map (·.part)≠some r.part then[125,10]else[])++(itR oT mT [125,10] (some r.part) l++s)) ((if l.head?.map (·.part)≠some r.part then cK else[])++(itR oK mK cK (some r.part) l++P)):=by
   split
   ·exact ReadL.one O (ReadL.gap (.inr rfl) n)
   ·exact n
  have W:=gO a.2 Z.nl ⟨rfl,by simp⟩;have R:ReadL ([32,32]++(Gz r++59::10::_)) _:=ReadL.gap (.inl rfl) (ReadL.gap (.inl rfl) W);by_cases C:m≠some r.part
  ·have A:=ReadL.word (y:=[112,97,114,116]) O O rfl rfl (ReadL.gap (c:=32) (.inl rfl) (ReadL.name a.1 (ReadL.gap (c:=32) (.inl rfl) (ReadL.one (c:=123) O (ReadL.gap (c:=10) (.inr rfl) R))) rfl)) rfl;simpa[itR,C,oT,mT,oK,mK]using A
  ·simp only[ne_eq,Decidable.not_not]at C;simpa[itR,C,mT,mK]using R
def gq{x:Spc}(h:EO x=true){s:LU}{P:List BT}(B:ReadL s P):ReadL (E8 x++s) (KS x++P):=by
 simp only[EO,AZ]at h;have Z:=Vw x.reqs none h.2 B;have:=U7 h.1 Z;rw[<-nh]at this;simpa[E8,KS]using this
def IV(r:Rqm):Rqm:=⟨[],r.name,r.kind,r.formula⟩
def nZ{r:Rqm}(a:okR r=true){rest:List Tok}(B:StopL 0 rest):RunN .req (Au (G0 r)++rest) (.ok (IV r,rest)):=by
 simp only[okR,AZ,Fm,BD]at a;have K:RunN .formula (Au (tkF 0 r.formula)++rest) (.ok (r.formula,rest)):=Sw _ r.formula (AO _) a.2 0 rest U B
 have b:∀k:Int,Run (nameG.bind fun s=>(Di [58]).bind fun _=>.call .formula fun f=>.ret (⟨[],s,k,f⟩:Rqm)) (tkn (1,r.name)::tkn (3,[58])::(Au (tkF 0 r.formula)++rest)) (.ok (⟨[],r.name,k,r.formula⟩,rest)):=fun k=>by
  refine Oj (x:=tkn (1,r.name)) rfl a.1.2 ?_;refine H6 (x:=tkn (3,[58])) rfl ?_;exact Run.call K (Run.ret _ _)
 by_cases P:r.kind=1
 ·have e:Au (G0 r)++rest=tkn (1,[97,115,115,117,109,101])::tkn (1,r.name)::tkn (3,[58])::(Au (tkF 0 r.formula)++rest):=by simp[G0,Au,P]
  rw[e];have u:IV r=⟨[],r.name,1,r.formula⟩:=by simp[IV,P]
  rw[u];exact Hj (x:=tkn (1,[97,115,115,117,109,101])) rfl (Run.bind (Run.ret _ _) (b 1))
 ·have g:r.kind=2:=by rcases a.1.1 with h|h;exact absurd h P;exact h
  have e:Au (G0 r)++rest=tkn (1,[103,117,97,114,97,110,116,101,101])::tkn (1,r.name)::tkn (3,[58])::(Au (tkF 0 r.formula)++rest):=by simp[G0,Au,P]
  rw[e];have u:IV r=⟨[],r.name,2,r.formula⟩:=by simp[IV,g]
  rw[u];refine FG (l:=tkn (1,[103,117,97,114,97,110,116,101,101])::_) rfl (Run.bind (H6 (x:=tkn (1,[103,117,97,114,97,110,116,101,101])) rfl (Run.ret _ _)) (b 2))
def jc{r:Rqm}(h:okR r=true)(rest:List Tok):RunN .line (Au (mK r)++rest) (.ok (IV r,rest)):=by
 have e:Au (mK r)++rest=Au (G0 r)++(tkn (3,[59])::rest):=by simp[mK,Au]
 rw[e];exact Run.call (nZ h (StopL.cons rfl)) (H6 (x:=tkn (3,[59])) rfl (Run.ret _ _))
def kM(r:Rqm)(rest:List Tok):(Ax [97,115,115,117,109,101] ((Au (mK r)++rest).head?.map bare)||Ax [103,117,97,114,97,110,116,101,101] ((Au (mK r)++rest).head?.map bare))=true:=by
 by_cases P:r.kind=1
 ·simp[mK,G0,Au,P,tkn,bare,Ax]
 ·simp[mK,G0,Au,P,tkn,bare,Ax]
def Uq:∀{g:List Rqm}(_:∀r∈g,okR r=true)(rest:List Tok),RunN .lines (Au (g.flatMap mK)++(tkn (3,[125])::rest)) (.ok (g.map IV,tkn (3,[125])::rest))
 | [],_,rest=>Run.bind (IA _ _ _) (Run.ret _ _)
 |r::g,h,rest=>by
  have e:Au ((r::g).flatMap mK)++(tkn (3,[125])::rest)=Au (mK r)++(Au (g.flatMap mK)++(tkn (3,[125])::rest)):=by simp[Au]
  rw[e];have Z:=IA [97,115,115,117,109,101] [103,117,97,114,97,110,116,101,101] (Au (mK r)++(Au (g.flatMap mK)++(tkn (3,[125])::rest)));rw[kM]at Z;refine Run.bind Z ?_;exact Run.call (jc (h r O) _) (Run.call (Uq (fun x V=>h x ri) rest) (Run.ret _ _))
def jr{g:List Rqm}{p:LU}(C:BP p=true)(h:∀r∈g,okR r=true/\r.part=p)(rest:List Tok):RunN .part (Au (oK p++(g.flatMap mK++cK))++rest) (.ok (g,rest)):=by
 have e:Au (oK p++(g.flatMap mK++cK))++rest=tkn (1,[112,97,114,116])::tkn (1,p)::tkn (3,[123])::(Au (g.flatMap mK)++(tkn (3,[125])::rest)):=by simp[oK,cK,Au]
 rw[e];refine H6 (x:=tkn (1,[112,97,114,116])) rfl (Oj (x:=tkn (1,p)) rfl C (H6 (x:=tkn (3,[123])) rfl (Run.call (Uq (fun r B=>(h r B).1) rest) (H6 (x:=tkn (3,[125])) rfl ?_))))
 have u:(g.map IV).map (fun r=>(⟨p,r.name,r.kind,r.formula⟩:Rqm))=g:=by
  rw[HF];refine(UQ fun r B=>?_).Q (List.map_id _);have:=(h r B).2;cases r;simp at this;simp[IV,this]
 show Run (.ret ((g.map IV).map (fun r=>(⟨p,r.name,r.kind,r.formula⟩:Rqm)))) rest _;rw[u];exact Run.ret _ _
def Q5:∀(n:Nat)(l:List Rqm)(_:l.length<=n)(_:l.all EQ=true){rest C:List Tok}{A:List (List Rqm)}(_:RunN .parts rest (.ok (A,C))),∃qs,RunN .parts (Au (itR oK mK cK none l)++rest) (.ok (qs,C))/\qs.flatten=l++A.flatten
 |n,[],_,_,rest,C,A,hr=>⟨A,hr,rfl⟩
 |0,r::l,hn,_,_,_,_,_=>by simp at hn
 |n+1,r::l,hn,hok,rest,C,A,hr=>by
  have y:∀x∈(r::l).takeWhile (fun x=>decide (x.part=r.part)),okR x=true/\x.part=r.part:=fun x V=>by
   have Z:=Bu.1 hok x ((List.takeWhile_sublist _).subset V);simp only[EQ,AZ]at Z;have W:=Bu.1 (List.all_takeWhile (p:=fun x:Rqm=>decide (x.part=r.part)) (l:=r::l)) x V;exact⟨Z.2,by simpa using W⟩
  have o:BP r.part=true:=by
   have Z:=Bu.1 hok r O;simp only[EQ,AZ]at Z;exact Z.1
  have f:itR oK mK cK none (r::l)=oK r.part++itR oK mK cK (some r.part) (r::l):=by
   simp only[itR];rw[AJ (show(none:Option (LU))≠some r.part from nofun),AG (show¬(some r.part≠some r.part)from fun h=>h rfl)];rfl
  have g:((r::l).dropWhile (fun x=>decide (x.part=r.part))).length<=n:=by
   rw[UO,AJ O];have:=(List.dropWhile_sublist (fun x:Rqm=>decide (x.part=r.part)) (l:=l)).length_le;simp at hn;omega
  have b:((r::l).dropWhile (fun x=>decide (x.part=r.part))).all EQ=true:=by
   rw[Bu]at hok⊢;exact fun x V=>hok x ((List.dropWhile_sublist _).subset V)
  obtain⟨qs,Z,W⟩:=Q5 n _ g b hr;refine⟨(r::l).takeWhile (fun x=>decide (x.part=r.part))::qs,?_,?_⟩
  ·rw[f,XW _ _ _ r.part l r rfl]
   have N:Au (oK r.part++(((r::l).takeWhile fun x=>decide (x.part=r.part)).flatMap mK++(cK++itR oK mK cK none ((r::l).dropWhile fun x=>decide (x.part=r.part)))))++rest=
     Au (oK r.part++(((r::l).takeWhile fun x=>decide (x.part=r.part)).flatMap mK++cK))++(Au (itR oK mK cK none ((r::l).dropWhile fun x=>decide (x.part=r.part)))++rest):=by simp[Au]
   rw[N];refine Run.bind (a:=true) (l':=Au (oK r.part++(((r::l).takeWhile fun x=>decide (x.part=r.part)).flatMap mK++cK))++(Au (itR oK mK cK none ((r::l).dropWhile fun x=>decide (x.part=r.part)))++rest)) (IA _ _ _) ?_;exact Run.call (jr o y _) (Run.call Z (Run.ret _ _))
  ·rw[Do,W,<-Cg,List.takeWhile_append_dropWhile]
def gG:RunN .parts [] (.ok ([],[])):=Run.bind (IA _ _ _) (Run.ret _ _)
def dh{x:Sgn}(h:okS x=true)(rest:List Tok):RunN .signal (Au (ES x)++rest) (.ok (x,rest)):=by
 simp only[okS,Gx,AZ,BD]at h
 have P:∀i:Bool,i=x.input->Run (nameG.bind fun s=>((Cw [58]).bind fun b=>if b then numberG else .ret 2).bind fun n=>(Di [59]).bind fun _=>.ret (⟨s,i,n⟩:Sgn))
   (tkn (1,x.name)::(Au (if x.size=2 then[]else[(3,[58]),(2,Br x.size)])++(tkn (3,[59])::rest))) (.ok (x,rest)):=fun i F=>by
  subst F;refine Oj (x:=tkn (1,x.name)) rfl h.1 ?_;by_cases W:x.size=2
  ·rw[AJ W];refine Run.bind (a:=2) (l':=tkn (3,[59])::rest) (FG (l:=tkn (3,[59])::rest) rfl (Run.ret _ _)) (H6 (x:=tkn (3,[59])) rfl ?_);have e:(⟨x.name,x.input,2⟩:Sgn)=x:=by cases x;simp at W;simp[W]
   show Run (.ret (⟨x.name,x.input,2⟩:Sgn)) rest _;rw[e];exact Run.ret _ _
  ·rw[AG W];have e:EY (tkn (2,Br x.size)).text=x.size:=Qc h.2.1
   have H:Run numberG (tkn (2,Br x.size)::tkn (3,[59])::rest) (.ok (x.size,tkn (3,[59])::rest)):=by
    have:=Qf (q:=fun n=>.ret n) (x:=tkn (2,Br x.size)) (l:=tkn (3,[59])::rest) rfl (Run.ret _ _);rw[e]at this
    have R:numberG.bind (fun n=>G.ret n)=numberG:=by
     unfold numberG;simp only[G.bind]
     congr 1
     funext o
     cases o with
     |none=>rfl
     |some y=>simp only;split<;>rfl
    rw[R]at this;exact this
   refine Run.bind (a:=x.size) (l':=tkn (3,[59])::rest) (Hj (x:=tkn (3,[58])) rfl H) (H6 (x:=tkn (3,[59])) rfl ?_);exact Run.ret _ _
 cases F:x.input with
 |true=>
  have e:Au (ES x)++rest=tkn (1,[105,110,112,117,116])::tkn (1,x.name)::(Au (if x.size=2 then[]else[(3,[58]),(2,Br x.size)])++(tkn (3,[59])::rest)):=by simp[ES,Au,F]
  rw[e];exact Hj (x:=tkn (1,[105,110,112,117,116])) rfl (Run.bind (Run.ret _ _) (P true F.symm))
 |false=>
  have e:Au (ES x)++rest=tkn (1,[111,117,116,112,117,116])::tkn (1,x.name)::(Au (if x.size=2 then[]else[(3,[58]),(2,Br x.size)])++(tkn (3,[59])::rest)):=by simp[ES,Au,F]
  rw[e];exact FG (l:=tkn (1,[111,117,116,112,117,116])::_) rfl (Run.bind (l':=tkn (1,x.name)::_) (QJ (t:=[111,117,116,112,117,116]) (ts:=tkn (1,[111,117,116,112,117,116])::tkn (1,x.name)::_) rfl) (P false F.symm))
def kp(x:Sgn)(rest:List Tok):(Ax [105,110,112,117,116] ((Au (ES x)++rest).head?.map bare)||Ax [111,117,116,112,117,116] ((Au (ES x)++rest).head?.map bare))=true:=by
 cases hi:x.input with
 |true=>simp[ES,Au,hi,tkn,bare,Ax]
 |false=>simp[ES,Au,hi,tkn,bare,Ax]
def Wc:∀{l:List Sgn}(_:l.all okS=true){rest:List Tok}(_:(Ax [105,110,112,117,116] (rest.head?.map bare)||Ax [111,117,116,112,117,116] (rest.head?.map bare))=false),RunN .sigs (Au (l.flatMap ES)++rest) (.ok (l,rest))
 | [],_,rest,hr=>by
  have Z:=IA [105,110,112,117,116] [111,117,116,112,117,116] rest;rw[hr]at Z;exact Run.bind Z (Run.ret _ _)
 |x::l,h,rest,hr=>by
  rw[Gc,AZ]at h;have e:Au ((x::l).flatMap ES)++rest=Au (ES x)++(Au (l.flatMap ES)++rest):=by simp[Au]
  rw[e];have Z:=IA [105,110,112,117,116] [111,117,116,112,117,116] (Au (ES x)++(Au (l.flatMap ES)++rest));rw[kp]at Z;exact Run.bind Z (Run.call (dh h.1 _) (Run.call (Wc h.2 hr) (Run.ret _ _)))
def Vv(l:List Rqm)(rest:List Tok)(B:(Ax [105,110,112,117,116] (rest.head?.map bare)||Ax [111,117,116,112,117,116] (rest.head?.map bare))=false):(Ax [105,110,112,117,116] ((Au (itR oK mK cK none l)++rest).head?.map bare)||Ax [111,117,116,112,117,116] ((Au (itR oK mK cK none l)++rest).head?.map bare))=false:=by
 cases l with
 |nil=>exact B
 |cons r l=>
  simp only[itR];rw[AJ (show(none:Option (LU))≠some r.part from nofun)];simp[oK,Au,tkn,bare,Ax]
def ky{x:Spc}(V:EO x=true){l:List Rqm}(N:l.all EQ=true):RunN .spec (Au (KS x)++Au (itR oK mK cK none l)) (.ok (⟨x.sigs,x.reqs++l⟩,[])):=by
 simp only[EO,AZ]at V;obtain⟨v,Z,f⟩:=Q5 _ l (AO _) N gG;rw[Ch]at Z;obtain⟨S,W,u⟩:=Q5 _ x.reqs (AO _) V.2 Z;rw[f,I6,Ch]at u;have e:Au (KS x)++Au (itR oK mK cK none l)=Au (x.sigs.flatMap ES)++(Au (itR oK mK cK none x.reqs)++Au (itR oK mK cK none l)):=by simp[KS,Au]
 rw[e]
 have H:(Ax [105,110,112,117,116] ((Au (itR oK mK cK none l)).head?.map bare)||Ax [111,117,116,112,117,116] ((Au (itR oK mK cK none l)).head?.map bare))=false:=by
  have:=Vv l [] rfl
  rwa [Ch]at this
 refine Run.call (Wc V.1 (Vv x.reqs _ H)) (Run.call W ?_);rw[u];exact Run.ret _ _
def ny{x:Spc}(V:EO x=true):RunN .spec (Au (KS x)) (.ok (x,[])):=by
 have:=ky V (l:=[]) rfl;simpa[itR,Au]using this



def iH{nt:NT}{l:List Tok}{v:nt.T}(h:RunN nt l (.ok (v,[]))):Run (whole nt) l (.ok (v,[])):=Run.call h (Run.look (Run.ret _ _))
def ia{nt:NT}{A B:List Tok}{v:nt.T}(h:RunN nt A (.ok (v,[])))(S:B.map bare=A.map bare):RunN nt B (.ok (v,[])):=by
 obtain⟨r,Z,W⟩:=Run.bare S.symm h;cases r with
 |error e=>exact W.elim
 |ok z=>
  obtain⟨u,l⟩:=z;obtain⟨f,a⟩:=W;have N:l=[]:=List.map_eq_nil_iff.1 a.symm;have s:v=u:=f;subst N;subst s;exact Z
def WL{nt:NT}{s:LU}{P:List BT}{v:nt.T}(h:ReadL s P)(B:RunN nt (Au P) (.ok (v,[]))):(∃p,C7 s=.error (2,p))\/PRes nt s (.ok v):=by
 rcases h.lex with⟨W,e,Z⟩|Z
 ·refine .inr ?_;unfold PRes;rw[Z];exact⟨.ok (v,[]),iH (ia B (by rw[e,iE])),rfl⟩
 ·exact .inl Z
def Vo{f:Fml}(h:okF f=true):ReadL (prF 0 f) (tkF 0 f):=by
 have:=(Sg _ f (AO _) h 0 [] [] .nil ⟨rfl,by simp⟩).1
 rwa [Ch,Ch]at this
def iu{f:Fml}(h:okF f=true):(∃p,C7 (prF 0 f)=.error (2,p))\/PRes .formula (prF 0 f) (.ok f):=WL (nt:=.formula) (Vo h) (qC h)
def pS{f:Fml}(a:okF f=true):prF 0 f≠[]:=by
 intro e;have h:=Vo a;rw[e]at h;obtain⟨x,t,P,_⟩:=SL _ f 0 (AO _) a;rw[P]at h;have:=h.det ReadL.nil rfl;cases this
def kx{s:Spc}(h:EO s=true):ReadL (E8 s) (KS s):=by
 have:=gq h .nil
 rwa [Ch,Ch]at this
def kv{s:Spc}(h:EO s=true):(∃p,C7 (E8 s)=.error (2,p))\/PRes .spec (E8 s) (.ok s):=WL (nt:=.spec) (kx h) (ny h)
section
variable (w:World)(c1 c3 t:Nat)(S:List Sgn)(xs:List Int)(m p B:Nat)(pv vv:Value)
def dA(P Q:Nat->Prop)(h:LwG w c1 c3 t S xs m p B)(V:Per B p P)(j:Per B p Q)(s:TrusG w vv (B+p) [fun t=>tv (P t),fun t=>tv (Q t)]):Fn Zp 256 [pv,vv,pt c1] w fun u w'=>Tru w' u (B+p) (fun t=>tv (EN P Q t))/\Ext w w':=by
 obtain⟨g,G,c,b,a⟩:=s;have c:vv=.slice (sm g) 2 2:=c;subst c;obtain⟨K,f,N⟩:=a 0 _ rfl;obtain⟨I,i,k⟩:=a 1 _ rfl;have R:=b.cell (o:=0+0) (by exact f);have v:=b.cell (o:=0+1) (by exact i);have q:=h.b1;refine AM func256 rfl ntmps256 (go ?_);refine Ab (rd 0 7 (.alt 7 (.read 8 .done) .stop)) AX rD (fun X W T=>⟨Ext X,?_,?_⟩)
 ·exact sY
 have H:=W.cell R O;have n:=W.cell v O;have M:=q.E W O;refine gE ?_;refine AD (fI X t S xs m p B K I P Q (h.ax.ext W) V j (N.ext W) (k.ext W)) rfl ?_;exact uR
def jF(P Q:Nat->Prop)(h:LwG w c1 c3 t S xs m p B)(V:Per B p P)(j:Per B p Q)(s:TrusG w vv (B+p) [fun t=>tv (P t),fun t=>tv (Q t)]):Fn Zp 258 [pv,vv,pt c1] w fun u w'=>Tru w' u (B+p) (fun t=>tv (FK P Q t))/\Ext w w':=by
 obtain⟨g,G,c,b,a⟩:=s;have c:vv=.slice (sm g) 2 2:=c;subst c;obtain⟨K,f,N⟩:=a 0 _ rfl;obtain⟨I,i,k⟩:=a 1 _ rfl;have R:=b.cell (o:=0+0) (by exact f);have v:=b.cell (o:=0+1) (by exact i);have q:=h.b1;refine AM func258 rfl ntmps258 (go ?_);refine Ab (rd 0 7 (.alt 7 (.read 8 .done) .stop)) AX rD (fun X W T=>⟨Ext X,?_,?_⟩)
 ·exact sY
 have H:=W.cell R O;have n:=W.cell v O;have M:=q.E W O;refine gE ?_;refine AD (an X t S xs m p B K I P Q (h.ax.ext W) V j (N.ext W) (k.ext W)) rfl ?_;exact uR
def cz(b o:Nat)(T:Int)(P Q:Nat->Prop)(h:LwG w c1 c3 t S xs m p B)(s:TrusG w vv (B+p) [fun t=>tv (P t),fun t=>tv (Q t)])(r:CC w b (o+2) (iV T)):Fn Zp 269 [.pointer (sn b o),vv,pt c1] w fun u w'=>Tru w' u (B+p) (fun t=>tv (Cs T P Q t))/\Ext w w':=by
 obtain⟨g,G,c,i,f⟩:=s;have c:vv=.slice (sm g) 2 2:=c;subst c;obtain⟨K,j,N⟩:=f 0 _ rfl;obtain⟨I,k,n⟩:=f 1 _ rfl;have R:=i.cell (o:=0+0) (by exact j);have v:=i.cell (o:=0+1) (by exact k);have q:=h.b1;refine AM func269 rfl ntmps269 (go ?_);refine Ab (rd 0 12 (.alt 12 (.read 13 .done) .stop)) AX rD (fun X W x=>⟨Ext X,?_,?_⟩)
 ·exact sY
 have H:=W.cell R O;have y:=W.cell v O;have z:=W.cell r O;have M:=q.E W O;have l:=fH X t S xs m p B K I P Q T (h.ax.ext W) (N.ext W) (n.ext W);by_cases s:T=1
 ·rw[BE s]at l;exact sk
 ·rw[BC s]at l;exact sk
def eo(b o:Nat)(T:Int)(P Q:Nat->Prop)(h:LwG w c1 c3 t S xs m p B)(s:TrusG w vv (B+p) [fun t=>tv (P t),fun t=>tv (Q t)])(r:CC w b (o+2) (iV T)):Fn Zp 271 [.pointer (sn b o),vv,pt c1] w fun u w'=>Tru w' u (B+p) (fun t=>tv (EP T P Q t))/\Ext w w':=by
 obtain⟨g,G,c,i,f⟩:=s;have c:vv=.slice (sm g) 2 2:=c;subst c;obtain⟨K,j,N⟩:=f 0 _ rfl;obtain⟨I,k,n⟩:=f 1 _ rfl;have R:=i.cell (o:=0+0) (by exact j);have v:=i.cell (o:=0+1) (by exact k);have q:=h.b1;refine AM func271 rfl ntmps271 (go ?_);refine Ab (rd 0 12 (.alt 12 (.read 13 .done) .stop)) AX rD (fun X W x=>⟨Ext X,?_,?_⟩)
 ·exact sY
 have H:=W.cell R O;have y:=W.cell v O;have z:=W.cell r O;have M:=q.E W O;have l:=ap X t S xs m p B K I P Q T (h.ax.ext W) (N.ext W) (n.ext W);by_cases s:T=1
 ·rw[BE s]at l;exact sk
 ·rw[BC s]at l;exact sk
def fM(k c r b o:Nat)(T:Int)(n:Nat)(A:List (Nat->Bool))(P:Nat->Prop)(h:k<n)(H:n<=1000000)(j:Blk w r 89 [.pointer (sn b o)])(e:Blk w c 243 [vv])(s:TrusG w vv n A)(V:A[0]?=some fun t=>tv (P t))(i:CC w b (o+2) (iV T)):Fn Zp 268 [iV (k:Int),pt r,pt c] w fun u w'=>u=.bool (tv (Jb T P k))/\w'=w:=by
 obtain⟨g,rfl,d⟩:=s.at;obtain⟨u,f,a⟩:=d 0 _ V;have v:=(Ah.1 V).1;refine AM func268 rfl ntmps268 (go ?_);cases k with
 |zero=>
  by_cases s:T=1
  ·refine gR ?_;exact⟨congrArg Value.bool (GB (by simp[Jb,s])),rfl⟩
  ·refine gR ?_;exact⟨congrArg Value.bool (GB (by simp[Jb,s])),rfl⟩
 |succ k=>
  have N:=a k U;have G:((k+1:Nat):Int)-1=(k:Int):=by omega
  exact sd
def fB(b o:Nat)(T:Int)(A:List (Nat->Bool))(P:Nat->Prop)(V:A[0]?=some fun t=>tv (P t))(h:LwG w c1 c3 t S xs m p B)(s:TrusG w vv (B+p) A)(f:CC w b (o+2) (iV T)):Fn Zp 267 [.pointer (sn b o),vv,pt c1] w fun u w'=>Tru w' u (B+p) (fun t=>tv (Jb T P t))/\Ext w w':=by
 obtain⟨r,C,j,M⟩:=h.ax.len;obtain⟨g,rfl,_⟩:=id s.at;refine AM func267 rfl ntmps267 (go ?_);refine Ac (L:=[.pointer (sn b o)]) rfl (fun Q D=>go ?_);refine Ac (L:=[.slice (sm g) A.length A.length]) rfl (fun i R=>?_);have c:=D.E.Q R.E;have Z:=h.ext c;have q:=Z.b1;have n:=D.D.E R.E O;refine gC (Hf i t S xs m p B 268 [] [pt w.heap.size,pt Q.heap.size] (fun t=>tv (Jb T P t)) [] (fun _ _=>True) Z.ax O trivial (fun _ _ _=>trivial) (fun k W d K _=>?_)) ?_
 ·exact(fM W _ k Q.heap.size w.heap.size b o T (B+p) A P d M (n.E K O) (R.D.E K O) ((s.ext c).ext K) V (K.cell (c.cell f O) O)).mono fun u w' a=>⟨a.1,a.2▸Ext.refl _,trivial⟩
 rintro u l⟨a,e,_⟩;refine gR ?_;exact⟨a,c.Q e⟩
def Vr(h r b o i k:Nat)(x T:Int)(P:k<B+p)(V:xs[HV m p k]?=some x)(F:i<S.length)(Z:Blk w c1 111 [pt t])(E:Blk w h 3 [iV (i:Int)])(j:Blk w r 89 [.pointer (sn b o)])(c:AxG w t S xs m p B)(d:CC w b (o+2) (iV T)):
  Fn Zp 243 [iV (k:Int),pt c1,pt h,pt r] w fun u w'=>u=.bool (tv (D0 S x i=T))/\Ext w w':=by
 refine AM func243 rfl ntmps243 (go ?_);refine Ab (rd 0 3 (rd 4 4 (.alt 3 (.read 8 (.read 9 .done)) .stop))) AX rD (fun X W g=>⟨Ext X,?_,?_⟩)
 ·exact sY
 have M:=Z.E W O;have f:=E.E W O;have l:=j.E W O;have n:=W.cell d O;refine gE ?_;refine AD (fK X t S xs m p B k i x (c.ext W) U V F) rfl ?_;rintro _ L⟨rfl,a⟩;refine AB ⟨Ext X,fun _ e=>e,a,?_⟩;by_cases s:D0 S x i=T
 ·refine gR ?_;exact⟨congrArg Value.bool (GB (by simp[s])),W.Q a⟩
 ·refine gR ?_;exact⟨congrArg Value.bool (GB (by simp[s])),W.Q a⟩
def mN(b o:Nat)(c:LU)(T:Int)(h:LwG w c1 c3 t S xs m p B)(P:knS S c T=true)(q1:CC w b (o+1) (AA c))(q2:CC w b (o+2) (iV T)):
  Fn Zp 242 [.pointer (sn b o),vv,pt c1] w fun u w'=>Tru w' u (B+p) (fun k=>tv (wdG S xs m p k c=T))/\Ext w w':=by
 obtain⟨r,Q,a4,a5⟩:=h.ax.len;obtain⟨i,s,C,E,a6⟩:=XY P;have N:=(Ah.1 E).1;have K:EW S c=(i:Int):=by unfold EW;rw[C]
 have R:∀x,vlS S x c=D0 S x i:=fun x=>by unfold vlS;rw[C]
 refine AM func242 rfl ntmps242 (go ?_);refine Ac (L:=[.pointer (sn b o)]) rfl (fun w1 D=>?_);have Z:=h.ext D.E;have z:=D.D;have a0:=D.E.cell q1 O;have H:=D.E.cell q2 O;obtain⟨_,sa,sc,lb,lo,lc,j,M,_⟩:=id Z.ax;refine go ?_;refine Ab (rd 0 8 (.alt 8 (.alt 9 (.alt 10 .done .stop) .stop) (.alt 9 (.alt 8 (.alt 10 .done .stop) .stop) .stop))) AX rD (fun X d ed=>⟨Ext X,?_,?_⟩)
 ·exact sY
 have a1:=Z.b1.E d O;have a3:=j.E d O;have a2:=z.E d O;have a7:=d.cell a0 O;refine go ?_;refine D_A rfl ?_ (D_E rfl ?_)
 ·refine AD (Kh X _ S c (M.ext d)) rfl ?_;rintro _ X⟨rfl,rfl⟩;rw[K];refine AB ⟨Ext X,fun _ e=>e,Ext.refl _,?_⟩;refine D_E rfl ?_;refine Ai (fun I a=>?_);exact sN
 ·refine Ai (fun I a=>?_);refine AB ⟨Ext X,fun _ e=>e,a.E,?_⟩;refine D_E rfl ?_;refine AD (Kh I _ S c (M.ext (d.Q a.E))) rfl ?_;rintro _ I⟨rfl,rfl⟩;rw[K];exact sN
end
end Go.Proofs.YtjbocjodncbogaaGreatDoor
