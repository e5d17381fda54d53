/- TopTextDuties, part 4 of 15: lemmas. Conditions: none. -/
import Derived.Test.YtjbocjodncbogaaGreatDoorDX3
namespace Go.Proofs.YtjbocjodncbogaaGreatDoor
open Go.RowKit Go.Proofs.Tryz
set_option linter.unusedVariables false
set_option linter.defProp false
section
variable {mk:Prop}[MK mk]
def Wl{P:List (LU×Opr)}{ts ts':List Tok}{o:Option Opr}(h:Run (Hr P) ts (.ok (o,ts'))):(∃p,o=some p/\ts'.length+1=ts.length)\/(o=none/\ts'=ts):=by
 cases ts with
 |nil=>
  have e:=h.det (Run.look (Run.ret _ _));cases e;exact .inr ⟨rfl,rfl⟩
 |cons x l=>
  have B:Run (Hr P) (x::l) (match P.lookup x.text with|some p=>.ok (some p,l)|none=>.ok (none,x::l)):=by
   refine Run.look ?_;show Run (match P.lookup x.text with|some p=>.next (.ret (some p))|none=>.ret none) _ _;cases P.lookup x.text with
   |none=>exact Run.ret _ _
   |some p=>exact Run.next (Run.ret _ _)
  have e:=h.det B;cases hl:P.lookup x.text with
  |none=>rw[hl]at e;cases e;exact .inr ⟨rfl,rfl⟩
  |some p=>rw[hl]at e;cases e;exact .inl ⟨p,rfl,rfl⟩
def lG(E:Env)(N:Nat)(hP:EV E N 327 (body .primary))(hU:∀M,M<N->EV E M 292 (body .unary)):EV E N 292 (body .unary):=by
 intro w ts h hN;have hsl:=h.st.slt;unfold PDo;refine CK func292 rfl ntmps292 nlr rD (go ?_);refine Ai (fun w1 W=>?_);have b1:Blk w1 w.heap.size 37 zero5:=W.D;have z1:=W.size;have P:=h.ext W.E;have k1:Keep [E.s] w w1:=W.E.any;obtain⟨ta,tc,hb1,_⟩:=P.st.D;have hlt:=P.st.lt;refine gC (U0 E w1 ts E.mp prefixT P.st P.st.pre U) ?_;rintro v w2⟨m,o,t2,rfl,K,q2⟩;have h2:=P.next m q2
 have b2:=b1.E m rH;have a9:=k1.Q m O;have z2:=m.size;refine go ?_;refine CL (cs:=GA o) rfl rfl rF (Og _) (fun w3 R=>?_);have h3:=h2.ext R.E;have b3:=b2.E R.E O;have z3:=R.size;have e3:=R.D;have a1:=a9.ext R.E;refine go ?_;rcases Wl K with⟨q,rfl,hl2⟩|⟨rfl,rfl⟩
 ·replace e3:Blk w3 w2.heap.size 199 [iV q.op,iV q.indexed,iV q.val]:=e3;refine go ?_;refine CL (cs:=[iV q.op,AA [],iV q.val,iV 0,nS]) rfl rfl rF (RY _ _ _ _ _ _ _ rfl rfl rfl rfl) (fun w4 C=>?_);have h4:=h3.ext C.E;have b4:=b3.E C.E O;have e4:=e3.E C.E O;have z4:=C.size;have g4:=C.D;have a5:=a1.ext C.E;refine go ?_;refine Av (Vt E w4 t2 q h4.st) rfl ?_ ?_;rotate_left
  ·rintro ch wq⟨z,B,g,rfl⟩;refine go ?_;exact Ap ⟨a5.Q z O,B,K.bind (Run.bindE g),rfl⟩
  rintro v V⟨x,n,Z,p,q5,rfl,b5,hn1⟩;have h5:=h4.next x q5
  have r:=b4.E x rH;have e5:=e4.E x rH;have g5:=g4.E x rH;have a2:=a5.Q x O;have z5:=x.size;have l5:Z.length<=t2.length:=(show Z<:+t2 from p.suffix).length_le;refine go ?_;cases n with
  |none=>
   refine go ?_;refine Av (hU Z.length U V Z h5 (AO _)) rfl ?_ ?_;rotate_left
   ·rintro ch wq⟨z,B,g,rfl⟩;refine go ?_;exact Ap ⟨a2.Q z O,B,K.bind (p.bind (Run.callE g)),rfl⟩
   rintro v w7⟨u,a,t7,r7,l,H⟩;have h7:=(h5).next u l
   have b7:=(r).E u rH;have g7:=(g5).E u rH;have a3:=(a2).Q u O;have z7:=u.size;obtain⟨y,rfl,Q,a8⟩:=H.cells
   obtain⟨j,I,D,i,t,rfl⟩:∃j I D i t,y=[j,I,D,i,t]:=by
    match y,Q with
    | [j,I,D,i,t],_=>exact⟨_,_,_,_,_,rfl⟩
   refine Ay (out:=[j,I,D,i,t]) rfl U rP (fun w8 k=>?_);have z8:=k.size;have b8:=b7.E k.E O;have g8:=g7.E k.E O;obtain⟨S8,X⟩:=FsAt.fresh (ok:=fun b=>V.heap.size<=b) (L:=[[j,I,D,i,t]]) k (FsAt.one (H.mono fun b S=>by simp only[fresh]at S⊢;omega) rfl) U O;refine go ?_;refine AW rfl rfl rfl g8 O (fun w9 d=>?_);have b9:=b8.E d.E rH;have g9:=d.D;have z9:=d.size;have F:=(FAt.node (q.op) [] q.val (0) S8 X).E d.E re;refine go ?_;refine Cv rfl rfl F b9 rfl (fun b0 a7 e a0 A z10 G=>go ?_);refine Ar rfl rfl a0 G.cells ⟨((a3.ext k.E).Q d.E rH).Q A rH,_,t7,K.bind (p.bind (Run.call r7 (Run.ret _ _))),((l.ext k.E).E d.E rH).E A rH,?_⟩;rw[<-e];show FAt _ _ _ (⟨q.op,[],q.val,0,[a]⟩:Fml);exact(F.E A re).mono (fun b S=>by simp only[fresh]at S⊢;omega)
  |some n=>
   refine go ?_;refine AW rfl rfl rfl g5 O (fun w6 c=>go ?_);refine AW rfl rfl rfl c.D O (fun a4 T=>?_);have g6:Blk a4 w3.heap.size 37 [iV q.indexed,AA [],iV q.val,iV n,nS]:=T.D;have h6:=(h5.E c.E rH).E T.E rH;have b6:=(r.E c.E rH).E T.E rH;have a6:=(a2.Q c.E rH).Q T.E rH;have z6:a4.heap.size=V.heap.size:=by rw[T.size,c.size]
   refine go ?_;refine Av (hU Z.length U a4 Z h6 (AO _)) rfl ?_ ?_;rotate_left
   ·rintro ch wq⟨z,B,g,rfl⟩;refine go ?_;exact Ap ⟨a6.Q z O,B,K.bind (p.bind (Run.callE g)),rfl⟩
   rintro v w7⟨u,a,t7,r7,l,H⟩;have h7:=(h6).next u l
   have b7:=(b6).E u rH;have g7:=(g6).E u rH;have a3:=(a6).Q u O;have z7:=u.size;obtain⟨y,rfl,Q,a8⟩:=H.cells
   obtain⟨j,I,D,i,t,rfl⟩:∃j I D i t,y=[j,I,D,i,t]:=by
    match y,Q with
    | [j,I,D,i,t],_=>exact⟨_,_,_,_,_,rfl⟩
   refine Ay (out:=[j,I,D,i,t]) rfl U rP (fun w8 k=>?_);have z8:=k.size;have b8:=b7.E k.E O;have g8:=g7.E k.E O;obtain⟨S8,X⟩:=FsAt.fresh (ok:=fun b=>V.heap.size<=b) (L:=[[j,I,D,i,t]]) k (FsAt.one (H.mono fun b S=>by simp only[fresh]at S⊢;omega) rfl) U O;refine go ?_;refine AW rfl rfl rfl g8 O (fun w9 d=>?_);have b9:=b8.E d.E rH;have g9:=d.D;have z9:=d.size;have F:=(FAt.node (q.indexed) [] q.val (n) S8 X).E d.E re;refine go ?_;refine Cv rfl rfl F b9 rfl (fun b0 a7 e a0 A z10 G=>go ?_);refine Ar rfl rfl a0 G.cells ⟨((a3.ext k.E).Q d.E rH).Q A rH,_,t7,K.bind (p.bind (Run.call r7 (Run.ret _ _))),((l.ext k.E).E d.E rH).E A rH,?_⟩;rw[<-e];show FAt _ _ _ (⟨q.indexed,[],q.val,n,[a]⟩:Fml);exact(F.E A re).mono (fun b S=>by simp only[fresh]at S⊢;omega)
 ·refine go ?_;refine Av (hP w3 _ h3 hN) rfl ?_ ?_;rotate_left
  ·rintro ch wq⟨z,B,g,rfl⟩;refine go ?_;exact Ap ⟨a1.Q z O,B,K.bind (Run.callE g),rfl⟩
  rintro v w4⟨k4,f,t4,r4,q4,f4⟩;have b4:=b3.E k4 rH;have z4:=k4.size;refine Cv rfl rfl f4 b4 rfl (fun V y e Q x z5 r=>go ?_);refine Ar rfl rfl Q r.cells ⟨(a1.Q k4 O).Q x rH,f,t4,K.bind (Run.call r4 (Run.ret _ _)),q4.E x rH,?_⟩;rw[<-e];exact(f4.E x rS).mono (fun b S=>by simp only[fresh]at S⊢;omega)
def dT(E:Env)(N:Nat)(hP:EV E N 292 (body .unary))(hU:∀M,M<N->EV E M 213 (body .untilN)):EV E N 213 (body .untilN):=by
 intro w ts h hN;have c5:=h.st.slt;unfold PDo;refine CK func213 rfl ntmps213 nlr rD (go ?_);refine Ai (fun w1 n1=>?_);have b1:Blk w1 w.heap.size 37 zero5:=n1.D;have z1:=n1.size;have h1:=h.ext n1.E;have k1:Keep [E.s] w w1:=n1.E.any;refine go ?_;refine Av (hP w1 ts h1 hN) rfl ?_ ?_;rotate_left
 ·rintro ch wq⟨u,y,C,rfl⟩;refine go ?_;exact Ap ⟨k1.Q u O,y,Run.callE C,rfl⟩
 rintro v w2⟨k2,a1,t2,K,q2,f2⟩;have h2:=h1.next k2 q2
 have b2:=b1.E k2 rH;have k12:=k1.Q k2 O;have z2:=k2.size;have l2:t2.length<=ts.length:=(show t2<:+ts from K.suffix).length_le;replace f2:=f2.lt;obtain⟨cs,rfl,a4,hone⟩:=f2.cells;obtain⟨m,r,D,i,t,rfl⟩:=An a4;refine CL (cs:=[m,r,D,i,t]) rfl rfl rF hone (fun w3 Q=>?_);have R:=h2.ext Q.E;have b3:=b2.E Q.E O;have z3:=Q.size;have e3:=Q.D;have f3:=f2.new Q;have k13:=k12.ext Q.E;obtain⟨ta,tc,c0,_⟩:=R.st.D;have c2:=R.st.lt;refine gC (U0 E w3 t2 E.mi infixT R.st R.st.inf U) ?_;rintro v w4⟨F,o,t4,rfl,B,q4⟩;have h4:=R.next F q4
 have b4:=b3.E F rH;have e4:=e3.E F rH;have f4:=f3.E F rS;have k14:=k13.Q F O;have z4:=F.size;refine go ?_;refine CL (cs:=GA o) rfl rfl rF (Og _) (fun c z=>?_);have h5:=h4.ext z.E;have b5:=b4.E z.E O;have e5:=e4.E z.E O;have f5:=f4.new z;have z5:=z.size;have g5:=z.D;have a9:=k14.ext z.E;refine go ?_;rcases Wl B with⟨q,rfl,c1⟩|⟨rfl,rfl⟩
 ·replace g5:Blk c w4.heap.size 199 [iV q.op,iV q.indexed,iV q.val]:=g5;refine go ?_;refine CL (cs:=[iV q.op,AA [],iV q.val,iV 0,nS]) rfl rfl rF (RY _ _ _ _ _ _ _ rfl rfl rfl rfl) (fun w6 j=>?_);have h6:=h5.ext j.E;have b6:=b5.E j.E O;have e6:=e5.E j.E O;have f6:=f5.new j;have g6:=g5.E j.E O;have z6:=j.size;have u6:=j.D;have b0:=a9.ext j.E;refine go ?_;refine Av (Vt E w6 t4 q h6.st) rfl ?_ ?_;rotate_left
  ·rintro ch wq⟨u,y,C,rfl⟩;refine go ?_;exact Ap ⟨b0.Q u O,y,Run.call K (B.bind (Run.bindE C)),rfl⟩
  rintro v wi⟨T,n,Z,p,qi,rfl,c3,c4⟩;have hi:=h6.next T qi
  have bi:=b6.E T rH;have ei:=e6.E T rH;have fi:=f6.E T rS;have ui:=u6.E T rH;have a8:=b0.Q T O;have zi:=T.size;have l5:Z.length<=t4.length:=(show Z<:+t4 from p.suffix).length_le;refine go ?_;cases n with
  |none=>
   refine go ?_;refine DY (.read 0 (.read 1 (.alt 2 (.alt 3 (.read 4 (.alt 5 .done .stop)) .stop) .stop))) AX rD (by repeat (first|exact Dg|refine De ?_)) (fun X d ed=>⟨fun W=>Keep [E.s,c.heap.size] X W,?_,?_⟩)
   ·exact tK
   have x:=(hi).ext d;have bd:=(bi).E d O;have gd:=(ui).E d O;have ed3:=(ei).E d O;have a3:=(fi).ext d;have zd:X.heap.size=(wi).heap.size:=by rw[ed]
   have fc:∀W,Keep [E.s,c.heap.size] X W->Cells W w2.heap.size 0 [m,r,D,i,t]:=fun W I=>(ed3.E I rH).cells;((apply D_R rfl rfl;(intro W I;refine Al rfl rF (fc W I) ?_;exact Z3))<;>refine D_R rfl rfl (fun W I=>Aq rfl Z3) ?_)
   refine D_E rfl ?_;refine Av (hU Z.length U X Z x (AO _)) rfl ?_ ?_;rotate_left
   ·rintro ch wq⟨u,y,C,rfl⟩;refine go ?_;exact Ap ⟨((a8).ext d).Q u O,y,Run.call K (B.bind (p.bind (Run.callE C))),rfl⟩
   rintro v w7⟨a,a2,t7,r7,l,H⟩;have h7:=x.next a l
   have b7:=bd.E a rH;have g7:=gd.E a rH;have f37:=a3.E a rS;have a7:=((a8).ext d).Q a O;have z7:=a.size;obtain⟨ds,rfl,a6,hone2⟩:=H.cells;obtain⟨d0,P,V,d3,G,rfl⟩:=An a6;refine AB ⟨fun W=>Keep [E.s,c.heap.size] w7 W,fun W I=>(a.mono O).Q I O,Keep.refl _ _,?_⟩;refine D_E rfl ?_;refine Ay (out:=[m,r,D,i,t,d0,P,V,d3,G]) rfl U rZ (fun w8 k=>?_);have z8:=k.size;have b8:=b7.E k.E O;have g8:=g7.E k.E O;obtain⟨S8,F8⟩:=FsAt.fresh (ok:=fun b=>w.heap.size<b/\b≠c.heap.size) (L:=[[m,r,D,i,t],[d0,P,V,d3,G]]) k (FsAt.two (f37.mono fun b S=>by simp only[fresh]at S⊢;omega) rfl (H.mono fun b S=>by simp only[fresh]at S⊢;omega) rfl) U O;refine AB ⟨fun W=>Keep [E.s,c.heap.size] w8 W,fun W I=>k.E.any.Q I O,Keep.refl _ _,?_⟩;refine gE ?_;refine AW rfl rfl rfl g8 O (fun w9 f=>?_);have b9:=b8.E f.E rH;have g9:=f.D;have z9:=f.size;have f9:=(FAt.node q.op [] (q.val) 0 S8 F8).E f.E re;refine AB ⟨fun W=>W=w9,fun W I=>I▸f.E.mono O,rfl,?_⟩;refine go ?_;refine Cv rfl rfl f9 b9 rfl (fun w10 cs' e a5 A z10 a0=>go ?_);refine Ar rfl rfl a5 a0.cells ⟨((a7.ext k.E).Q f.E rH).Q A rH,⟨q.op,[],q.val,0,[a1,a2]⟩,t7,Run.call K (B.bind (p.bind (Run.call r7 (Run.ret _ _)))),((l.ext k.E).E f.E rH).E A rH,?_⟩;rw[<-e];exact(f9.E A re).mono (fun b S=>by simp only[fresh]at S⊢;omega)
  |some n=>
   refine go ?_;refine AW rfl rfl rfl ui O (fun wj g=>?_);have uj:Blk wj c.heap.size 37 [iV q.op,AA [],iV n,iV 0,nS]:=g.D;have hj:=hi.E g.E rH;have bj:=bi.E g.E rH;have ej:=ei.E g.E rH;have fj:=fi.E g.E rS;have kwj:=a8.Q g.E rH;have zj:=g.size;refine go ?_;refine DY (.read 0 (.read 1 (.alt 2 (.alt 3 (.read 4 (.alt 5 .done .stop)) .stop) .stop))) AX rD (by repeat (first|exact Dg|refine De ?_)) (fun X d ed=>⟨fun W=>Keep [E.s,c.heap.size] X W,?_,?_⟩)
   ·exact tK
   have x:=(hj).ext d;have bd:=(bj).E d O;have gd:=(uj).E d O;have ed3:=(ej).E d O;have a3:=(fj).ext d;have zd:X.heap.size=(wj).heap.size:=by rw[ed]
   have fc:∀W,Keep [E.s,c.heap.size] X W->Cells W w2.heap.size 0 [m,r,D,i,t]:=fun W I=>(ed3.E I rH).cells;((apply D_R rfl rfl;(intro W I;refine Al rfl rF (fc W I) ?_;exact Z3))<;>refine D_R rfl rfl (fun W I=>Aq rfl Z3) ?_)
   refine D_E rfl ?_;refine Av (hU Z.length U X Z x (AO _)) rfl ?_ ?_;rotate_left
   ·rintro ch wq⟨u,y,C,rfl⟩;refine go ?_;exact Ap ⟨((kwj).ext d).Q u O,y,Run.call K (B.bind (p.bind (Run.callE C))),rfl⟩
   rintro v w7⟨a,a2,t7,r7,l,H⟩;have h7:=x.next a l
   have b7:=bd.E a rH;have g7:=gd.E a rH;have f37:=a3.E a rS;have a7:=((kwj).ext d).Q a O;have z7:=a.size;obtain⟨ds,rfl,a6,hone2⟩:=H.cells;obtain⟨d0,P,V,d3,G,rfl⟩:=An a6;refine AB ⟨fun W=>Keep [E.s,c.heap.size] w7 W,fun W I=>(a.mono O).Q I O,Keep.refl _ _,?_⟩;refine D_E rfl ?_;refine Ay (out:=[m,r,D,i,t,d0,P,V,d3,G]) rfl U rZ (fun w8 k=>?_);have z8:=k.size;have b8:=b7.E k.E O;have g8:=g7.E k.E O;obtain⟨S8,F8⟩:=FsAt.fresh (ok:=fun b=>w.heap.size<b/\b≠c.heap.size) (L:=[[m,r,D,i,t],[d0,P,V,d3,G]]) k (FsAt.two (f37.mono fun b S=>by simp only[fresh]at S⊢;omega) rfl (H.mono fun b S=>by simp only[fresh]at S⊢;omega) rfl) U O;refine AB ⟨fun W=>Keep [E.s,c.heap.size] w8 W,fun W I=>k.E.any.Q I O,Keep.refl _ _,?_⟩;refine gE ?_;refine AW rfl rfl rfl g8 O (fun w9 f=>?_);have b9:=b8.E f.E rH;have g9:=f.D;have z9:=f.size;have f9:=(FAt.node q.op [] (n) 0 S8 F8).E f.E re;refine AB ⟨fun W=>W=w9,fun W I=>I▸f.E.mono O,rfl,?_⟩;refine go ?_;refine Cv rfl rfl f9 b9 rfl (fun w10 cs' e a5 A z10 a0=>go ?_);refine Ar rfl rfl a5 a0.cells ⟨((a7.ext k.E).Q f.E rH).Q A rH,⟨q.op,[],n,0,[a1,a2]⟩,t7,Run.call K (B.bind (p.bind (Run.call r7 (Run.ret _ _)))),((l.ext k.E).E f.E rH).E A rH,?_⟩;rw[<-e];exact(f9.E A re).mono (fun b S=>by simp only[fresh]at S⊢;omega)
 ·refine go ?_;refine Cv rfl rfl f5 b5 rfl (fun w6 cs e a4 k6 z6 b6=>go ?_);refine Ar rfl rfl a4 b6.cells ⟨a9.Q k6 rH,a1,_,Run.call K (B.bind (Run.ret _ _)),h5.st.E k6 rH,?_⟩;rw[<-e];exact(f5.E k6 rS).mono (fun b S=>by simp only[fresh]at S⊢;omega)
def cQ:ChainP [38] (body .untilN) (body .andL) where
 done h:=by
  rcases Lt h with⟨e,_⟩|⟨_,_,_⟩
  ·cases e
  ·exact h.bind (Run.ret _ _)
 more h h1 h2:=h.bind (Run.call h1 (Run.call h2 (Run.ret _ _)))
 err1 h h1:=h.bind (Run.callE h1)
 err2 h h1 h2:=h.bind (Run.call h1 (Run.callE h2))
def eF:ChainP [124] (body .andN) (body .orL) where
 done h:=by
  rcases Lt h with⟨e,_⟩|⟨_,_,_⟩
  ·cases e
  ·exact h.bind (Run.ret _ _)
 more h h1 h2:=h.bind (Run.call h1 (Run.call h2 (Run.ret _ _)))
 err1 h h1:=h.bind (Run.callE h1)
 err2 h h1 h2:=h.bind (Run.call h1 (Run.callE h2))
def pE(E:Env)(N:Nat)(V:EV E N 213 (body .untilN)):EV E N 169 (body .andN):=by
 intro w n h u;have a0:=h.st.slt;unfold PDo;refine CK func169 rfl ntmps169 nlr rD (go ?_);refine Ai (fun Q D=>?_);have q:Blk Q w.heap.size 37 zero5:=D.D;have z1:=D.size;have Z:=h.ext D.E;have d:Keep [E.s] w Q:=D.E.any;refine go ?_;refine Av (Vc E N 213 [38] (body .untilN) (body .andL) cQ V Q n Z u) rfl ?_ ?_;rotate_left
 ·rintro y wq⟨x,A,B,rfl⟩;refine go ?_;refine Ap ⟨d.Q x O,A,?_,rfl⟩;rcases B.bind_inv with⟨a,C,X,P⟩|⟨e,X,P⟩
  ·rcases P.bind_inv with⟨l,z,c,k⟩|⟨e,c,k⟩
   ·cases k.det (Run.ret _ _)
   ·cases k;exact Run.call X (Run.callE c)
  ·cases P;exact Run.callE X
 rintro v W⟨m,l,T,K,j,H,F,L,rfl,M,I,R⟩;have h2:=Z.next m j
 have r:=q.E m rH;have G:=d.Q m O;have z2:=m.size;refine AD (Uz W 5 (fresh Q) H F L l I R M) rfl ?_;rintro v w3⟨g,i⟩;have t:=r.E g O;refine Cv rfl rfl i t rfl (fun w4 cs e o f z4 p=>go ?_);refine Ar rfl rfl o p.cells ⟨(G.ext g).Q f rH,LL 5 l,T,?_,(j.ext g).E f rH,?_⟩
 ·rcases K.bind_inv with⟨a,C,X,P⟩|⟨e,X,P⟩
  ·rcases P.bind_inv with⟨l,z,c,k⟩|⟨e,c,k⟩
   ·cases k.det (Run.ret _ _);exact Run.call X (Run.call c (Run.ret _ _))
   ·cases k
  ·cases P
 ·rw[<-e];exact(i.E f rS).mono (fun b S=>by simp only[fresh]at S⊢;omega)
def qr(E:Env)(N:Nat)(V:EV E N 169 (body .andN)):EV E N 109 (body .orN):=by
 intro w n h u;have a0:=h.st.slt;unfold PDo;refine CK func109 rfl ntmps109 nlr rD (go ?_);refine Ai (fun Q D=>?_);have q:Blk Q w.heap.size 37 zero5:=D.D;have z1:=D.size;have Z:=h.ext D.E;have d:Keep [E.s] w Q:=D.E.any;refine go ?_;refine Av (Vc E N 169 [124] (body .andN) (body .orL) eF V Q n Z u) rfl ?_ ?_;rotate_left
 ·rintro y wq⟨x,A,B,rfl⟩;refine go ?_;refine Ap ⟨d.Q x O,A,?_,rfl⟩;rcases B.bind_inv with⟨a,C,X,P⟩|⟨e,X,P⟩
  ·rcases P.bind_inv with⟨l,z,c,k⟩|⟨e,c,k⟩
   ·cases k.det (Run.ret _ _)
   ·cases k;exact Run.call X (Run.callE c)
  ·cases P;exact Run.callE X
 rintro v W⟨m,l,T,K,j,H,F,L,rfl,M,I,R⟩;have h2:=Z.next m j
 have r:=q.E m rH;have G:=d.Q m O;have z2:=m.size;refine AD (Uz W 6 (fresh Q) H F L l I R M) rfl ?_;rintro v w3⟨g,i⟩;have t:=r.E g O;refine Cv rfl rfl i t rfl (fun w4 cs e o f z4 p=>go ?_);refine Ar rfl rfl o p.cells ⟨(G.ext g).Q f rH,LL 6 l,T,?_,(j.ext g).E f rH,?_⟩
 ·rcases K.bind_inv with⟨a,C,X,P⟩|⟨e,X,P⟩
  ·rcases P.bind_inv with⟨l,z,c,k⟩|⟨e,c,k⟩
   ·cases k.det (Run.ret _ _);exact Run.call X (Run.call c (Run.ret _ _))
   ·cases k
  ·cases P
 ·rw[<-e];exact(i.E f rS).mono (fun b S=>by simp only[fresh]at S⊢;omega)
def cm(E:Env)(N:Nat)(hP:EV E N 109 (body .orN))(hU:∀M,M<N->EV E M 46 (body .formula)):EV E N 46 (body .formula):=by
 intro w n h hN;have b4:=h.st.slt;unfold PDo;refine CK func46 rfl ntmps46 nlr rD (go ?_);refine Ai (fun Q u=>?_);have b1:Blk Q w.heap.size 37 zero5:=u.D;have z1:=u.size;have h1:=h.ext u.E;have k1:Keep [E.s] w Q:=u.E.any;refine go ?_;refine Av (hP Q n h1 hN) rfl ?_ ?_;rotate_left
 ·rintro ch wq⟨z,C,g,rfl⟩;refine go ?_;exact Ap ⟨k1.Q z O,C,Run.callE g,rfl⟩
 rintro v w2⟨m,B,R,K,q2,t⟩;have h2:=h1.next m q2
 have b2:=b1.E m rH;have a7:=k1.Q m O;have z2:=m.size;have l2:R.length<=n.length:=(show R<:+n from K.suffix).length_le;replace t:=t.lt;obtain⟨T,rfl,o,a6⟩:=t.cells;obtain⟨j,l,D,i,r,rfl⟩:=An o;refine CL (cs:=[j,l,D,i,r]) rfl rfl rF a6 (fun w3 d=>?_);have h3:=h2.ext d.E;have b3:=b2.E d.E O;have z3:=d.size;have e3:=d.D;have f3:=t.new d;have a8:=a7.ext d.E;refine gC (HH E w3 R [45,62] h3.st) ?_;rintro _ w4⟨a,b,t4,rfl,x,q4⟩;have h4:=h3.next a q4
 have p:=b3.E a rH;have e4:=e3.E a rH;have y:=f3.E a rS;have F:=a8.Q a O;have z4:=a.size;refine go ?_;rcases Lt x with⟨rfl,hl4,_,_⟩|⟨rfl,rfl,_⟩
 ·refine go ?_;refine DY (.read 0 (.read 1 (.alt 2 (.alt 3 (.read 4 (.alt 5 .done .stop)) .stop) .stop))) AX rD (by repeat (first|exact Dg|refine De ?_)) (fun X c ed=>⟨fun W=>Keep [E.s,w.heap.size] X W,?_,?_⟩)
  ·exact tK
  have hd:=h4.ext c;have bd:=p.E c O;have a1:=e4.E c O;have a3:=y.ext c;have zd:X.heap.size=w4.heap.size:=by rw[ed]
  have fc:∀W,Keep [E.s,w.heap.size] X W->Cells W w2.heap.size 0 [j,l,D,i,r]:=fun W I=>(a1.E I rH).cells;((apply D_R rfl rfl;(intro W I;refine Al rfl rF (fc W I) ?_;exact Z3))<;>refine D_R rfl rfl (fun W I=>Aq rfl Z3) ?_)
  refine D_E rfl ?_;refine Av (hU t4.length U X t4 hd (AO _)) rfl ?_ ?_;rotate_left
  ·rintro ch wq⟨z,C,g,rfl⟩;refine go ?_;exact Ap ⟨(F.ext c).Q z O,C,Run.call K (x.bind (Run.callE g)),rfl⟩
  rintro v w7⟨f,a2,t7,r7,q7,H⟩;have b7:=bd.E f rH;have f37:=a3.E f rS;have a9:=(F.ext c).Q f O;have z7:=f.size;obtain⟨ds,rfl,a5,hone2⟩:=H.cells;obtain⟨Z,P,V,d3,G,rfl⟩:=An a5;refine AB ⟨fun W=>Keep [E.s,w.heap.size] w7 W,fun W I=>(f.mono O).Q I O,Keep.refl _ _,?_⟩;refine D_E rfl ?_;refine Ay (out:=[j,l,D,i,r,Z,P,V,d3,G]) rfl U rZ (fun w8 k=>?_);have z8:=k.size;have b8:=b7.E k.E O;obtain⟨S8,F8⟩:=FsAt.fresh (ok:=fun b=>w.heap.size<b) (L:=[[j,l,D,i,r],[Z,P,V,d3,G]]) k (FsAt.two (f37.mono fun b S=>by simp only[fresh]at S⊢;omega) rfl (H.mono fun b S=>by simp only[fresh]at S⊢;omega) rfl) U O;refine AB ⟨fun W=>Keep [E.s,w.heap.size] w8 W,fun W I=>k.E.any.Q I O,Keep.refl _ _,?_⟩;have f8:=FAt.node 7 [] 0 0 S8 F8;refine gE ?_;refine Cv rfl rfl f8 b8 rfl (fun b0 cs' e a4 A b5 a0=>?_);refine AB ⟨fun W=>W=b0,fun W I=>I▸A.mono O,rfl,?_⟩;refine go ?_;refine Ar rfl rfl a4 a0.cells ⟨(a9.ext k.E).Q A rH,⟨7,[],0,0,[B,a2]⟩,t7,Run.call K (x.bind (Run.call r7 (Run.ret _ _))),(q7.ext k.E).E A rH,?_⟩;rw[<-e];exact(f8.E A re).mono (fun b S=>by simp only[fresh]at S⊢;omega)
 ·refine go ?_;refine Cv rfl rfl y p rfl (fun w6 T e o q z6 b6=>go ?_);refine Ar rfl rfl o b6.cells ⟨F.Q q rH,B,_,Run.call K (x.bind (Run.ret _ _)),h4.st.E q rH,?_⟩;rw[<-e];exact(y.E q rS).mono (fun b S=>by simp only[fresh]at S⊢;omega)
def TX(E:Env)(N:Nat):EV E N 327 (body .primary)/\EV E N 292 (body .unary)/\EV E N 213 (body .untilN)/\EV E N 46 (body .formula):=by
 induction N using Nat.strongRecOn with
 |_ N ih=>
  have Z:=dS E N fun M F=>(ih M F).2.2.2;have W:=lG E N Z fun M F=>(ih M F).2.1;have R:=dT E N W fun M F=>(ih M F).2.2.1;exact⟨Z,W,R,cm E N (qr E N (pE E N R)) fun M F=>(ih M F).2.2.2⟩
def qm{α:Type}(R:Rp α)(b:0<R.size):Rp (List α) where
 fits ok w c l:=∃v,c=[v]/\SlAt R ok w v l
 size:=1
 len h:=by obtain⟨v,rfl,_⟩:=h;rfl
 one h:=by obtain⟨v,rfl,a,c,L,rfl,_⟩:=h;intro u o;simp at o;subst o;rfl
 E h k hX:=by obtain⟨v,e,a,c,L,s,Z,W⟩:=h;exact⟨v,e,a,c,L,s,Z.E k hX,W.E k hX⟩
 lt h:=by obtain⟨v,e,a,c,L,s,Z,W⟩:=h;exact⟨v,e,a,c,L,s,PJ b Z W,W.lt⟩
 mono h hk:=by obtain⟨v,e,a,c,L,s,Z,W⟩:=h;exact⟨v,e,a,c,L,s,Z.mono hk,W.mono hk⟩
structure WhileP{α:Type}(pm:G Bool)(pi:G α)(pl:G (List α)):Prop where
 done:∀{t},Run pm t (.ok (false,t))->Run pl t (.ok ([],t))
 more:∀{t t2 t3 a l},Run pm t (.ok (true,t))->Run pi t (.ok (a,t2))->Run pl t2 (.ok (l,t3))->Run pl t (.ok (a::l,t3))
 err1:∀{t e},Run pm t (.ok (true,t))->Run pi t (.error e)->Run pl t (.error e)
 err2:∀{t t2 a e},Run pm t (.ok (true,t))->Run pi t (.ok (a,t2))->Run pl t2 (.error e)->Run pl t (.error e)
 less:∀{t t2 a},Run pm t (.ok (true,t))->Run pi t (.ok (a,t2))->t2.length<t.length
def Gr{α:Type}(l:List α):Ans (List α)->Ans (List α)
 | .ok y=>.ok (l++y.1,y.2)
 | .error e=>.error e
def WhileP.step{α:Type}{pm:G Bool}{D:G α}{b:G (List α)}(h:WhileP pm D b){t c:List Tok}{a:α}(Z:Run pm t (.ok (true,t)))(W:Run D t (.ok (a,c))){r:Ans (List α)}(B:Run b c r):Run b t (Gr [a] r):=by
 cases r with
 |ok y=>exact h.more Z W B
 |error e=>exact h.err2 Z W B
def Q7{α:Type}(l m:List α)(r:Ans (List α)):Gr l (Gr m r)=Gr (l++m) r:=by
 cases r<;>simp[Gr]
def Q8{α:Type}(r:Ans (List α)):Gr [] r=r:=by cases r<;>simp[Gr]
def Hp{α:Type}(R:Rp α)(Q:LV->Value)(E:Env)(N:Nat)(g:FuncId)(D:G α):Prop:=∀(w:World)(n:List Tok),PW w E n->n.length<=N->PDo E g [pt E.s] w D n (fun X v a=>∃c,v=Q c/\R.fits (fresh w) X c a)
def GC(c:LV):Value:=.agg c.toArray
def Y9(c:LV):Value:=c.headD undef
def K4(E:Env)(o:World)(g:FuncId)(v1 v2:LV)(pm:G Bool):Prop:=∀(w:World)(n:List Tok),Keep [E.s] o w->PW w E n->Fn Zp g (v1++[]++v2) w (fun v X=>∃b,v=.bool b/\Run pm n (.ok (b,n))/\X=w)
def nG:(madeCells (Value.agg #[AA [],.bool false,iV 0]).cells (1*3)).toList=[AA [],.bool false,iV 0]:=by kernel_rfl
def nF:(madeCells (Value.agg #[AA [],AA [],iV 0,iV 0,AA [],iV 0,iV 0,nS]).cells (1*8)).toList=[AA [],AA [],iV 0,iV 0,AA [],iV 0,iV 0,nS]:=by kernel_rfl
def pk:(madeCells (nS).cells (1*1)).toList=[nS]:=by kernel_rfl
def pK{cs:LV}(h:cs.length=3):∃e I D,cs=[e,I,D]:=by
 match cs,h with
 | [e,I,D],_=>exact⟨_,_,_,rfl⟩
def lu{cs:LV}(h:cs.length=8):∃e I D i s b a k,cs=[e,I,D,i,s,b,a,k]:=by
 match cs,h with
 | [e,I,D,i,s,b,a,k],_=>exact⟨_,_,_,_,_,_,_,_,rfl⟩
def bl(E:Env)(N:Nat)(Q g:FuncId)[AI Zp Q][AI Zp g](v1 v2:LV)(pm:G Bool)(D:G Sgn)(F:G (List Sgn))(o:WhileP pm D F)(w:World)(ts:List Tok)(hM:K4 E w Q v1 v2 pm)
  (hI:Hp sgnR GC E N g D)(h:PW w E ts)(hN:ts.length<=N):
  PDo E 79 [.func (.func Q) v1.toArray v2.toArray,.func (.func g) #[pt E.s] #[]] w F ts (fun w' v l=>∃L,w'.ownsRow w.heap.size 129 3 v l.length L.flatten/\RsAt sgnR (fun b=>fresh w b/\v.ownBlock≠some b) w' L l):=by
 have a6:=h.st.slt;unfold PDo;refine CK func79 rfl ntmps79 nlr rD (go ?_)
 refine Aj (α:=Value×List (LV)×List _×List Tok) (fun x=>[(0,.func (.func Q) v1.toArray v2.toArray),(1,.func (.func g) #[pt E.s] #[]),(5,x.1)])
  (fun x W=>Keep [E.s] w W/\PW W E x.2.2.2/\x.2.2.1.length+x.2.2.2.length<=ts.length/\x.2.2.2.length<=ts.length/\W.ownsRow w.heap.size 129 3 x.1 x.2.2.1.length x.2.1.flatten/\RsAt (sgnR) (fun b=>fresh w b/\x.1.ownBlock≠some b) W x.2.1 x.2.2.1/\
   ∀r,Run F x.2.2.2 r->Run F ts (Gr x.2.2.1 r))
  (fun x=>x.2.2.2.length) (nS,[],[],ts) ⟨rfl,rfl,rfl,trivial⟩ ⟨Keep.refl _ _,h,by simp,AO _,⟨by simp,.inl ⟨rfl,rfl⟩⟩,RsAt.nil,fun r B=>by rw[Q8];exact B⟩ ?_
 rintro⟨v,L,l,M⟩w3 f3⟨i,R,q,a2,m,z,p⟩;simp only at i R a2 q m z p⊢;refine go ?_;refine Bg (v1:=v1) (v2:=v2) (vs:=[]) rfl (hM w3 M i R) rfl ?_;rintro _ t⟨b,rfl,H,rfl⟩;have C:∀g,v.ownBlock=some g->w.heap.size<=g/\g<t.heap.size:=fun g k=>Ao m k;have z3:=i.size;refine go ?_;cases b with
 |true=>
  refine go ?_;refine GJ (v1:=[pt E.s]) (v2:=[]) (vs:=[]) rfl (hI t M R U) rfl ?_ ?_;rotate_left
  ·exact te
  rintro u w5⟨d,a,c2,K,q5,c,rfl,f⟩;have h5:=R.next d q5
  have a5:=o.less H K;have o5:=Bf m d (fun g k=>by have:=C g k;simp;omega);have F5:=z.E d (fun b S=>by have:=S.1;simp[fresh]at this⊢;omega);have a4:=i.Q d O;have a0:=(sgnR).lt f;have z5:=d.size;have P:=(sgnR).len f;have a1:=(sgnR).one f;obtain⟨u0,u1,u2,a3⟩:=pK P;refine Ay (out:=c) rfl U (by rw[nG,a3];rfl) (fun w6 I=>?_);have z6:=I.size;have o6:=I.own (n:=1) (size:=3) P rL (AO _);have a7:=h.st.cnt;refine Bk (ok:=AL) (v:=v) (sv:=.slice (sm w5.heap.size) 1 1) rfl rfl (CD o5 I.E) (BG o6 fun _ _=>trivial) U rfl P a1 U U U (fun j A y=>go ?_);have o7:=y.own;have h7:=(h5.ext I.E).E y.E (fun x V=>by have:=C x (Aw.1 V);omega)
  have Z:∀b,j.ownBlock=some b->v.ownBlock=some b\/b=w6.heap.size:=fun b S=>by
   rcases y.D with e|e
   ·exact .inl sC
   ·rw[e]at S;exact .inr (Ae S).symm
  have F7:RsAt (sgnR) (fun b=>fresh w b/\j.ownBlock≠some b) A L l:=by
   refine((F5.lt.ext I.E).E y.E ?_).mono ?_
   ·rintro b⟨⟨_,S⟩,_⟩V;exact S (Aw.1 V)
   ·rintro b⟨⟨h1,S⟩,T⟩;refine⟨h1,fun e=>?_⟩;rcases Z b e with e|e
    ·exact S e
    ·omega
  have f7:(sgnR).fits (fun b=>fresh w b/\j.ownBlock≠some b) A c a:=by
   refine(sgnR).mono ((sgnR).E ((sgnR).ext a0 I.E) y.E ?_) ?_
   ·rintro b⟨S,T⟩V;have:=C b (Aw.1 V);simp[fresh]at S;omega
   ·rintro b⟨S,T⟩;simp only[fresh]at S⊢;refine⟨by omega,fun e=>?_⟩;rcases Z b e with e|e
    ·have:=C b e;omega
    ·omega
  refine⟨(j,L++[c],l++[a],c2),⟨rfl,⟨rfl,rfl,rfl,trivial⟩,⟨?_,h7,by simp only[A9,C9,FP]at q⊢;omega,by simp only;omega,?_,F7.snoc f7,fun r B=>?_⟩⟩,by simp only;omega⟩
  ·exact uD
  ·exact tn
  ·rw[<-Q7];exact p _ (o.step H K B)
 |false=>
  exact sx
def bk(E:Env)(N:Nat)(Q g:FuncId)[AI Zp Q][AI Zp g](v1 v2:LV)(pm:G Bool)(D:G Rqm)(F:G (List Rqm))(o:WhileP pm D F)(w:World)(ts:List Tok)(hM:K4 E w Q v1 v2 pm)
  (hI:Hp reqR GC E N g D)(h:PW w E ts)(hN:ts.length<=N):
  PDo E 137 [.func (.func Q) v1.toArray v2.toArray,.func (.func g) #[pt E.s] #[]] w F ts (fun w' v l=>∃L,w'.ownsRow w.heap.size 57 8 v l.length L.flatten/\RsAt reqR (fun b=>fresh w b/\v.ownBlock≠some b) w' L l):=by
 have a6:=h.st.slt;unfold PDo;refine CK func137 rfl ntmps137 nlr rD (go ?_)
 refine Aj (α:=Value×List (LV)×List _×List Tok) (fun x=>[(0,.func (.func Q) v1.toArray v2.toArray),(1,.func (.func g) #[pt E.s] #[]),(5,x.1)])
  (fun x W=>Keep [E.s] w W/\PW W E x.2.2.2/\x.2.2.1.length+x.2.2.2.length<=ts.length/\x.2.2.2.length<=ts.length/\W.ownsRow w.heap.size 57 8 x.1 x.2.2.1.length x.2.1.flatten/\RsAt (reqR) (fun b=>fresh w b/\x.1.ownBlock≠some b) W x.2.1 x.2.2.1/\
   ∀r,Run F x.2.2.2 r->Run F ts (Gr x.2.2.1 r))
  (fun x=>x.2.2.2.length) (nS,[],[],ts) ⟨rfl,rfl,rfl,trivial⟩ ⟨Keep.refl _ _,h,by simp,AO _,⟨by simp,.inl ⟨rfl,rfl⟩⟩,RsAt.nil,fun r B=>by rw[Q8];exact B⟩ ?_
 rintro⟨v,L,l,M⟩w3 f3⟨i,R,q,a2,m,z,p⟩;simp only at i R a2 q m z p⊢;refine go ?_;refine Bg (v1:=v1) (v2:=v2) (vs:=[]) rfl (hM w3 M i R) rfl ?_;rintro _ t⟨b,rfl,H,rfl⟩;have C:∀g,v.ownBlock=some g->w.heap.size<=g/\g<t.heap.size:=fun g k=>Ao m k;have z3:=i.size;refine go ?_;cases b with
 |true=>
  refine go ?_;refine GJ (v1:=[pt E.s]) (v2:=[]) (vs:=[]) rfl (hI t M R U) rfl ?_ ?_;rotate_left
  ·exact te
  rintro u w5⟨d,a,c2,K,q5,c,rfl,f⟩;have h5:=R.next d q5
  have a5:=o.less H K;have o5:=Bf m d (fun g k=>by have:=C g k;simp;omega);have F5:=z.E d (fun b S=>by have:=S.1;simp[fresh]at this⊢;omega);have a4:=i.Q d O;have a0:=(reqR).lt f;have z5:=d.size;have P:=(reqR).len f;have a1:=(reqR).one f;obtain⟨u0,u1,u2,u3,u4,u5,u6,u7,a3⟩:=lu P;refine Ay (out:=c) rfl U (by rw[nF,a3];rfl) (fun w6 I=>?_);have z6:=I.size;have o6:=I.own (n:=1) (size:=8) P rL (AO _);have a7:=h.st.cnt;refine Bk (ok:=AL) (v:=v) (sv:=.slice (sm w5.heap.size) 1 1) rfl rfl (CD o5 I.E) (BG o6 fun _ _=>trivial) U rfl P a1 U U U (fun j A y=>go ?_);have o7:=y.own;have h7:=(h5.ext I.E).E y.E (fun x V=>by have:=C x (Aw.1 V);omega)
  have Z:∀b,j.ownBlock=some b->v.ownBlock=some b\/b=w6.heap.size:=fun b S=>by
   rcases y.D with e|e
   ·exact .inl sC
   ·rw[e]at S;exact .inr (Ae S).symm
  have F7:RsAt (reqR) (fun b=>fresh w b/\j.ownBlock≠some b) A L l:=by
   refine((F5.lt.ext I.E).E y.E ?_).mono ?_
   ·rintro b⟨⟨_,S⟩,_⟩V;exact S (Aw.1 V)
   ·rintro b⟨⟨h1,S⟩,T⟩;refine⟨h1,fun e=>?_⟩;rcases Z b e with e|e
    ·exact S e
    ·omega
  have f7:(reqR).fits (fun b=>fresh w b/\j.ownBlock≠some b) A c a:=by
   refine(reqR).mono ((reqR).E ((reqR).ext a0 I.E) y.E ?_) ?_
   ·rintro b⟨S,T⟩V;have:=C b (Aw.1 V);simp[fresh]at S;omega
   ·rintro b⟨S,T⟩;simp only[fresh]at S⊢;refine⟨by omega,fun e=>?_⟩;rcases Z b e with e|e
    ·have:=C b e;omega
    ·omega
  refine⟨(j,L++[c],l++[a],c2),⟨rfl,⟨rfl,rfl,rfl,trivial⟩,⟨?_,h7,by simp only[A9,C9,FP]at q⊢;omega,by simp only;omega,?_,F7.snoc f7,fun r B=>?_⟩⟩,by simp only;omega⟩
  ·exact uD
  ·exact tn
  ·rw[<-Q7];exact p _ (o.step H K B)
 |false=>
  exact sx
def reqsR:Rp (List Rqm):=qm reqR (by show 0<8;decide)
def gP{ok:Nat->Prop}{w:World}{c:LV}{a:List Rqm}(h:reqsR.fits ok w c a):∃H G,c=[.slice H a.length G]:=by
 obtain⟨B,f,b,d,_,u,_⟩:=h;exact⟨b,d,by rw[f,u]⟩
def aP(E:Env)(N:Nat)(Q g:FuncId)[AI Zp Q][AI Zp g](v1 v2:LV)(pm:G Bool)(D:G (List Rqm))(F:G (List (List Rqm)))(o:WhileP pm D F)(w:World)(ts:List Tok)(hM:K4 E w Q v1 v2 pm)
  (hI:Hp reqsR Y9 E N g D)(h:PW w E ts)(hN:ts.length<=N):
  PDo E 81 [.func (.func Q) v1.toArray v2.toArray,.func (.func g) #[pt E.s] #[]] w F ts (fun w' v l=>∃L,w'.ownsRow w.heap.size 23 1 v l.length L.flatten/\RsAt reqsR (fun b=>fresh w b/\v.ownBlock≠some b) w' L l):=by
 have a6:=h.st.slt;unfold PDo;refine CK func81 rfl ntmps81 nlr rD (go ?_)
 refine Aj (α:=Value×List (LV)×List _×List Tok) (fun x=>[(0,.func (.func Q) v1.toArray v2.toArray),(1,.func (.func g) #[pt E.s] #[]),(5,x.1)])
  (fun x W=>Keep [E.s] w W/\PW W E x.2.2.2/\x.2.2.1.length+x.2.2.2.length<=ts.length/\x.2.2.2.length<=ts.length/\W.ownsRow w.heap.size 23 1 x.1 x.2.2.1.length x.2.1.flatten/\RsAt (reqsR) (fun b=>fresh w b/\x.1.ownBlock≠some b) W x.2.1 x.2.2.1/\
   ∀r,Run F x.2.2.2 r->Run F ts (Gr x.2.2.1 r))
  (fun x=>x.2.2.2.length) (nS,[],[],ts) ⟨rfl,rfl,rfl,trivial⟩ ⟨Keep.refl _ _,h,by simp,AO _,⟨by simp,.inl ⟨rfl,rfl⟩⟩,RsAt.nil,fun r B=>by rw[Q8];exact B⟩ ?_
 rintro⟨v,L,l,M⟩w3 f3⟨i,R,q,a2,m,z,p⟩;simp only at i R a2 q m z p⊢;refine go ?_;refine Bg (v1:=v1) (v2:=v2) (vs:=[]) rfl (hM w3 M i R) rfl ?_;rintro _ t⟨b,rfl,H,rfl⟩;have C:∀g,v.ownBlock=some g->w.heap.size<=g/\g<t.heap.size:=fun g k=>Ao m k;have z3:=i.size;refine go ?_;cases b with
 |true=>
  refine go ?_;refine GJ (v1:=[pt E.s]) (v2:=[]) (vs:=[]) rfl (hI t M R U) rfl ?_ ?_;rotate_left
  ·exact te
  rintro u w5⟨d,a,c2,K,q5,c,rfl,f⟩;have h5:=R.next d q5
  have a5:=o.less H K;have o5:=Bf m d (fun g k=>by have:=C g k;simp;omega);have F5:=z.E d (fun b S=>by have:=S.1;simp[fresh]at this⊢;omega);have a4:=i.Q d O;have a0:=(reqsR).lt f;have z5:=d.size;have P:=(reqsR).len f;have a1:=(reqsR).one f;obtain⟨a8,a9,a3⟩:=gP f;refine Ay (out:=c) rfl U (by rw[pk,a3];rfl) (fun w6 I=>?_);have z6:=I.size;have o6:=I.own (n:=1) (size:=1) P rL (AO _);have a7:=h.st.cnt;refine Bk (ok:=AL) (v:=v) (sv:=.slice (sm w5.heap.size) 1 1) rfl rfl (CD o5 I.E) (BG o6 fun _ _=>trivial) U rfl P a1 U U U (fun j A y=>go ?_);have o7:=y.own;have h7:=(h5.ext I.E).E y.E (fun x V=>by have:=C x (Aw.1 V);omega)
  have Z:∀b,j.ownBlock=some b->v.ownBlock=some b\/b=w6.heap.size:=fun b S=>by
   rcases y.D with e|e
   ·exact .inl sC
   ·rw[e]at S;exact .inr (Ae S).symm
  have F7:RsAt (reqsR) (fun b=>fresh w b/\j.ownBlock≠some b) A L l:=by
   refine((F5.lt.ext I.E).E y.E ?_).mono ?_
   ·rintro b⟨⟨_,S⟩,_⟩V;exact S (Aw.1 V)
   ·rintro b⟨⟨h1,S⟩,T⟩;refine⟨h1,fun e=>?_⟩;rcases Z b e with e|e
    ·exact S e
    ·omega
  have f7:(reqsR).fits (fun b=>fresh w b/\j.ownBlock≠some b) A c a:=by
   refine(reqsR).mono ((reqsR).E ((reqsR).ext a0 I.E) y.E ?_) ?_
   ·rintro b⟨S,T⟩V;have:=C b (Aw.1 V);simp[fresh]at S;omega
   ·rintro b⟨S,T⟩;simp only[fresh]at S⊢;refine⟨by omega,fun e=>?_⟩;rcases Z b e with e|e
    ·have:=C b e;omega
    ·omega
  refine⟨(j,L++[c],l++[a],c2),⟨rfl,⟨rfl,rfl,rfl,trivial⟩,⟨?_,h7,by simp only[A9,C9,FP]at q⊢;omega,by simp only;omega,?_,F7.snoc f7,fun r B=>?_⟩⟩,by simp only;omega⟩
  ·exact uD
  ·exact tn
  ·rw[<-Q7];exact p _ (o.step H K B)
 |false=>
  exact sx
end
section
variable {mk:Prop}[MK mk]
attribute [local semireducible] WC AF CO B0 Cx B8 Cc CB
variable {P:Program}{all:Array Oper}
theorem dm{o:Oper}{f:Fr}{ds:DS}{w:World}{K K':Value->DS->World->Prop}{Z C:List PanicEntry->World->Prop}(G:∀v ds w,K v ds w->K' v ds w)(F:∀c w,Z c w->C c w)(h:CB P o f ds w K Z):CB P o f ds w K' C:=by
 unfold CB at h⊢;revert h;generalize (execOp (ev f) o).run P w=res;intro h;cases res with
 |halt x w'=>cases x<;>first|exact h.elim|exact F _ _ h
 |ok m w'=>
  cases m with
  |value v=>exact G _ _ _ h
  |skip=>exact G _ _ _ h
  |defer d=>exact G _ _ _ h
  |enter g args=>
   refine Gg h fun e T B=>?_;cases e with
   |returned v=>exact G _ _ _ B
   |panicked ch=>exact F _ _ B
   |outgrown=>exact B
  |round l g tmps assign body=>
   refine Ju h fun e T B=>?_;cases e with
   |returned v=>exact G _ _ _ B
   |panicked ch=>exact F _ _ B
   |outgrown=>exact B
  |_=>exact h.elim
theorem Qo{Z C:Fr->DS->List PanicEntry->World->Prop}{K K':Fr->DS->World->Prop}(G:∀f ds w,K f ds w->K' f ds w)(F:∀f ds c w,Z f ds c w->C f ds c w):∀(l:List Oper)(f:Fr)(ds:DS)(w:World),AF P all Z K l f ds w->AF P all C K' l f ds w
 | [],f,ds,w,h=>G f ds w h
 |o::rest,f,ds,w,h=>by
  unfold AF at h⊢
  split at h
  ·rename_i hg;rw[AJ hg];exact dm (fun v ds w H=>Qo G F rest _ ds w H) (fun c w H=>F _ _ _ _ H) h
  ·rename_i hg;rw[AG hg];exact Qo G F rest _ ds w h
theorem IC{n:Cf}:∀(c:Code){Q F:CQ}(_:∀e f ds w,Q e f ds w->F e f ds w)(f:Fr)(ds:DS)(w:World),WC P n c Q f ds w->WC P n c F f ds w
 | .skip,_,_,hQ,f,ds,w,h=>hQ _ f ds w h
 | .label _,_,_,hQ,f,ds,w,h=>hQ _ f ds w h
 | .ret,_,_,hQ,f,ds,w,h=>hQ _ f ds w h
 | .exit _,_,_,hQ,f,ds,w,h=>hQ _ f ds w h
 | .goto _,_,_,_,_,_,_,h=>h.elim
 | .refuse _,_,_,_,_,_,_,h=>h.elim
 | .seq a b,_,_,hQ,f,ds,w,h=>by
  refine IC a ?_ f ds w h;intro e f ds w H;cases e with
  |normal=>exact IC b hQ f ds w H
  |_=>exact hQ _ f ds w H
 | .block id c,_,_,hQ,f,ds,w,h=>by
  refine IC c ?_ f ds w h;intro e f ds w H;cases e with
  |exit i=>
   simp only[B0]at H⊢
   split at H
   ·rename_i hi;rw[AJ hi];exact hQ _ f ds w H
   ·rename_i hi;rw[AG hi];exact hQ _ f ds w H
  |_=>exact hQ _ f ds w H
 | .scope c,_,_,hQ,f,ds,w,h=>by
  refine IC c ?_ f ds w h;intro e f ds w H;cases e with
  |goto _=>exact H
  |_=>exact hQ _ f ds w H
 | .cond c x y,_,_,hQ,f,ds,w,h=>by
  simp only[WC]at h⊢;cases hc:ev f c<;>simp only[hc]at h⊢
  case bool b=>
   cases b with
   |true=>exact IC x hQ f ds w h
   |false=>exact IC y hQ f ds w h
 | .region id ops draw,_,_,hQ,f,ds,w,h=>by
  cases draw with
  |false=>exact Qo (fun f ds w H=>hQ _ f ds w H) (fun f ds c w H=>hQ _ f ds w H) ops.toList f ds w h
  |true=>exact fun a Z W R=>Hi (h a Z W R) (Up hQ)
 | .loop c,_,_,hQ,f,ds,w,h=>by
  obtain⟨α,I,μ,x,v,B⟩:=h;refine⟨α,I,μ,x,v,fun x f ds w E=>IC c ?_ f ds w (B x f ds w E)⟩;intro e f ds w H;cases e with
  |normal=>exact H
  |_=>exact hQ _ f ds w H
 | .rangeFunc g ps qs body,_,_,hQ,f,ds,w,h=>fun a Z W R=>Hi (h a Z W R) (Up hQ)
def LK{α:Type}(L:α->List (Nat×Value))(I:α->World->Prop)(ds:DS)(Q:CQ):CQ
 | .normal=>fun b a X=>∃x,a=ds/\agr (L x) b/\I x X
 |e=>Q e
section
variable {n:Cf}{Q:CQ}{f:Fr}{ds:DS}{w:World}{α:Type}{L:α->List (Nat×Value)}{I:α->World->Prop}{ds0:DS}
theorem CE{a:Code}{K:Fr->DS->World->Prop}(L:α->List (Nat×Value))(I:α->World->Prop)(Z:WC P n a (LK L I ds Q) f ds w)(W:∀x w' b,I x w'->K (ov (L x) b) ds w'):WC P n a (CO K Q) f ds w:=by
 refine IC a ?_ f ds w Z;intro e b c w' H;cases e with
 |normal=>
  obtain⟨x,rfl,G,E⟩:=H;have:=W x w' b E;rw[Q4 G]at this;exact this
 |_=>exact H
theorem Af(x:α)(G:agr (L x) f)(E:I x w):LK L I ds Q .normal f ds w:=⟨x,rfl,G,E⟩
instance:Nx (LK L I ds0 Q .ret f ds w) (0=0) (Q .ret f ds w):=⟨fun _ h=>h⟩
instance {i:Nat}:Nx (LK L I ds0 Q (.exit i) f ds w) (0=0) (Q (.exit i) f ds w):=⟨fun _ h=>h⟩
instance {c:List PanicEntry}:Nx (LK L I ds0 Q (.panic c) f ds w) (0=0) (Q (.panic c) f ds w):=⟨fun _ h=>h⟩
end
theorem Uf{P:Program}{fn:Func}{R:Value->World->Prop}{Y:List PanicEntry->World->Prop}{f:Fr}{w:World}{t u x T n b:Nat}{L:LV}[hT:DU P T n](B:fn.results.toList=[.cell t T,.tmp u,.tmp x])(G:f t=.pointer (sm b))(N:L.length=n)(a:Cells w b 0 L)(h:R (.tuple #[.agg L.toArray,f u,f x]) w):B8 P fn R Y .ret f [] w:=
 ⟨rfl,by rw[B];exact⟨_,_,G,NW hT N a,h⟩⟩
attribute [irreducible] LK
end
def FA:=@List.not_mem_nil
def FD:=@or_false
section
variable {mk:Prop}[MK mk]
def LO:LV:=[AA [],AA [],iV 0,iV 0,AA [],iV 0,iV 0,nS]
def gh(E:Env)(N:Nat):Hp sgnR GC E N 80 (body .signal):=by
 intro w ts h hN;have a9:=h.st.slt;unfold PDo;refine CK func80 rfl ntmps80 nlr rD (go ?_);refine Ai (fun Q D=>?_);have b1:Blk Q w.heap.size 129 [AA [],.bool false,iV 0]:=D.D;have z1:=D.size;have h1:=h.ext D.E;have k1:Keep [E.s] w Q:=D.E.any;refine gC (HH E Q ts [105,110,112,117,116] h1.st) ?_;rintro _ L⟨I,i,Z,rfl,K,q2⟩;have h2:=h1.next I q2
 have b2:=b1.E I rH;have a3:=k1.Q I O;have z2:=I.size;refine go ?_;refine CL (cs:=[AA [],.bool i,iV 2]) rfl rfl rF (by intro u o;simp at o;rcases o with rfl|rfl|rfl<;>rfl) (fun w3 z=>?_);have R:=h2.ext z.E;have b3:=b2.E z.E O;have z3:=z.size;have e3:=z.D;have X:=a3.ext z.E;refine go ?_
 refine CE (α:=List Tok) (fun _=>[(0,pt E.s),(2,pt w.heap.size),(3,pt L.heap.size)])
  (fun t W=>Run (if i then .ret ()else Di [111,117,116,112,117,116]:G Unit) Z (.ok ((),t))/\PW W E t/\Keep [E.s] w W/\w3.heap.size<=W.heap.size/\Blk W w.heap.size 129 [AA [],.bool false,iV 0]/\Blk W L.heap.size 129 [AA [],.bool i,iV 2]) ?_ ?_
 ·cases i with
  |true=>
   refine go ?_;exact Af Z ⟨rfl,rfl,rfl,trivial⟩ ⟨Run.ret _ _,R,X,AO _,b3,e3⟩
  |false=>
   refine go ?_;refine Av (H9 E w3 Z [111,117,116,112,117,116] R.st) rfl ?_ ?_;rotate_left
   ·rintro y wq⟨d,j,g,rfl⟩;refine go ?_;exact Ap ⟨X.Q d O,j,K.bind (Run.bindE g),rfl⟩
   rintro v w4⟨l,_,t4,k,q4,rfl⟩;refine go ?_;exact Af t4 ⟨rfl,rfl,rfl,trivial⟩ ⟨k,R.next l q4,X.Q l O,l.size,b3.E l rH,e3.E l rH⟩
 rintro t4 w4 f4⟨k,A,a0,z4,b4,e4⟩;refine go ?_;refine Av (Oh E w4 t4 A.st A.gk) rfl ?_ ?_;rotate_left
 ·rintro y wq⟨d,j,g,rfl⟩;refine go ?_;exact Ap ⟨a0.Q d O,j,K.bind (k.bind (Run.bindE g)),rfl⟩
 rintro v w5⟨q,s,t5,p,q5,rfl,hs⟩;have h5:=A.next q q5
 have b5:=b4.E q rH;have e5:=e4.E q rH;have a4:=a0.Q q O;have z5:=q.size;refine go ?_;refine AW rfl rfl rfl e5 O (fun w6 C=>?_);have h6:=h5.E C.E rH;have b6:=b5.E C.E rH;have e6:Blk w6 L.heap.size 129 [AA s,.bool i,iV 2]:=C.D;have a5:=a4.Q C.E rH;have z6:=C.size;refine gC (HH E w6 t5 [58] h6.st) ?_;rintro _ w7⟨e,c,t7,rfl,f,q7⟩;have S:=h6.next e q7
 have a:=b6.E e rH;have e7:=e6.E e rH;have H:=a5.Q e O;have z7:=e.size;refine go ?_
 refine CE (α:=List Tok×Int) (fun _=>[(0,pt E.s),(2,pt w.heap.size),(3,pt L.heap.size)])
  (fun x W=>Run ((Cw [58]).bind fun b=>if b then numberG else .ret 2) t5 (.ok (x.2,x.1))/\PW W E x.1/\Keep [E.s] w W/\w3.heap.size<=W.heap.size/\Blk W w.heap.size 129 [AA [],.bool false,iV 0]/\Blk W L.heap.size 129 [AA s,.bool i,iV x.2]) ?_ ?_
 ·cases c with
  |true=>
   refine go ?_;refine Av (OJ E w7 t7 S.st) rfl ?_ ?_;rotate_left
   ·rintro y wq⟨d,j,g,rfl⟩;refine go ?_;exact Ap ⟨H.Q d O,j,K.bind (k.bind (p.bind (Run.bindE (f.bind g)))),rfl⟩
   rintro v w8⟨r,n,t8,m,q8,rfl,a7,a8⟩;have M:=S.next r q8
   have P:=a.E r rH;have B:=e7.E r rH;have z8:=r.size;refine go ?_;refine AW rfl rfl rfl B O (fun w9 F=>?_);have z9:=F.size;refine go ?_;exact Af (t8,n) ⟨rfl,rfl,rfl,trivial⟩ ⟨f.bind m,M.E F.E rH,(H.Q r O).Q F.E rH,by omega,P.E F.E rH,F.D⟩
  |false=>
   refine go ?_;exact Af (t7,2) ⟨rfl,rfl,rfl,trivial⟩ ⟨f.bind (Run.ret _ _),S,H,by omega,a,e7⟩
 rintro⟨t8,n⟩w8 f8⟨m,M,a1,z8,P,B⟩;simp only at m M B;refine go ?_;refine Av (H9 E w8 t8 [59] M.st) rfl ?_ ?_;rotate_left
 ·rintro y wq⟨d,j,g,rfl⟩;refine go ?_;exact Ap ⟨a1.Q d O,j,K.bind (k.bind (p.bind (m.bind (Run.bindE g)))),rfl⟩
 rintro v w9⟨V,_,t9,r9,q9,rfl⟩;have b9:=P.E V rH;have e9:=B.E V rH;refine go ?_;refine Aa (cs:=[AA s,.bool i,iV n]) rfl rfl rfl (by intro u o;simp at o;rcases o with rfl|rfl|rfl<;>rfl) b9 O (fun a6 T=>?_);refine go ?_;have a2:Blk a6 w.heap.size 129 [AA s,.bool i,iV n]:=T.D;exact Ar rfl rfl rfl a2.cells ⟨(a1.Q V O).Q T.E rH,⟨s,i,n⟩,t9,K.bind (k.bind (p.bind (m.bind (r9.bind (Run.ret _ _))))),q9.E T.E rH,_,rfl,rfl⟩
def Zy(E:Env)(N:Nat):Hp reqR GC E N 197 (body .req):=by
 intro w ts h hN;have hsl:=h.st.slt;unfold PDo;refine CK func197 rfl ntmps197 nlr rD (go ?_);refine Ai (fun Q P=>?_);have b1:Blk Q w.heap.size 57 LO:=P.D;have z1:=P.size;have h1:=h.ext P.E;have k1:Keep [E.s] w Q:=P.E.any;refine go ?_;refine CL (cs:=[AA [],AA [],iV 1,iV 0,AA [],iV 0,iV 0,nS]) rfl rfl rF (by intro u o;simp at o;rcases o with rfl|rfl|rfl|rfl|rfl|rfl<;>rfl) (fun w3 H=>?_);have h3:=h1.ext H.E;have b3:=b1.E H.E O;have z3:=H.size;have e3:=H.D;have a8:=k1.ext H.E;refine gC (HH E w3 ts [97,115,115,117,109,101] h3.st) ?_;rintro _ w2⟨m,i,X,rfl,K,q2⟩;have R:=h3.next m q2
 have b2:=b3.E m rH;have e2:=e3.E m rH;have V:=a8.Q m O;have z2:=m.size;refine go ?_
 refine CE (α:=List Tok×Int) (fun _=>[(0,pt E.s),(2,pt w.heap.size),(3,pt Q.heap.size)])
  (fun x W=>Run (if i then .ret 1 else(Di [103,117,97,114,97,110,116,101,101]).bind fun _=>.ret 2:G Int) X (.ok (x.2,x.1))/\PW W E x.1/\Keep [E.s] w W/\w3.heap.size<=W.heap.size/\Blk W w.heap.size 57 LO/\Blk W Q.heap.size 57 [AA [],AA [],iV x.2,iV 0,AA [],iV 0,iV 0,nS]) ?_ ?_
 ·cases i with
  |true=>
   refine go ?_;exact Af (X,1) ⟨rfl,rfl,rfl,trivial⟩ ⟨Run.ret _ _,R,V,by omega,b2,e2⟩
  |false=>
   refine go ?_;refine Av (H9 E w2 X [103,117,97,114,97,110,116,101,101] R.st) rfl ?_ ?_;rotate_left
   ·rintro y wq⟨a,d,j,rfl⟩;refine go ?_;exact Ap ⟨V.Q a O,d,K.bind (Run.bindE (Run.bindE j)),rfl⟩
   rintro v w4⟨z,_,Z,f,q4,rfl⟩;have n:=e2.E z rH;have z4:=z.size;refine go ?_;refine AW rfl rfl rfl n O (fun w5 L=>?_);have z5:=L.size;refine go ?_;exact Af (Z,2) ⟨rfl,rfl,rfl,trivial⟩ ⟨f.bind (Run.ret _ _),(R.next z q4).E L.E rH,(V.Q z O).Q L.E rH,by omega,(b2.E z rH).E L.E rH,L.D⟩
 rintro⟨Z,r⟩w4 f4⟨f,A,a1,z4,b4,n⟩;simp only at f A n;refine go ?_;refine Av (Oh E w4 Z A.st A.gk) rfl ?_ ?_;rotate_left
 ·rintro y wq⟨a,d,j,rfl⟩;refine go ?_;exact Ap ⟨a1.Q a O,d,K.bind (f.bind (Run.bindE j)),rfl⟩
 rintro v w5⟨C,s,t5,p,q5,rfl,hs⟩;have h5:=A.next C q5
 have b5:=b4.E C rH;have e5:=n.E C rH;have a9:=a1.Q C O;have z5:=C.size;refine go ?_;refine AW rfl rfl rfl e5 O (fun w6 c=>?_);have h6:=h5.E c.E rH;have b6:=b5.E c.E rH;have e6:Blk w6 Q.heap.size 57 [AA [],AA s,iV r,iV 0,AA [],iV 0,iV 0,nS]:=c.D;have a2:=a9.Q c.E rH;have z6:=c.size;refine go ?_;refine Av (H9 E w6 t5 [58] h6.st) rfl ?_ ?_;rotate_left
 ·rintro y wq⟨a,d,j,rfl⟩;refine go ?_;exact Ap ⟨a2.Q a O,d,K.bind (f.bind (p.bind (Run.bindE j))),rfl⟩
 rintro v w7⟨F,_,t7,r7,q7,rfl⟩;have h7:=h6.next F q7
 have b7:=b6.E F rH;have e7:=e6.E F rH;have a3:=a2.Q F O;have z7:=F.size;refine go ?_;refine Av ((TX E t7.length).2.2.2 w7 t7 h7 (AO _)) rfl ?_ ?_;rotate_left
 ·rintro y wq⟨a,d,j,rfl⟩;refine go ?_;exact Ap ⟨a3.Q a O,d,K.bind (f.bind (p.bind (r7.bind (Run.callE j)))),rfl⟩
 rintro v w8⟨M,g,t8,r8,q8,B⟩;have b8:=b7.E M rH;have e8:=e7.E M rH;have b0:=a3.Q M O;have z8:=M.size;obtain⟨k,rfl,a6,a0⟩:=B.cells;obtain⟨e,I,D,l,q,rfl⟩:=An a6;refine go ?_;refine Aa (cs:=[e,I,D,l,q]) rfl rfl rfl a0 e8 O (fun w9 t=>?_);have b9:=b8.E t.E rH;have e9:Blk w9 Q.heap.size 57 [AA [],AA s,iV r,e,I,D,l,q]:=t.D;have f9:=B.E t.E rS;have z9:=t.size;refine go ?_
 have a7:oneC [AA [],AA s,iV r,e,I,D,l,q]:=by
  intro u o;simp only[BI,FA,FD]at o;rcases o with rfl|rfl|rfl|o
  ·rfl
  ·rfl
  ·rfl
  ·exact a0 u (by simp only[BI,FA,FD];exact o)
 refine Aa (cs:=[AA [],AA s,iV r,e,I,D,l,q]) rfl rfl rfl a7 b9 (by simp[LO]) (fun w10 T=>go ?_);have a4:Blk w10 w.heap.size 57 [AA [],AA s,iV r,e,I,D,l,q]:=T.D;have a5:=f9.E T.E rS;exact Ar rfl rfl rfl a4.cells ⟨(b0.Q t.E rH).Q T.E rH,⟨[],s,r,g⟩,t8,K.bind (f.bind (p.bind (r7.bind (Run.call r8 (Run.ret _ _))))),(q8.E t.E rH).E T.E rH,_,rfl,[e,I,D,l,q],rfl,rfl,a5.mono fun b S=>by simp only[fresh]at S⊢;omega⟩
def mz(E:Env)(N:Nat):Hp reqR GC E N 139 (body .line):=by
 intro w T h L;have a0:=h.st.slt;unfold PDo;refine CK func139 rfl ntmps139 nlr rD (go ?_);refine Ai (fun Q D=>?_);have q:Blk Q w.heap.size 57 LO:=D.D;have z1:=D.size;have Z:=h.ext D.E;have d:Keep [E.s] w Q:=D.E.any;refine go ?_;refine Av (Zy E N Q T Z L) rfl ?_ ?_;rotate_left
 ·rintro y wq⟨o,t,g,rfl⟩;refine go ?_;exact Ap ⟨d.Q o O,t,Run.callE g,rfl⟩
 rintro v w2⟨m,r,M,K,F,c,rfl,l⟩;have W:=Z.next m F
 have u:=q.E m rH;have G:=d.Q m O;have z2:=m.size;have i:c.length=8:=reqR.len l;have j:=reqR.one l;refine CL (cs:=c) rfl i rF j (fun V e=>?_);have R:=W.ext e.E;have z:=u.E e.E O;have a:=reqR.ext l e.E;have z3:=e.size;have B:=e.D;have X:=G.ext e.E;refine go ?_;refine Av (H9 E V M [59] R.st) rfl ?_ ?_;rotate_left
 ·rintro y wq⟨o,t,g,rfl⟩;refine go ?_;exact Ap ⟨X.Q o O,t,Run.call K (Run.bindE g),rfl⟩
 rintro v w4⟨k,_,P,I,H,rfl⟩;have p:=z.E k rH;have n:=B.E k rH;have C:=reqR.E a k rS;have z4:=k.size;refine go ?_;refine Cu rfl n i ?_;refine Aa (cs:=c) rfl rfl i j p (by simp[LO]) (fun w5 x=>go ?_)
 have A:Blk w5 w.heap.size 57 c:=by
  have:=x.D;rw[FC LO c i]at this;exact this
 have f:=reqR.E C x.E rS;exact Ar rfl rfl i A.cells ⟨(X.Q k O).Q x.E rH,r,P,Run.call K (I.bind (Run.ret _ _)),H.E x.E rH,c,rfl,reqR.mono f fun b S=>by simp only[fresh]at S⊢;omega⟩
end
def Jq:=@List.length_set
section
variable {mk:Prop}[MK mk]
def IA(s t:LU)(ts:List Tok):Run (Hq s t) ts (.ok (Ax s (ts.head?.map bare)||Ax t (ts.head?.map bare),ts)):=Run.look (Run.ret _ _)
def fz(E:Env)(w:World):K4 E w 82 [pt E.s] [] (Hq [112,97,114,116] [112,97,114,116]):=by
 intro w n _ h;show Fn Zp _ [pt E.s] _ _;refine AM func82 rfl ntmps82 ?_;refine gC (K1 E w n [112,97,114,116] h.st) ?_;rintro v X⟨rfl,rfl⟩;refine go ?_;refine AC rfl ⟨_,rfl,?_,rfl⟩;have:=IA [112,97,114,116] [112,97,114,116] n
 rwa [Bool.or_self]at this
def bJ(E:Env)(w:World):K4 E w 138 [pt E.s] [] (Hq [97,115,115,117,109,101] [103,117,97,114,97,110,116,101,101]):=by
 intro w n _ h;show Fn Zp _ [pt E.s] _ _;refine AM func138 rfl ntmps138 ?_;refine gC (K1 E w n [97,115,115,117,109,101] h.st) ?_;rintro v X⟨rfl,rfl⟩;have B:=IA [97,115,115,117,109,101] [103,117,97,114,97,110,116,101,101] n;cases hb:Ax [97,115,115,117,109,101] (n.head?.map bare)with
 |true=>
  refine go ?_;refine AC rfl ⟨_,rfl,?_,rfl⟩;rw[hb]at B;exact B
 |false=>
  refine gC (K1 E X n [103,117,97,114,97,110,116,101,101] h.st) ?_;rintro v T⟨rfl,rfl⟩;refine go ?_;refine AC rfl ⟨_,rfl,?_,rfl⟩;rw[hb]at B;exact B
def ae(E:Env)(o:World)(j:Nat)(V:Blk o j 68 [pt E.s])(M:j≠E.s):K4 E o 77 [] [pt j] (Hq [105,110,112,117,116] [111,117,116,112,117,116]):=by
 intro w n P h;show Fn Zp _ [pt j] _ _;have S:=V.E P rY;refine AM func77 rfl ntmps77 ?_;refine gC (K1 E w n [105,110,112,117,116] h.st) ?_;rintro v X⟨rfl,rfl⟩;have B:=IA [105,110,112,117,116] [111,117,116,112,117,116] n;cases hc:Ax [105,110,112,117,116] (n.head?.map bare)with
 |true=>
  refine go ?_;refine AC rfl ⟨_,rfl,?_,rfl⟩;rw[hc]at B;exact B
 |false=>
  refine gC (K1 E X n [111,117,116,112,117,116] h.st) ?_;rintro v T⟨rfl,rfl⟩;refine go ?_;refine AC rfl ⟨_,rfl,?_,rfl⟩;rw[hc]at B;exact B
def Tt{t:LU}{ts ts':List Tok}{u:Unit}(h:Run (Di t) ts (.ok (u,ts'))):ts'.length+1=ts.length:=by
 cases hs:Ax t (ts.head?.map bare)with
 |true=>
  have e:=h.det (QJ hs);cases e;cases ts with
  |nil=>simp[Ax]at hs
  |cons x l=>rfl
 |false=>have e:=h.det (TO hs);cases e
def V6{ts ts':List Tok}{s:LU}(h:Run nameG ts (.ok (s,ts'))):ts'.length+1=ts.length:=by
 cases ts with
 |nil=>cases h.det (Run.look (Run.fail _))
 |cons x l=>
  cases hb:(decide (x.kind=1)&&BP x.text)with
  |true=>
   have B:Run nameG (x::l) (.ok (x.text,l)):=by
    refine Run.look ?_;show Run (if(decide (x.kind=1)&&BP x.text)=true then _ else _) _ _;rw[AJ hb];exact Run.next (Run.ret _ _)
   cases h.det B;rfl
  |false=>
   have B:Run nameG (x::l) (.error (x::l)):=by
    refine Run.look ?_;show Run (if(decide (x.kind=1)&&BP x.text)=true then _ else _) _ _;rw[hb];exact Run.fail _
   cases h.det B
def Run.le{α:Type}{p:G α}{l l':List Tok}{a:α}(h:Run p l (.ok (a,l'))):l'.length<=l.length:=(show l'<:+l from h.suffix).length_le
def Fv{α β:Type}{p:G α}{q:α->G β}{l l':List Tok}{b:β}(h:Run (p.bind q) l (.ok (b,l'))):∃a l1,Run p l (.ok (a,l1))/\Run (q a) l1 (.ok (b,l')):=by
 rcases h.bind_inv with⟨a,l1,Z,W⟩|⟨e,_,W⟩
 ·exact⟨a,l1,Z,W⟩
 ·cases W
def JM{α:Type}{nt:NT}{k:nt.T->G α}{l l':List Tok}{b:α}(h:Run (.call nt k) l (.ok (b,l'))):∃a l1,RunN nt l (.ok (a,l1))/\Run (k a) l1 (.ok (b,l')):=by
 rcases h.call_inv with⟨a,l1,Z,W⟩|⟨e,_,W⟩
 ·exact⟨a,l1,Z,W⟩
 ·cases W
def bS{t b:List Tok}{a:Sgn}(h:Run (body .signal) t (.ok (a,b))):b.length<t.length:=by
 exact tw
def kH{t b:List Tok}{a:Rqm}(h:Run (body .req) t (.ok (a,b))):b.length<t.length:=by
 exact tw
def Q0{t b:List Tok}{a:Rqm}(h:Run (body .line) t (.ok (a,b))):b.length<t.length:=by
 obtain⟨r,q,T,h⟩:=JM h;have:=kH T;have:=h.le;omega
def Uv{t b:List Tok}{a:List Rqm}(h:Run (body .part) t (.ok (a,b))):b.length<t.length:=by
 obtain⟨_,q,T,h⟩:=Fv h;have:=Tt T;have:=h.le;omega
def dq:WhileP (Hq [105,110,112,117,116] [111,117,116,112,117,116]) (body .signal) (body .sigs) where
 done h:=h.bind (Run.ret _ _)
 more h h1 h2:=h.bind (Run.call h1 (Run.call h2 (Run.ret _ _)))
 err1 h h1:=h.bind (Run.callE h1)
 err2 h h1 h2:=h.bind (Run.call h1 (Run.callE h2))
 less _ h:=bS h
def aN:WhileP (Hq [97,115,115,117,109,101] [103,117,97,114,97,110,116,101,101]) (body .line) (body .lines) where
 done h:=h.bind (Run.ret _ _)
 more h h1 h2:=h.bind (Run.call h1 (Run.call h2 (Run.ret _ _)))
 err1 h h1:=h.bind (Run.callE h1)
 err2 h h1 h2:=h.bind (Run.call h1 (Run.callE h2))
 less _ h:=Q0 h
def aO:WhileP (Hq [112,97,114,116] [112,97,114,116]) (body .part) (body .parts) where
 done h:=h.bind (Run.ret _ _)
 more h h1 h2:=h.bind (Run.call h1 (Run.call h2 (Run.ret _ _)))
 err1 h h1:=h.bind (Run.callE h1)
 err2 h h1 h2:=h.bind (Run.call h1 (Run.callE h2))
 less _ h:=Uv h
def jp{w:World}{B e n size:Nat}{a:Option Addr}{cap:Nat}{xs:LV}(h:w.ownsRow B e size (.slice a n cap) n xs)(H:0<n):
  ∃g L,a=some ⟨g,0,none⟩/\B<=g/\Blk w g e L/\n*size<=L.length/\∀w' i u,Put w w' g e (L.set i u)->w'.ownsRow B e size (.slice a n cap) n (xs.set i u):=by
 obtain⟨N,s⟩:=h;rcases s with⟨_,rfl⟩|⟨g,r,C,s,x,y,Z,W,R,A⟩
 ·omega
 ·cases s;refine⟨g,C.toList,rfl,x,by simpa[Blk]using y,?_,fun w' i u b=>⟨by simpa using N,.inr ⟨g,cap,(C.toList.set i u).toArray,rfl,x,b.D,Z,W,by simpa using R,?_⟩⟩⟩
  ·have:=congrArg List.length A;simp at this;rw[N]at this;simp;omega
  ·show((C.toList.set i u).toArray.toList.take (n*size))=_;rw[<-A,List.take_set]
def TV(n:Nat)(u:Value):∀(L:List (LV))(k j:Nat)(c:LV),(∀c∈L,c.length=n)->L[k]?=some c->j<n->L.flatten.set (k*n+j) u=(L.set k (c.set j u)).flatten
 | [],k,j,c,_,h,_=>by simp at h
 |d::L,0,j,c,h5,h,hj=>by
  simp at h;subst h;have:=h5 d O;rw[Ou,Bs,Do,List.set_append_left _ _ U];rfl
 |d::L,k+1,j,c,h5,h,hj=>by
  have x:=h5 d O;rw[Do,NY _ _ (by rw[x,He];omega),x,show(k+1)*n+j-n=k*n+j by rw[He];omega];rw[TV n u L k j c (fun c T=>h5 c rR) rT hj];rfl
def JR(s:LU)(r:Rqm):Rqm:=⟨s,r.name,r.kind,r.formula⟩
def IW{α:Type}(f:α->α)(k:Nat)(l:List α):List α:=(l.take k).map f++l.drop k
def Rl{α:Type}(f:α->α){k:Nat}{l:List α}(P:k<=l.length)(i:Nat):(IW f k l)[i]?=if i<k then(l[i]?).map f else l[i]?:=by
 unfold IW
 split
 ·rename_i h;rw[D4 rE,Cl,Ed,AJ h]
 ·rename_i h;rw[EJ rE,KX]
  congr 1
  simp;omega
def Rm{α:Type}(f:α->α)(k:Nat)(l:List α)(P:k<=l.length):(IW f k l).length=l.length:=by simp[IW];omega
def nN(E:Env)(N:Nat):Hp reqsR Y9 E N 83 (body .part):=by
 intro w ts h hN;have b9:=h.st.slt;unfold PDo;refine CK func83 rfl ntmps83 nlr rD (go ?_);refine Av (H9 E w ts [112,97,114,116] h.st) rfl ?_ ?_;rotate_left
 ·rintro B G⟨f,j,m,rfl⟩;refine go ?_;exact Ap ⟨(Keep.refl [E.s] w).Q f O,j,Run.bindE m,rfl⟩
 rintro v w1⟨H,_,t1,T,q1,rfl⟩;have Z:=h.next H q1
 refine go ?_;refine Av (Oh E w1 t1 Z.st Z.gk) rfl ?_ ?_;rotate_left
 ·rintro B G⟨f,j,m,rfl⟩;refine go ?_;exact Ap ⟨H.Q f O,j,T.bind (Run.bindE m),rfl⟩
 rintro v w2⟨k2,s,t2,K,q2,rfl,hs⟩;have M:=Z.next k2 q2
 have a4:=H.Q k2 O;refine go ?_;refine Av (H9 E w2 t2 [123] M.st) rfl ?_ ?_;rotate_left
 ·rintro B G⟨f,j,m,rfl⟩;refine go ?_;exact Ap ⟨a4.Q f O,j,T.bind (K.bind (Run.bindE m)),rfl⟩
 rintro v o⟨I,_,t3,u,q3,rfl⟩;have R:=M.next I q3
 have X:=a4.Q I O;refine go ?_;refine Av (bk E t3.length _ _ [pt E.s] [] _ _ _ aN o t3 (bJ E o) (mz E _) R (AO _)) rfl ?_ ?_;rotate_left
 ·rintro B G⟨f,j,m,rfl⟩;refine go ?_;exact Ap ⟨X.Q f O,j,T.bind (K.bind (u.bind (Run.callE m))),rfl⟩
 rintro v w4⟨k4,l,t4,r4,q4,L,e,F4⟩;have A:=R.next k4 q4
 have a5:=X.Q k4 O
 obtain⟨a,c,rfl⟩:∃a c,v=.slice a l.length c:=by
  rcases e.2 with⟨rfl,h0⟩|⟨g,b4,b5,rfl,_⟩
  ·exact⟨none,0,by rw[h0]⟩
  ·exact ud
 have b8:l.length<=9223372036854775807:=by
  obtain⟨_,_,hv,g1,g2,_⟩:=BG (ok:=AL) e fun _ _=>trivial;cases hv;omega
 refine go ?_;refine Av (H9 E w4 t4 [125] A.st) rfl ?_ ?_;rotate_left
 ·rintro B G⟨f,j,m,rfl⟩;refine go ?_;exact Ap ⟨a5.Q f O,j,T.bind (K.bind (u.bind (Run.call r4 (Run.bindE m)))),rfl⟩
 rintro v w5⟨D,_,t5,r5,q5,rfl⟩;have h5:=A.next D q5
 have b3:=a5.Q D O;have c0:=X.size;have a2:∀g,(Value.slice a l.length c).ownBlock=some g->o.heap.size<=g/\g<w4.heap.size:=fun g y=>Ao e y;have o5:=Bf e D (fun g y=>by have:=a2 g y;simp;omega);have F5:=F4.E D (fun b S=>by have:=S.1;simp[fresh]at this⊢;omega);refine go ?_
 refine Aj (α:=Nat) (fun k=>[(3,AA s),(4,.slice a l.length c),(20,iV (l.length:Int)),(21,iV (k:Int))])
  (fun k W=>k<=l.length/\Keep [E.s] w W/\PSt W E t5/\∃z,W.ownsRow o.heap.size 57 8 (.slice a l.length c) l.length z.flatten/\RsAt reqR (fun b=>fresh o b/\(Value.slice a l.length c).ownBlock≠some b) W z (IW (JR s) k l)) (fun k=>l.length-k) 0 ⟨rfl,rfl,rfl,rfl,trivial⟩
  ⟨by omega,b3,q5,L,o5,by simpa[IW]using F5⟩ ?_
 rintro k w6 f6⟨P,k6,q6,z,o6,n⟩;refine go ?_;by_cases C:k<l.length
 ·obtain⟨g,Lc,rfl,hB,S,b6,b0⟩:=jp o6 U;have b7:k*8+8<=l.length*8:=by omega
  have a3:=Rm (JR s) k l P;obtain⟨q,Q⟩:∃q,z[k]?=some q:=⟨_,AU (by rw[n.1,a3];exact C)⟩;obtain⟨r,hr⟩:∃r,l[k]?=some r:=⟨_,AU C⟩;have b1:(IW (JR s) k l)[k]?=some r:=by rw[Rl _ P,AG U,hr]
  have a8:=n.2 k q r Q b1;refine go ?_;refine AW (v:=AA s) rfl rfl rfl S U (fun w7 F=>go ?_);have e0:0+k*8+0=k*8+0:=by omega
  rw[e0]at F;have o7:=b0 w7 _ _ F;have a9:=TV 8 (AA s) z k 0 q n.len Q U;rw[a9]at o7;have z3:=I.size;refine⟨k+1,⟨rfl,⟨rfl,rfl,rfl,?_,trivial⟩,⟨by omega,k6.Q F.E (fun x V C=>by simp at V;omega),q6.E F.E (fun x V=>by simp at V;omega),_,o7,?_⟩⟩,by omega⟩
  ·show iV ((k:Int)+1)=_;rw[BB];rfl
  ·refine⟨by rw[Jq,n.1,Rm _ _ _ P,Rm _ _ _ U],fun i d x p V=>?_⟩;have a0:∀b,(fresh o b/\(Value.slice (sm g) l.length c).ownBlock≠some b)->b∉[g]:=fun b S V=>S.2 (by simp at V;subst V;rfl);rw[Rl _ U]at V;rw[List.getElem?_set]at p;by_cases t:k=i
   ·subst t;rw[AJ rfl,AJ (by rw[n.1,a3];exact C)]at p;cases p;rw[AJ U,hr]at V;cases V;obtain⟨d,rfl,a6,a7⟩:=a8;exact⟨d,rfl,a6,a7.E F.E a0⟩
   ·rw[AG t]at p
    have b2:(IW (JR s) k l)[i]?=some x:=by
     rw[Rl _ P];by_cases Z:i<k
     ·rw[AJ Z];rwa [AJ U]at V
     ·rw[AG Z];rwa [AG U]at V
    exact reqR.E (n.2 i d x p b2) F.E a0
 ·obtain rfl:k=l.length:=by omega
  refine go ?_;have hm:IW (JR s) l.length l=l.map (JR s):=by simp[IW]
  rw[hm]at n;have S6:=BG (ok:=fresh w) o6 (fun g y=>by have:=a2 g y;simp only[fresh];omega);have a1:(l.map (JR s)).length=l.length:=by simp
  refine AC rfl ⟨k6,l.map (JR s),t5,T.bind (K.bind (u.bind (Run.call r4 (r5.bind (Run.ret _ _))))),q6,[.slice a l.length c],rfl,_,rfl,a,c,z,by rw[a1],by rw[a1];exact S6,n.mono fun b S=>by have:=S.1;simp only[fresh]at this⊢;omega⟩
end
def FN:=@List.flatten_append
section
variable {mk:Prop}[MK mk]
def ON{s t:LU}{ts ts':List Tok}{b:Bool}(h:Run (Hq s t) ts (.ok (b,ts'))):ts'=ts:=by
 cases h.det (IA s t ts);rfl
def fX:∀(n:Nat)(t T:List Tok)(l:List Rqm),t.length<=n->Run (body .lines) t (.ok (l,T))->l.length+T.length<=t.length:=by
 intro n
 induction n with
 |zero=>
  intro t T l H h;obtain⟨b,q,a,h⟩:=Fv h;have e:=ON a;subst e;cases b with
  |true=>
   obtain⟨r,c,K,h⟩:=JM h;have:=Q0 K;omega
  |false=>cases h.det (Run.ret _ _);simp
 |succ n ih=>
  intro t T l H h;obtain⟨b,q,a,h⟩:=Fv h;have e:=ON a;subst e;cases b with
  |true=>
   obtain⟨r,c,K,h⟩:=JM h;obtain⟨m,I,u,h⟩:=JM h;have W:=Q0 K;have R:=ih c I m U u;cases h.det (Run.ret _ _);simp;omega
  |false=>cases h.det (Run.ret _ _);simp
def jq{t T:List Tok}{l:List Rqm}(h:Run (body .part) t (.ok (l,T))):l.length+T.length<t.length:=by
 obtain⟨_,q,a,h⟩:=Fv h;obtain⟨_,b,K,h⟩:=Fv h;obtain⟨_,I,u,h⟩:=Fv h;obtain⟨m,E,s,h⟩:=JM h;obtain⟨_,Z,p,h⟩:=Fv h;cases h.det (Run.ret _ _);have:=Tt a;have:=K.le;have:=u.le;have:=fX _ _ _ _ (AO _) s;have:=p.le;simp;omega
def gF:∀(n:Nat)(t T:List Tok)(l:List (List Rqm)),t.length<=n->Run (body .parts) t (.ok (l,T))->l.flatten.length+T.length<=t.length:=by
 intro n
 induction n with
 |zero=>
  intro t T l H h;obtain⟨b,q,a,h⟩:=Fv h;have e:=ON a;subst e;cases b with
  |true=>
   obtain⟨r,c,K,h⟩:=JM h;have:=Uv K;omega
  |false=>cases h.det (Run.ret _ _);simp
 |succ n ih=>
  intro t T l H h;obtain⟨b,q,a,h⟩:=Fv h;have e:=ON a;subst e;cases b with
  |true=>
   obtain⟨r,c,K,h⟩:=JM h;obtain⟨m,I,u,h⟩:=JM h;have W:=jq K;have R:=ih c I m U u;cases h.det (Run.ret _ _);simp only[Do,A9];omega
  |false=>cases h.det (Run.ret _ _);simp
def oB(E:Env)(N:Nat):Hp spcR GC E N 29 (body .spec):=by
 intro w ts h hN;have c3:=h.st.slt;unfold PDo;refine CK func29 rfl ntmps29 nlr rD (go ?_);refine Ac (L:=[pt E.s]) rfl (fun f D=>?_);refine Ai (fun z R=>?_);have z1:=D.size;have z2:=R.size;have x2:Blk z w.heap.size 68 [pt E.s]:=D.D.E R.E O;have b2:Blk z f.heap.size 25 [nS,nS]:=R.D;have h2:=(h.ext D.E).ext R.E;have k2:Keep [E.s] w z:=(D.E.Q R.E).any;refine go ?_;refine Av (bl E ts.length _ _ [] [pt w.heap.size] _ _ _ dq z ts (ae E z _ x2 U) (gh E _) h2 (AO _)) rfl ?_ ?_;rotate_left
 ·rintro ch wq⟨kq,lq,rq,rfl⟩;refine go ?_;exact Ap ⟨k2.Q kq O,lq,Run.callE rq,rfl⟩
 rintro sv A⟨X,l,t3,r3,q3,L,o3,F3⟩;have h3:=h2.next X q3
 have k13:=k2.Q X O;have z3:=X.size;have x3:=x2.E X rH;have b3:=b2.E X rH;have S3:=BG (ok:=fun b=>z.heap.size<=b/\b<A.heap.size) o3 (fun g n=>by have:=Ao o3 n;omega);obtain⟨Z,G,rfl,_⟩:=id S3;refine go ?_;refine CL (cs:=[.slice Z l.length G,nS]) rfl rfl rF (by intro u P;simp at P;rcases P with rfl|rfl<;>rfl) (fun t q=>?_);have h4:=h3.ext q.E;have a8:=k13.ext q.E;have z4:=q.size;have x4:=x3.E q.E O;have b4:=b3.E q.E O;have e4:=q.D;have S4:=S3.ext q.E;have F4:=F3.ext q.E;refine go ?_;refine Av (aP E t3.length _ _ [pt E.s] [] _ _ _ aO t t3 (fz E t) (nN E _) h4 (AO _)) rfl ?_ ?_;rotate_left
 ·rintro ch wq⟨kq,lq,rq,rfl⟩;refine go ?_;exact Ap ⟨a8.Q kq O,lq,Run.call r3 (Run.callE rq),rfl⟩
 rintro pv j⟨I,m,t5,r5,q5,M,o5,F5⟩;have h5:=h4.next I q5
 have k15:=a8.Q I O;have z5:=I.size;have b5:=b4.E I rH;have e5:=e4.E I rH;have S5:=S4.E I (fun b S=>by simp;omega);have P5:=BG (ok:=fun b=>t.heap.size<=b/\b<j.heap.size) o5 (fun g n=>Ao o5 n);have a9:RsAt reqsR (fun b=>t.heap.size<=b/\b<j.heap.size) j M m:=F5.lt.mono fun b S=>⟨S.1.1,S.2⟩;obtain⟨pa,pc,rfl,_⟩:=id P5;have c4:=h.st.cnt;have b8:=(show t3<:+ts from Run.suffix r3).length_le;have c0:=gF _ _ _ _ (AO _) r5
 have c2:m.length<=9223372036854775807:=by
  obtain⟨_,_,hv,g1,g2,_⟩:=id P5;cases hv;omega
 refine go ?_
 refine Aj (α:=Nat×Value×List (LV)) (fun x=>[(2,pt f.heap.size),(4,pt A.heap.size),(17,.slice pa m.length pc),(18,iV (m.length:Int)),(19,iV (x.1:Int))])
  (fun x W=>x.1<=m.length/\Keep [E.s] w W/\PSt W E t5/\j.heap.size<=W.heap.size/\Blk W f.heap.size 25 [nS,nS]/\Blk W A.heap.size 25 [.slice Z l.length G,x.2.1]/\
   Sl (fun b=>z.heap.size<=b/\b<A.heap.size) W (.slice Z l.length G) l.length L.flatten/\Sl (fun b=>t.heap.size<=b/\b<j.heap.size) W (.slice pa m.length pc) m.length M.flatten/\RsAt reqsR (fun b=>t.heap.size<=b/\b<j.heap.size) W M m/\
   W.ownsRow j.heap.size 57 8 x.2.1 (m.take x.1).flatten.length x.2.2.flatten/\RsAt reqR (fun b=>t.heap.size<=b/\b<j.heap.size) W x.2.2 (m.take x.1).flatten) (fun x=>m.length-x.1) (0,nS,[]) ⟨rfl,rfl,rfl,rfl,rfl,trivial⟩
  ⟨by simp,k15,q5,AO _,b5,e5,S5,P5,a9,⟨by simp,.inl ⟨rfl,rfl⟩⟩,RsAt.nil⟩ ?_
 rintro⟨k,rv,Q⟩w6 f6⟨hk,k6,q6,z6,b6,e6,S6,P6,F6,d,G6⟩;simp only at hk d G6 e6⊢;refine go ?_;have hb1:f.heap.size<A.heap.size:=by omega
 by_cases a1:k<m.length
 ·obtain⟨c,T⟩:∃c,M[k]?=some c:=⟨_,AU (by rw[F6.1];exact a1)⟩;obtain⟨p,a7⟩:∃p,m[k]?=some p:=⟨_,AU a1⟩;obtain⟨pv,rfl,va,vc,V,rfl,SV,FV⟩:=F6.2 k c p T a7
  obtain⟨b,o,rfl,S,b9⟩:∃b o,pa=some ⟨b,o,none⟩/\(t.heap.size<=b/\b<j.heap.size)/\w6.cell? ⟨b,o+k,none⟩=some (.slice va p.length vc):=by
   obtain⟨a',a5,hv,g1,g2,g3,g4⟩:=id P6;cases hv;obtain⟨b,o,rfl,S,hcc⟩:=g4.resolve_left U;refine⟨b,o,rfl,S,hcc k _ ?_⟩;have:=Hc 1 M k 0 _ _ F6.len T rfl;simpa using this
  have a6:m.take (k+1)=m.take k++[p]:=by rw[CT,a7];rfl
  have c1:(m.take (k+1)).flatten.length<=m.flatten.length:=by
   have e1:=congrArg (fun x=>x.flatten.length) (HB (k+1) m);simp only[FN,A9]at e1;omega
  have etl:(m.take (k+1)).flatten.length=(m.take k).flatten.length+p.length:=by rw[a6];simp
  obtain⟨C,r,rfl⟩:∃C r,rv=.slice C (m.take k).flatten.length r:=by
   rcases d.2 with⟨rfl,h0⟩|⟨g,a5,b1,rfl,_⟩
   ·exact⟨none,0,by rw[h0]⟩
   ·exact ud
  have a2:∀x∈(Value.slice C (m.take k).flatten.length r).ownBlock.toList,j.heap.size<=x:=fun x e=>(Ao d (Aw.1 e)).1;refine go ?_;refine Bk (v:=.slice C (m.take k).flatten.length r) (sv:=.slice va p.length vc) rfl rfl d SV U rfl FV.flat FV.oneC U U U (fun v7 w7 y=>?_);have o7:=y.own;have z7:=y.E.size;have B:∀b,b<j.heap.size->b∉(Value.slice C (m.take k).flatten.length r).ownBlock.toList:=fun b S e=>by have:=a2 b e;omega
  have e7:=e6.E y.E (B _ U);have b7:=b6.E y.E (B _ U);have S7:=S6.E y.E (fun b S=>B b U);have P7:=P6.E y.E (fun b S=>B b S.2);have F7:=F6.E y.E (fun b S=>B b S.2);have G7:=(G6.app FV).E y.E (fun b S=>B b S.2);have k7:=k6.Q y.E (fun x e a1=>by have:=a2 x e;omega);have q7:=q6.E y.E (fun x e=>by have:=a2 x e;omega)
  obtain⟨a3,a4,rfl⟩:∃a3 a4,v7=.slice a3 ((m.take k).flatten.length+p.length) a4:=by
   rcases o7.2 with⟨rfl,h0⟩|⟨g,a5,b1,rfl,_⟩
   ·exact⟨none,0,by rw[h0]⟩
   ·exact ud
  refine go ?_;refine AW rfl rfl rfl e7 O (fun w8 K=>?_);have z8:=K.size;have H:∀b,b≠A.heap.size->b∉[A.heap.size]:=fun b S e=>S (by simpa using e);refine go ?_;refine⟨(k+1,.slice a3 ((m.take k).flatten.length+p.length) a4,Q++V),⟨rfl,⟨rfl,rfl,rfl,rfl,?_,trivial⟩,⟨by simp only;omega,k7.Q K.E rH,q7.E K.E rH,by omega,b7.E K.E (H _ U),K.D,S7.E K.E (fun b S=>H _ U),P7.E K.E (fun b S=>H _ U),F7.E K.E (fun b S=>H _ U),?_,?_⟩⟩,by simp only;omega⟩
  ·show iV ((k:Int)+1)=_;rw[BB];rfl
  ·have:=Bf o7 K.E (fun g n=>H g (by have:=Ao o7 n;omega));simp only[etl,FN];exact this
  ·simp only[a6,FN];have:=G7.E K.E (fun b S=>H _ U);simpa using this
 ·obtain rfl:k=m.length:=by omega
  rw[Co]at d G6;refine go ?_;have hr6:=BG (ok:=fresh w) d (fun g n=>by have:=Ao d n;simp only[fresh];omega);obtain⟨C,r,rfl,_⟩:=id hr6;refine go ?_;refine Aa (cs:=[.slice Z l.length G,.slice C m.flatten.length r]) rfl rfl rfl (by intro u P;simp at P;rcases P with rfl|rfl<;>rfl) b6 O (fun w7 F=>?_);refine go ?_;have b7:Blk w7 f.heap.size 25 [.slice Z l.length G,.slice C m.flatten.length r]:=F.D;have a0:∀b,b≠f.heap.size->b∉[f.heap.size]:=fun b S e=>S (by simpa using e);have b0:RsAt sgnR (fun b=>b≠f.heap.size/\fresh w b) w6 L l:=⟨F4.1,fun i c a T ha=>F4.2 i c a T ha⟩;have R7:=BG (ok:=fun b=>b≠f.heap.size/\fresh w b) d (fun g n=>by have:=Ao d n;simp only[fresh];omega);refine Ar rfl rfl rfl b7.cells ⟨k6.Q F.E rH,⟨l,m.flatten⟩,t5,Run.call r3 (Run.call r5 (Run.ret _ _)),q6.E F.E rH,_,rfl,_,_,rfl,⟨_,_,L,rfl,?_,?_⟩,⟨_,_,Q,rfl,?_,?_⟩⟩
  ·exact(S6.mono (ok':=fun b=>b≠f.heap.size/\fresh w b) (fun b S=>by simp only[fresh];omega)).E F.E (fun b S=>a0 b S.1) |>.mono fun b S=>S.2
  ·exact(b0.E F.E (fun b S=>a0 b S.1)).mono fun b S=>S.2
  ·exact(R7.E F.E (fun b S=>a0 b S.1)).mono fun b S=>S.2
  ·exact((G6.mono (ok':=fun b=>b≠f.heap.size/\fresh w b) (fun b S=>by simp only[fresh];omega)).E F.E (fun b S=>a0 b S.1)).mono fun b S=>S.2
def T3(w:World):Fn Zp 75 [] w fun v w'=>∃m,v=.map (some m)/\w.heap.size<=m/\Ext w w'/\SMap w' m (I1 infixT):=by
 refine AM func75 rfl ntmps75 (go ?_);refine QU (fun Q d j q=>go ?_);refine HM (x:=[85]) (y:=GX ⟨9,0,0⟩) rfl rfl rfl q rfl (fun L e F h=>go ?_);refine HM (x:=[82]) (y:=GX ⟨10,0,0⟩) rfl rfl rfl h rfl (fun i g k a=>go ?_);refine HM (x:=[83]) (y:=GX ⟨16,16,0⟩) rfl rfl rfl a rfl (fun t b V p=>go ?_);refine HM (x:=[84]) (y:=GX ⟨17,17,1⟩) rfl rfl rfl p rfl (fun c f l r=>?_);refine gR ?_;exact⟨w.heap.size,rfl,AO _,(((d.E e O).E g O).E b O).E f O,r⟩
def Tb(w:World):Fn Zp 74 [] w fun v w'=>∃m,v=.map (some m)/\w.heap.size<=m/\Ext w w'/\SMap w' m (I1 prefixT):=by
 refine AM func74 rfl ntmps74 (go ?_);refine QU (fun Q k j q=>go ?_);refine HM (x:=[33]) (y:=GX ⟨4,0,0⟩) rfl rfl rfl q rfl (fun L l F h=>go ?_);refine HM (x:=[88]) (y:=GX ⟨8,0,0⟩) rfl rfl rfl h rfl (fun C g G f=>go ?_);refine HM (x:=[89]) (y:=GX ⟨15,0,0⟩) rfl rfl rfl f rfl (fun t b V p=>go ?_);refine HM (x:=[90]) (y:=GX ⟨15,0,1⟩) rfl rfl rfl p rfl (fun c n H r=>go ?_);refine HM (x:=[79]) (y:=GX ⟨18,0,0⟩) rfl rfl rfl r rfl (fun D o I i=>go ?_);refine HM (x:=[72]) (y:=GX ⟨19,0,0⟩) rfl rfl rfl i rfl (fun A z s a=>go ?_);refine HM (x:=[70]) (y:=GX ⟨11,13,0⟩) rfl rfl rfl a rfl (fun W B K e=>go ?_);refine HM (x:=[71]) (y:=GX ⟨12,14,0⟩) rfl rfl rfl e rfl (fun E u M d=>?_);refine gR ?_;exact⟨w.heap.size,rfl,AO _,(((((((k.E l O).E g O).E b O).E n O).E o O).E z O).E B O).E u O,d⟩
def TM{p:UInt8->Bool}:∀{l:LU},(l.takeWhile p).length=l.length->∀c∈l,p c=true
 | [],_,c,T=>by cases T
 |x::l,h,c,T=>by
  rw[Ll]at h;cases hp:p x with
  |false=>rw[hp]at h;simp at h
  |true=>
   rw[hp]at h;simp at h;rcases BI.1 T with rfl|T
   ·exact hp
   ·exact TM h c T
def Alone.wf{k:Int}{y:LU}(h:Alone k y):k=2->1<=y.length/\y.length<=4/\∀c∈y,Ag c=true:=by
 rintro rfl;obtain⟨Z,W,R⟩:=h;refine⟨Z,?_⟩;unfold BZ at R
 split at R
 ·simp[It]at R
 ·simp[IN]at R
 ·unfold EX at R
  split at R
  ·cases R
  ·have:=(ID R).1;simp at this
 ·unfold C8 at R
  split at R
  ·cases R
  ·rename_i hb;have e:=Fu R;have x:((y.takeWhile Ag).length)=y.length:=by simpa[As]using e.symm
   refine⟨?_,TM x⟩;have a:B6 y 0=false:=by simpa using hb
   unfold B6 at a;rw[<-e]at a;simp at a;omega
 ·unfold ET at R
  split at R
  ·have:=(ID R).1;simp at this
  ·cases R
 ·cases R
def Reach1.cap{t:LU}{a b:Nat}{ts C:List Tok}(h:Reach1 t a ts b C)(T:ts.length<=2000):C.length<=2000:=by
 induction h with
 |refl=>exact T
 |step h hs hr ih=>
  rename_i a a1 b ts ts1 C;refine ih ?_;rcases UF hs with rfl|⟨k,rfl⟩
  ·exact T
  ·have:ts.length≠2000:=by
    intro e;unfold BZ at hs
    split at hs
    ·simp[It]at hs
    ·simp[IN]at hs
    ·unfold EX at hs
     split at hs
     ·cases hs
     ·exact(ID hs).2 e
    ·unfold C8 at hs
     split at hs
     ·cases hs
     ·exact(ID hs).2 e
    ·unfold ET at hs
     split at hs
     ·exact(ID hs).2 e
     ·cases hs
    ·cases hs
   simp;omega
def Uo{t:LU}{ts:List Tok}(h:C7 t=.ok ts):t.length<=6000/\ts.length<=2000/\∀x∈ts,Yl x:=by
 obtain⟨N,B⟩:=my h;exact⟨N,B.cap O,fun x V=>((B.alone (AO _) (fun x V=>by cases V)) x V).wf⟩
def jy(w:World)(D i s:Nat):CallsDIn Fence.wide 0 Zp 108 ([]++[pt D,pt i,pt s]:LV).toArray .returning w (fun e v w'=>match e with| .returned _=>v=.returning/\Ext w w'|_=>False):=by
 refine JC (u1:=.returning) (v0:=.nilIface) (G:=fun _ w'=>Ext w w') (args:=[pt D,pt i,pt s]) func108 rfl ntmps108 O rI rD rD (.inl ⟨rfl,rfl,rfl⟩) ?_;exact tm
def jw(w:World)(D i s:Nat)(t:LV)(C j:Value)(e q:Int)(V:Blk w D 37 t)(d:t.length=([iV 0,AA [],iV 0,iV 0,nS]:LV).length)(f:Blk w i 28 [C])(c:Blk w s 3 [j])(M:D≠i)(N:D≠s)(l:i≠s):
  CallsDIn Fence.wide 0 Zp 108 ([]++[pt D,pt i,pt s]:LV).toArray (.panicking [{v:=.iface 121 (.agg #[iV e,iV q]),recovered:=false}]) w
   (fun u B w'=>match u with| .returned _=>B=.panicking [{v:=.iface 121 (.agg #[.int .i64 e,.int .i64 q]),recovered:=true}]/\(Keep [D,i,s] w w'/\Blk w' D 37 [.int .i64 0,AA [],.int .i64 0,.int .i64 0,.slice none 0 0]/\Blk w' i 28 [.int .i64 e]/\Blk w' s 3 [.int .i64 q])|_=>False):=by
 have Z:=V.lt;have E:=f.lt;have P:=c.lt
 refine JC (u1:=.panicking [{v:=.iface 121 (.agg #[iV e,iV q]),recovered:=true}]) (v0:=.iface 121 (.agg #[iV e,iV q]))
  (G:=fun _ w'=>Keep [D,i,s] w w'/\Blk w' D 37 [iV 0,AA [],iV 0,iV 0,nS]/\Blk w' i 28 [iV e]/\Blk w' s 3 [iV q]) (args:=[pt D,pt i,pt s]) func108 rfl ntmps108 O rI rD rD (.inr ⟨_,rfl,rfl,rfl⟩) ?_
 refine QH rfl ?_;refine Mf rfl (H7 rfl rfl (H7 rfl rfl ?_));refine CL (cs:=[iV e,iV q]) rfl rfl rF (Ak rfl) (fun L R=>?_);have a:=R.D;have Q:=R.size;refine go ?_;refine Ai (fun o n=>?_);have S:=n.size;have b:Blk o L.heap.size 37 [iV 0,AA [],iV 0,iV 0,nS]:=n.D;replace a:=a.E n.E O;have g:Ext w o:=R.E.Q n.E;replace V:=V.E g O;replace f:=f.E g O;replace c:=c.E g O;refine go ?_;refine Ab (rd 0 5 (.alt 5 (.alt 6 (.alt 7 .done .stop) .stop) .stop)) AX rD (fun X m T=>⟨fun W=>W.cell? ⟨w.heap.size,0,none⟩=some (iV e)/\W.cell? ⟨w.heap.size,1,none⟩=some (iV q)/\Cells W L.heap.size 0 [iV 0,AA [],iV 0,iV 0,nS],?_,?_⟩)
 ·exact⟨(a.E m O).cell rfl,(a.E m O).cell rfl,(b.E m O).cells⟩
 have y:∀W:World,(W.cell? ⟨w.heap.size,0,none⟩=some (iV e)/\W.cell? ⟨w.heap.size,1,none⟩=some (iV q)/\Cells W L.heap.size 0 [iV 0,AA [],iV 0,iV 0,nS])->W.cell? ⟨w.heap.size,0,none⟩=some (iV e):=fun W h=>h.1;have z:∀W:World,(W.cell? ⟨w.heap.size,0,none⟩=some (iV e)/\W.cell? ⟨w.heap.size,1,none⟩=some (iV q)/\Cells W L.heap.size 0 [iV 0,AA [],iV 0,iV 0,nS])->W.cell? ⟨w.heap.size,1,none⟩=some (iV q):=fun W h=>h.2.1;have A:∀W:World,(W.cell? ⟨w.heap.size,0,none⟩=some (iV e)/\W.cell? ⟨w.heap.size,1,none⟩=some (iV q)/\Cells W L.heap.size 0 [iV 0,AA [],iV 0,iV 0,nS])->Cells W L.heap.size 0 [iV 0,AA [],iV 0,iV 0,nS]:=fun W h=>h.2.2;replace a:=a.E m O;replace b:=b.E m O;replace V:=V.E m O;replace f:=f.E m O;replace c:=c.E m O;have k:Keep [D,i,s] w X:=(g.Q m).any;((apply D_R rfl rfl;(intro W I;refine Al rfl rF (A W I) ?_;exact Z3))<;>refine D_R rfl rfl (fun W I=>AV rfl Z3) (D_R rfl rfl (fun W I=>AQ rfl (y W I) Z3) (D_R rfl rfl (fun W I=>AV rfl Z3) (D_R rfl rfl (fun W I=>AQ rfl (z W I) Z3) ?_))))
 refine D_E rfl ?_;refine Aa (cs:=[iV 0,AA [],iV 0,iV 0,nS]) rfl rfl rfl (Ak rfl) V (by rw[d];simp) (fun W p=>?_);have F:=p.D;rw[FC t [iV 0,AA [],iV 0,iV 0,nS] (by rw[d])]at F;replace f:=f.E p.E rE;replace c:=c.E p.E rE;replace a:=a.E p.E rE;replace b:=b.E p.E rE;replace k:=k.Q p.E O;clear V p;have V:=F;refine wNl (⟨a.cell rfl,a.cell rfl,b.cells⟩) ?_;refine D_E rfl ?_;refine AW rfl rfl rfl f O (fun H p=>?_);exact si
def jz(w:World)(D i s:Nat):CallsDIn Fence.wide 0 Zp 73 ([]++[pt D,pt i,pt s]:LV).toArray .returning w (fun e v w'=>match e with| .returned _=>v=.returning/\Ext w w'|_=>False):=by
 refine JC (u1:=.returning) (v0:=.nilIface) (G:=fun _ w'=>Ext w w') (args:=[pt D,pt i,pt s]) func73 rfl ntmps73 O rI rD rD (.inl ⟨rfl,rfl,rfl⟩) ?_;exact tm
def jx(w:World)(D i s:Nat)(t:LV)(C j:Value)(e q:Int)(V:Blk w D 25 t)(d:t.length=([nS,nS]:LV).length)(f:Blk w i 28 [C])(c:Blk w s 3 [j])(M:D≠i)(N:D≠s)(l:i≠s):
  CallsDIn Fence.wide 0 Zp 73 ([]++[pt D,pt i,pt s]:LV).toArray (.panicking [{v:=.iface 121 (.agg #[iV e,iV q]),recovered:=false}]) w
   (fun u B w'=>match u with| .returned _=>B=.panicking [{v:=.iface 121 (.agg #[.int .i64 e,.int .i64 q]),recovered:=true}]/\(Keep [D,i,s] w w'/\Blk w' D 25 [.slice none 0 0,.slice none 0 0]/\Blk w' i 28 [.int .i64 e]/\Blk w' s 3 [.int .i64 q])|_=>False):=by
 have Z:=V.lt;have E:=f.lt;have P:=c.lt
 refine JC (u1:=.panicking [{v:=.iface 121 (.agg #[iV e,iV q]),recovered:=true}]) (v0:=.iface 121 (.agg #[iV e,iV q]))
  (G:=fun _ w'=>Keep [D,i,s] w w'/\Blk w' D 25 [nS,nS]/\Blk w' i 28 [iV e]/\Blk w' s 3 [iV q]) (args:=[pt D,pt i,pt s]) func73 rfl ntmps73 O rI rD rD (.inr ⟨_,rfl,rfl,rfl⟩) ?_
 refine QH rfl ?_;refine Mf rfl (H7 rfl rfl (H7 rfl rfl ?_));refine CL (cs:=[iV e,iV q]) rfl rfl rF (Ak rfl) (fun L R=>?_);have a:=R.D;have Q:=R.size;refine go ?_;refine Ai (fun o n=>?_);have S:=n.size;have b:Blk o L.heap.size 25 [nS,nS]:=n.D;replace a:=a.E n.E O;have g:Ext w o:=R.E.Q n.E;replace V:=V.E g O;replace f:=f.E g O;replace c:=c.E g O;refine go ?_;refine Ab (rd 0 5 (.alt 5 (.alt 6 (.alt 7 .done .stop) .stop) .stop)) AX rD (fun X m T=>⟨fun W=>W.cell? ⟨w.heap.size,0,none⟩=some (iV e)/\W.cell? ⟨w.heap.size,1,none⟩=some (iV q)/\Cells W L.heap.size 0 [nS,nS],?_,?_⟩)
 ·exact⟨(a.E m O).cell rfl,(a.E m O).cell rfl,(b.E m O).cells⟩
 have y:∀W:World,(W.cell? ⟨w.heap.size,0,none⟩=some (iV e)/\W.cell? ⟨w.heap.size,1,none⟩=some (iV q)/\Cells W L.heap.size 0 [nS,nS])->W.cell? ⟨w.heap.size,0,none⟩=some (iV e):=fun W h=>h.1;have z:∀W:World,(W.cell? ⟨w.heap.size,0,none⟩=some (iV e)/\W.cell? ⟨w.heap.size,1,none⟩=some (iV q)/\Cells W L.heap.size 0 [nS,nS])->W.cell? ⟨w.heap.size,1,none⟩=some (iV q):=fun W h=>h.2.1;have A:∀W:World,(W.cell? ⟨w.heap.size,0,none⟩=some (iV e)/\W.cell? ⟨w.heap.size,1,none⟩=some (iV q)/\Cells W L.heap.size 0 [nS,nS])->Cells W L.heap.size 0 [nS,nS]:=fun W h=>h.2.2;replace a:=a.E m O;replace b:=b.E m O;replace V:=V.E m O;replace f:=f.E m O;replace c:=c.E m O;have k:Keep [D,i,s] w X:=(g.Q m).any;((apply D_R rfl rfl;(intro W I;refine Al rfl rF (A W I) ?_;exact Z3))<;>refine D_R rfl rfl (fun W I=>AV rfl Z3) (D_R rfl rfl (fun W I=>AQ rfl (y W I) Z3) (D_R rfl rfl (fun W I=>AV rfl Z3) (D_R rfl rfl (fun W I=>AQ rfl (z W I) Z3) ?_))))
 refine D_E rfl ?_;refine Aa (cs:=[nS,nS]) rfl rfl rfl (Ak rfl) V (by rw[d];simp) (fun W p=>?_);have F:=p.D;rw[FC t [nS,nS] (by rw[d])]at F;replace f:=f.E p.E rE;replace c:=c.E p.E rE;replace a:=a.E p.E rE;replace b:=b.E p.E rE;replace k:=k.Q p.E O;clear V p;have V:=F;refine wNl (⟨a.cell rfl,a.cell rfl,b.cells⟩) ?_;refine D_E rfl ?_;refine AW rfl rfl rfl f O (fun H p=>?_);exact si
def NB{α:Type}(n:Nat):Ans α->Except (Int×Nat) α
 | .ok y=>.ok y.1
 | .error []=>.error (51,n)
 | .error (x::_)=>.error (50,x.loc)
def PRes(nt:NT)(t:LU)(r:Except (Int×Nat) nt.T):Prop:=
 match C7 t with
 | .error e=>r=.error e
 | .ok ts=>∃a:Ans nt.T,Run (whole nt) ts a/\r=NB t.length a
def PRes.det{nt:NT}{t:LU}{r C:Except (Int×Nat) nt.T}(h:PRes nt t r)(Q:PRes nt t C):r=C:=by
 unfold PRes at h Q;cases hm:C7 t with
 |error e=>rw[hm]at h Q;rw[h,Q]
 |ok ts=>
  rw[hm]at h Q;obtain⟨a,Z,rfl⟩:=h;obtain⟨b,W,rfl⟩:=Q;rw[Z.det W]
def K5{α:Type}(R:Rp α)(Q:LV->Value)(zero:LV)(P:Except (Int×Nat) α->Prop)(w w':World)(v:Value):Prop:=
 ∃c e q,v=.tuple #[Q c,iV e,iV q]/\Ext w w'/\((∃a,P (.ok a)/\e=0/\q= -1/\R.fits (fresh w) w' c a)\/∃p:Nat,P (.error (e,p))/\e≠0/\q=(p:Int)/\c=zero)
def XM{α:Type}(n:Nat)(l:List Tok):∃e p,NP n l=Ss e p/\(NB n (.error l:Ans α))=.error (e,p)/\e≠0:=by
 cases l with
 |nil=>exact⟨51,n,rfl,rfl,by decide⟩
 |cons x l=>exact⟨50,x.loc,rfl,rfl,by decide⟩
def Y6(w:World)(t:LU)(z:GV w):Fn Zp 72 [AA t] w fun v w'=>∃a c e q ts,v=.tuple #[.slice a ts.length c,iV e,iV q]/\Ext w w'/\Sl (fun b=>w.heap.size<=b/\b<w'.heap.size) w' (.slice a ts.length c) ts.length (EB ts)/\
  ((C7 t=.ok ts/\e=0/\q= -1)\/∃p:Nat,C7 t=.error (e,p)/\e≠0/\q=(p:Int)/\ts=[]):=by
 refine(pZ w t z).mono ?_;rintro v w'⟨tv,e,q,rfl,k,h⟩;unfold YC at h;cases hm:C7 t with
 |ok ts=>
  rw[hm]at h;obtain⟨rfl,rfl,f⟩:=h;have E:=BG (ok:=fun b=>w.heap.size<=b/\b<w'.heap.size) f fun g y=>Ao f y;obtain⟨a,c,rfl,B⟩:=id E;exact⟨a,c,0, -1,ts,rfl,k,E,.inl ⟨rfl,rfl,rfl⟩⟩
 |error r=>
  obtain⟨d,p⟩:=r;rw[hm]at h;obtain⟨rfl,rfl,rfl⟩:=h;exact⟨none,0,e,p,[],rfl,k,⟨_,_,rfl,by simp,by omega,fun _=>rfl,.inl rfl⟩,.inr ⟨p,rfl,ja hm,rfl,rfl⟩⟩
def Kn{P:Program}{f:Fr}{w:World}{T n b t:Nat}{L:LV}{l:List ResultVar}{k:LV->Prop}[hT:DU P T n](G:f t=.pointer (sm b))(N:L.length=n)(a:Cells w b 0 L)(h:GO P l f w fun r=>k (.agg L.toArray::r)):GO P (.cell t T::l) f w k:=
 ⟨_,_,G,NW hT N a,h⟩
def qu(w:World)(t:LU)(hG:GK w)(hI:∀E N,Hp fmlR GC E N 46 (body .formula)):Fn Zp 45 [AA t,.func (.func 46) #[] #[]] w (fun v w'=>K5 fmlR GC [iV 0,AA [],iV 0,iV 0,nS] (PRes .formula t) w w' v):=by
 have e9:=hG.gv.size;refine HN func45 rfl ntmps45 nlr rD (go ?_);refine Ai (fun Q n1=>?_);refine Ai (fun d n2=>?_);refine Ai (fun j n3=>?_);have z1:=n1.size;have z2:=n2.size;have z3:=n3.size;have b1:Blk j w.heap.size 37 [iV 0,AA [],iV 0,iV 0,nS]:=(n1.D.E n2.E O).E n3.E O;have b2:Blk j Q.heap.size 28 [iV 0]:=n2.D.E n3.E O;have b3:Blk j d.heap.size 3 [iV 0]:=n3.D;have k3:Ext w j:=(n1.E.Q n2.E).Q n3.E;refine gC (Y6 j t (hG.gv.ext k3)) ?_;rintro v w4⟨ta,tc,e,q,n,rfl,k4,hT,y⟩;have z4:=k4.size;have c1:=b1.E k4 O;have c2:=b2.E k4 O;have c3:=b3.E k4 O;refine go ?_;refine AW rfl rfl rfl c2 O (fun w5 H=>?_);refine AW rfl rfl rfl (c3.E H.E rE) O (fun w6 K=>?_);have z5:=H.size;have z6:=K.size;have P:Blk w6 w.heap.size 37 [iV 0,AA [],iV 0,iV 0,nS]:=(c1.E H.E rE).E K.E rE;have X:Blk w6 Q.heap.size 28 [iV e]:=H.D.E K.E rE;have Z:Blk w6 d.heap.size 3 [iV q]:=K.D;have k6:Ext w w6:=((k3.Q k4).E H.E rE).E K.E rE;refine go ?_;rcases y with⟨y,rfl,rfl⟩|⟨p,y,he,rfl,rfl⟩
 ·obtain⟨ht6,d9,e0⟩:=Uo y;refine go ?_;refine Ox (v1:=[]) (v2:=[pt w.heap.size,pt Q.heap.size,pt d.heap.size]) (vs:=[]) rfl rfl ?_;refine gC (Tb w6) ?_;rintro v w7⟨G,rfl,hmp,B,b7⟩;refine AD (T3 w7) rfl ?_;rintro v g⟨C,rfl,f0,s,b4⟩;have hpl:=b7.lt;have d2:=b4.lt;have g0:=B.size;have zk8:=s.size;refine go ?_;refine Ac (L:=[.slice ta n.length tc,iV (t.length:Int),.map (some G),.map (some C)]) rfl (fun M z=>?_);have z9:=z.size;have k9:Ext w M:=((k6.Q B).Q s).Q z.E;refine go ?_;have c6:=((((hT.E H.E (fun b S=>by simp;omega)).E K.E (fun b S=>by simp;omega)).ext B).ext s).ext z.E;have f1:=(((P.E B O).E s O).E z.E O);have f2:=(((X.E B O).E s O).E z.E O);have f3:=(((Z.E B O).E s O).E z.E O);have hP:PSt M ⟨j.heap.size,g.heap.size,t.length,G,C⟩ n:=⟨⟨ta,tc,z.D,c6.mono fun b S=>by have:=S.1;have:=S.2;exact⟨by show j.heap.size<=b;omega,by show b<g.heap.size;omega⟩⟩,(b7.E s O).E z.E O,b4.E z.E O,⟨by show G<g.heap.size;omega,d2⟩,e0,d9⟩;have I:PW M ⟨j.heap.size,g.heap.size,t.length,G,C⟩ n:=⟨hP,hG.ext k9,by show 10<=g.heap.size;omega⟩;have b6:∀{r:Ans (NT.T .formula)},Run (whole .formula) n r->PRes .formula t (NB t.length r):=fun{r}hr=>by unfold PRes;rw[y];exact⟨r,hr,rfl⟩
  have b5:∀(f:Fr)(o:World)(l:List Tok),Run (whole .formula) n (.error l)->Keep [g.heap.size,w.heap.size] M o->(∃L1,Blk o w.heap.size 37 L1/\L1.length=5)->f 4=pt w.heap.size->f 5=pt Q.heap.size->f 6=pt d.heap.size->
    Cc Zp Tryz.f45 (fun v w'=>K5 fmlR GC [iV 0,AA [],iV 0,iV 0,nS] (PRes .formula t) w w' v) (fun _ _=>False) (.panic (NP t.length l)) f [{target:=.fn (.func 108) #[pt w.heap.size,pt Q.heap.size,pt d.heap.size],args:=#[]}] o:=by
   rintro f o l hr hk⟨L1,g1,c5⟩e4 e5 e6;obtain⟨e,p,d0,d1,c9⟩:=XM (α:=NT.T .formula) t.length l;rw[d0];refine Nb (a:=[]) (c:=[pt w.heap.size,pt Q.heap.size,pt d.heap.size]) (jw o _ _ _ L1 _ _ e (p:Int) g1 c5 (f2.E hk rE) (f3.E hk rE) U U U) fun w11 c4=>?_;obtain⟨e1,k,a4,a5⟩:=c4;refine Kn e4 rfl k.cells (CV e5 (a4.cell rfl) (CV e6 (a5.cell rfl) ?_));have hp:=b6 hr;rw[d1]at hp;exact⟨[iV 0,AA [],iV 0,iV 0,nS],e,p,rfl,(k9.E hk rE).E e1 rE,.inr ⟨p,hp,c9,rfl,rfl⟩⟩
  refine go ?_;refine GJ (v1:=[]) (v2:=[]) (vs:=[pt g.heap.size]) rfl (hI ⟨j.heap.size,g.heap.size,t.length,G,C⟩ n.length M n I (AO _)) rfl ?_ ?_;rotate_left
  ·exact uP
  rintro v o⟨m,a,e7,r10,e3,c,rfl,fit⟩;have i:c.length=5:=Rp.len fmlR fit;have hco:=Rp.one fmlR fit;have g1:=f1.E m rE;have g2:=f2.E m rE;have g3:=f3.E m rE;have f6:=m.size;refine Aa (cs:=c) rfl rfl i hco g1 O (fun w11 A=>?_)
  have k:Blk w11 w.heap.size 37 c:=by
   have:=A.D;rw[FC [iV 0,AA [],iV 0,iV 0,nS] c (by rw[i];rfl)]at this;exact this
  have a4:=g2.E A.E rE;have a5:=g3.E A.E rE;have fit':=Rp.E fmlR fit A.E (fun b S=>by simp[fresh]at S⊢;omega);have b8:Keep [g.heap.size,w.heap.size] M w11:=(m.mono O).Q (A.E.mono (Y:=[g.heap.size,w.heap.size]) O) O;have f7:=A.size;have hE:w.heap.size<g.heap.size:=by omega
  obtain⟨⟨ta',tc',c7,d8⟩,d3,d4,d5,d6,d7⟩:=id e3;have c8:=c7.E A.E rE;refine go ?_;cases e7 with
  |cons x l=>
   have hl:(x::l).length=l.length+1:=rfl;refine go ?_;have q11:PSt w11 ⟨j.heap.size,g.heap.size,t.length,G,C⟩ (x::l):=⟨⟨ta',tc',c8,d8.E A.E (fun b S=>by have:j.heap.size<=b:=S.1;simp;omega)⟩,d3.E A.E rE,d4.E A.E rE,d5,d6,d7⟩;refine Av (JK ⟨j.heap.size,g.heap.size,t.length,G,C⟩ w11 (x::l) q11) rfl (R:=fun _ _=>False) ?_ ?_
   ·rintro v d hh;exact hh.elim
   ·exact uN
  |nil=>
   have hl:([]:List Tok).length=0:=rfl;refine go ?_;refine Cu rfl k i ?_;refine Aa (cs:=c) rfl rfl i hco k U (fun e8 F=>?_)
   have i1:Blk e8 w.heap.size 37 c:=by
    have:=F.D;rw[FC c c rfl]at this;exact this
   refine AW rfl rfl rfl (a4.E F.E rE) O (fun f4 V=>?_);refine AW rfl rfl rfl ((a5.E F.E rE).E V.E rE) O (fun a6 a0=>?_);have f8:=F.size;have f9:=V.size;have j1:=(i1.E V.E rE).E a0.E rE;have j2:Blk a6 Q.heap.size 28 [iV 0]:=V.D.E a0.E rE;have j3:Blk a6 d.heap.size 3 [iV (-1)]:=a0.D;have e2:Ext w a6:=(((k9.E b8 rE).E F.E O).E V.E rE).E a0.E rE;have fit14:=Rp.E fmlR (Rp.E fmlR (Rp.E fmlR fit' F.E (fun b S=>by simp[fresh]at S⊢;omega)) V.E (fun b S=>by simp[fresh]at S⊢;omega)) a0.E (fun b S=>by simp[fresh]at S⊢;omega);refine go ?_;refine Nc (a:=[]) (c:=[pt w.heap.size,pt Q.heap.size,pt d.heap.size]) (jy _ _ _ _) fun f5 D=>?_;refine Kn rfl i (j1.E D O).cells (CV rfl ((j2.E D O).cell rfl) (CV rfl ((j3.E D O).cell rfl) ?_));have hp:=b6 (Run.call r10 (Run.look (Run.ret _ _)));exact⟨c,0, -1,rfl,e2.Q D,.inl ⟨a,hp,rfl,rfl,Rp.mono fmlR (Rp.ext fmlR fit14 D) fun b S=>by simp only[fresh]at S⊢;omega⟩⟩
 ·refine go ?_;refine Ab (rd 0 3 (.alt 3 (.alt 4 (.alt 5 .done .stop) .stop) .stop)) AX rD (fun wd u ed=>⟨fun W=>Cells W w.heap.size 0 [iV 0,AA [],iV 0,iV 0,nS]/\W.cell? ⟨Q.heap.size,0,none⟩=some (iV e)/\W.cell? ⟨d.heap.size,0,none⟩=some (iV (p:Int)),?_,?_⟩)
  ·exact⟨(P.E u O).cells,(X.E u O).cell rfl,(Z.E u O).cell rfl⟩
  have b9:∀W:World,(Cells W w.heap.size 0 [iV 0,AA [],iV 0,iV 0,nS]/\W.cell? ⟨Q.heap.size,0,none⟩=some (iV e)/\W.cell? ⟨d.heap.size,0,none⟩=some (iV (p:Int)))->Cells W w.heap.size 0 [iV 0,AA [],iV 0,iV 0,nS]:=fun W h=>h.1;have c0:∀W:World,(Cells W w.heap.size 0 [iV 0,AA [],iV 0,iV 0,nS]/\W.cell? ⟨Q.heap.size,0,none⟩=some (iV e)/\W.cell? ⟨d.heap.size,0,none⟩=some (iV (p:Int)))->W.cell? ⟨Q.heap.size,0,none⟩=some (iV e):=fun W h=>h.2.1;have fc2:∀W:World,(Cells W w.heap.size 0 [iV 0,AA [],iV 0,iV 0,nS]/\W.cell? ⟨Q.heap.size,0,none⟩=some (iV e)/\W.cell? ⟨d.heap.size,0,none⟩=some (iV (p:Int)))->W.cell? ⟨d.heap.size,0,none⟩=some (iV (p:Int)):=fun W h=>h.2.2;replace P:=P.E u O;replace X:=X.E u O;replace Z:=Z.E u O;((apply D_R rfl rfl;(intro W I;refine Al rfl rF (b9 W I) ?_;exact Z3))<;>refine D_R rfl rfl (fun W I=>AQ rfl (c0 W I) Z3) (D_R rfl rfl (fun W I=>AQ rfl (fc2 W I) Z3) ?_))
  refine D_E rfl ?_;refine Aa (cs:=[iV 0,AA [],iV 0,iV 0,nS]) rfl rfl rfl (Ak rfl) P O (fun wa pa=>?_);have a1:Blk wa w.heap.size 37 [iV 0,AA [],iV 0,iV 0,nS]:=pa.D;have a2:=X.E pa.E rE;have a3:=Z.E pa.E rE;refine wNl (⟨a1.cells,a2.cell rfl,a3.cell rfl⟩) ?_;refine D_E rfl ?_;refine AW rfl rfl rfl a2 O (fun wb pb=>?_);have a7:=a1.E pb.E rE;have a8:Blk wb Q.heap.size 28 [iV e]:=pb.D;have a9:=a3.E pb.E rE;refine wNl (⟨a7.cells,a8.cell rfl,a9.cell rfl⟩) ?_;refine D_E rfl ?_;refine AW rfl rfl rfl a9 O (fun wc pc=>?_);have b0:=a7.E pc.E rE;have c2':=a8.E pc.E rE;have c3':Blk wc d.heap.size 3 [iV (p:Int)]:=pc.D;refine wNl (⟨b0.cells,c2'.cell rfl,c3'.cell rfl⟩) ?_;refine go ?_;refine Et (Kn rfl rfl b0.cells (CV rfl (c2'.cell rfl) (CV rfl (c3'.cell rfl) ?_)));refine⟨[iV 0,AA [],iV 0,iV 0,nS],e,p,rfl,(((k6.Q u).E pa.E O).E pb.E rE).E pc.E rE,.inr ⟨p,?_,he,rfl,rfl⟩⟩;unfold PRes;rw[y]
def qv(w:World)(t:LU)(hG:GK w)(hI:∀E N,Hp spcR GC E N 29 (body .spec)):Fn Zp 28 [AA t,.func (.func 29) #[] #[]] w (fun v w'=>K5 spcR GC [nS,nS] (PRes .spec t) w w' v):=by
 have e9:=hG.gv.size;refine HN func28 rfl ntmps28 nlr rD (go ?_);refine Ai (fun Q n1=>?_);refine Ai (fun d n2=>?_);refine Ai (fun j n3=>?_);have z1:=n1.size;have z2:=n2.size;have z3:=n3.size;have b1:Blk j w.heap.size 25 [nS,nS]:=(n1.D.E n2.E O).E n3.E O;have b2:Blk j Q.heap.size 28 [iV 0]:=n2.D.E n3.E O;have b3:Blk j d.heap.size 3 [iV 0]:=n3.D;have k3:Ext w j:=(n1.E.Q n2.E).Q n3.E;refine gC (Y6 j t (hG.gv.ext k3)) ?_;rintro v w4⟨ta,tc,e,q,n,rfl,k4,hT,y⟩;have z4:=k4.size;have c1:=b1.E k4 O;have c2:=b2.E k4 O;have c3:=b3.E k4 O;refine go ?_;refine AW rfl rfl rfl c2 O (fun w5 H=>?_);refine AW rfl rfl rfl (c3.E H.E rE) O (fun w6 K=>?_);have z5:=H.size;have z6:=K.size;have P:Blk w6 w.heap.size 25 [nS,nS]:=(c1.E H.E rE).E K.E rE;have X:Blk w6 Q.heap.size 28 [iV e]:=H.D.E K.E rE;have Z:Blk w6 d.heap.size 3 [iV q]:=K.D;have k6:Ext w w6:=((k3.Q k4).E H.E rE).E K.E rE;refine go ?_;rcases y with⟨y,rfl,rfl⟩|⟨p,y,he,rfl,rfl⟩
 ·obtain⟨ht6,d9,e0⟩:=Uo y;refine go ?_;refine Ox (v1:=[]) (v2:=[pt w.heap.size,pt Q.heap.size,pt d.heap.size]) (vs:=[]) rfl rfl ?_;refine gC (Tb w6) ?_;rintro v w7⟨G,rfl,hmp,B,b7⟩;refine AD (T3 w7) rfl ?_;rintro v g⟨C,rfl,f0,s,b4⟩;have hpl:=b7.lt;have d2:=b4.lt;have g0:=B.size;have zk8:=s.size;refine go ?_;refine Ac (L:=[.slice ta n.length tc,iV (t.length:Int),.map (some G),.map (some C)]) rfl (fun M z=>?_);have z9:=z.size;have k9:Ext w M:=((k6.Q B).Q s).Q z.E;refine go ?_;have c6:=((((hT.E H.E (fun b S=>by simp;omega)).E K.E (fun b S=>by simp;omega)).ext B).ext s).ext z.E;have f1:=(((P.E B O).E s O).E z.E O);have f2:=(((X.E B O).E s O).E z.E O);have f3:=(((Z.E B O).E s O).E z.E O);have hP:PSt M ⟨j.heap.size,g.heap.size,t.length,G,C⟩ n:=⟨⟨ta,tc,z.D,c6.mono fun b S=>by have:=S.1;have:=S.2;exact⟨by show j.heap.size<=b;omega,by show b<g.heap.size;omega⟩⟩,(b7.E s O).E z.E O,b4.E z.E O,⟨by show G<g.heap.size;omega,d2⟩,e0,d9⟩;have I:PW M ⟨j.heap.size,g.heap.size,t.length,G,C⟩ n:=⟨hP,hG.ext k9,by show 10<=g.heap.size;omega⟩;have b6:∀{r:Ans (NT.T .spec)},Run (whole .spec) n r->PRes .spec t (NB t.length r):=fun{r}hr=>by unfold PRes;rw[y];exact⟨r,hr,rfl⟩
  have b5:∀(f:Fr)(o:World)(l:List Tok),Run (whole .spec) n (.error l)->Keep [g.heap.size,w.heap.size] M o->(∃L1,Blk o w.heap.size 25 L1/\L1.length=2)->f 4=pt w.heap.size->f 5=pt Q.heap.size->f 6=pt d.heap.size->
    Cc Zp Tryz.f28 (fun v w'=>K5 spcR GC [nS,nS] (PRes .spec t) w w' v) (fun _ _=>False) (.panic (NP t.length l)) f [{target:=.fn (.func 73) #[pt w.heap.size,pt Q.heap.size,pt d.heap.size],args:=#[]}] o:=by
   rintro f o l hr hk⟨L1,g1,c5⟩e4 e5 e6;obtain⟨e,p,d0,d1,c9⟩:=XM (α:=NT.T .spec) t.length l;rw[d0];refine Nb (a:=[]) (c:=[pt w.heap.size,pt Q.heap.size,pt d.heap.size]) (jx o _ _ _ L1 _ _ e (p:Int) g1 c5 (f2.E hk rE) (f3.E hk rE) U U U) fun w11 c4=>?_;obtain⟨e1,k,a4,a5⟩:=c4;refine Kn e4 rfl k.cells (CV e5 (a4.cell rfl) (CV e6 (a5.cell rfl) ?_));have hp:=b6 hr;rw[d1]at hp;exact⟨[nS,nS],e,p,rfl,(k9.E hk rE).E e1 rE,.inr ⟨p,hp,c9,rfl,rfl⟩⟩
  refine go ?_;refine GJ (v1:=[]) (v2:=[]) (vs:=[pt g.heap.size]) rfl (hI ⟨j.heap.size,g.heap.size,t.length,G,C⟩ n.length M n I (AO _)) rfl ?_ ?_;rotate_left
  ·exact uP
  rintro v o⟨m,a,e7,r10,e3,c,rfl,fit⟩;have i:c.length=2:=Rp.len spcR fit;have hco:=Rp.one spcR fit;have g1:=f1.E m rE;have g2:=f2.E m rE;have g3:=f3.E m rE;have f6:=m.size;refine Aa (cs:=c) rfl rfl i hco g1 O (fun w11 A=>?_)
  have k:Blk w11 w.heap.size 25 c:=by
   have:=A.D;rw[FC [nS,nS] c (by rw[i];rfl)]at this;exact this
  have a4:=g2.E A.E rE;have a5:=g3.E A.E rE;have fit':=Rp.E spcR fit A.E (fun b S=>by simp[fresh]at S⊢;omega);have b8:Keep [g.heap.size,w.heap.size] M w11:=(m.mono O).Q (A.E.mono (Y:=[g.heap.size,w.heap.size]) O) O;have f7:=A.size;have hE:w.heap.size<g.heap.size:=by omega
  obtain⟨⟨ta',tc',c7,d8⟩,d3,d4,d5,d6,d7⟩:=id e3;have c8:=c7.E A.E rE;refine go ?_;cases e7 with
  |cons x l=>
   have hl:(x::l).length=l.length+1:=rfl;refine go ?_;have q11:PSt w11 ⟨j.heap.size,g.heap.size,t.length,G,C⟩ (x::l):=⟨⟨ta',tc',c8,d8.E A.E (fun b S=>by have:j.heap.size<=b:=S.1;simp;omega)⟩,d3.E A.E rE,d4.E A.E rE,d5,d6,d7⟩;refine Av (JK ⟨j.heap.size,g.heap.size,t.length,G,C⟩ w11 (x::l) q11) rfl (R:=fun _ _=>False) ?_ ?_
   ·rintro v d hh;exact hh.elim
   ·exact uN
  |nil=>
   have hl:([]:List Tok).length=0:=rfl;refine go ?_;refine Cu rfl k i ?_;refine Aa (cs:=c) rfl rfl i hco k U (fun e8 F=>?_)
   have i1:Blk e8 w.heap.size 25 c:=by
    have:=F.D;rw[FC c c rfl]at this;exact this
   refine AW rfl rfl rfl (a4.E F.E rE) O (fun f4 V=>?_);refine AW rfl rfl rfl ((a5.E F.E rE).E V.E rE) O (fun a6 a0=>?_);have f8:=F.size;have f9:=V.size;have j1:=(i1.E V.E rE).E a0.E rE;have j2:Blk a6 Q.heap.size 28 [iV 0]:=V.D.E a0.E rE;have j3:Blk a6 d.heap.size 3 [iV (-1)]:=a0.D;have e2:Ext w a6:=(((k9.E b8 rE).E F.E O).E V.E rE).E a0.E rE;have fit14:=Rp.E spcR (Rp.E spcR (Rp.E spcR fit' F.E (fun b S=>by simp[fresh]at S⊢;omega)) V.E (fun b S=>by simp[fresh]at S⊢;omega)) a0.E (fun b S=>by simp[fresh]at S⊢;omega);refine go ?_;refine Nc (a:=[]) (c:=[pt w.heap.size,pt Q.heap.size,pt d.heap.size]) (jz _ _ _ _) fun f5 D=>?_;refine Kn rfl i (j1.E D O).cells (CV rfl ((j2.E D O).cell rfl) (CV rfl ((j3.E D O).cell rfl) ?_));have hp:=b6 (Run.call r10 (Run.look (Run.ret _ _)));exact⟨c,0, -1,rfl,e2.Q D,.inl ⟨a,hp,rfl,rfl,Rp.mono spcR (Rp.ext spcR fit14 D) fun b S=>by simp only[fresh]at S⊢;omega⟩⟩
 ·refine go ?_;refine Ab (rd 0 3 (.alt 3 (.alt 4 (.alt 5 .done .stop) .stop) .stop)) AX rD (fun wd u ed=>⟨fun W=>Cells W w.heap.size 0 [nS,nS]/\W.cell? ⟨Q.heap.size,0,none⟩=some (iV e)/\W.cell? ⟨d.heap.size,0,none⟩=some (iV (p:Int)),?_,?_⟩)
  ·exact⟨(P.E u O).cells,(X.E u O).cell rfl,(Z.E u O).cell rfl⟩
  have b9:∀W:World,(Cells W w.heap.size 0 [nS,nS]/\W.cell? ⟨Q.heap.size,0,none⟩=some (iV e)/\W.cell? ⟨d.heap.size,0,none⟩=some (iV (p:Int)))->Cells W w.heap.size 0 [nS,nS]:=fun W h=>h.1;have c0:∀W:World,(Cells W w.heap.size 0 [nS,nS]/\W.cell? ⟨Q.heap.size,0,none⟩=some (iV e)/\W.cell? ⟨d.heap.size,0,none⟩=some (iV (p:Int)))->W.cell? ⟨Q.heap.size,0,none⟩=some (iV e):=fun W h=>h.2.1;have fc2:∀W:World,(Cells W w.heap.size 0 [nS,nS]/\W.cell? ⟨Q.heap.size,0,none⟩=some (iV e)/\W.cell? ⟨d.heap.size,0,none⟩=some (iV (p:Int)))->W.cell? ⟨d.heap.size,0,none⟩=some (iV (p:Int)):=fun W h=>h.2.2;replace P:=P.E u O;replace X:=X.E u O;replace Z:=Z.E u O;((apply D_R rfl rfl;(intro W I;refine Al rfl rF (b9 W I) ?_;exact Z3))<;>refine D_R rfl rfl (fun W I=>AQ rfl (c0 W I) Z3) (D_R rfl rfl (fun W I=>AQ rfl (fc2 W I) Z3) ?_))
  refine D_E rfl ?_;refine Aa (cs:=[nS,nS]) rfl rfl rfl (Ak rfl) P O (fun wa pa=>?_);have a1:Blk wa w.heap.size 25 [nS,nS]:=pa.D;have a2:=X.E pa.E rE;have a3:=Z.E pa.E rE;refine wNl (⟨a1.cells,a2.cell rfl,a3.cell rfl⟩) ?_;refine D_E rfl ?_;refine AW rfl rfl rfl a2 O (fun wb pb=>?_);have a7:=a1.E pb.E rE;have a8:Blk wb Q.heap.size 28 [iV e]:=pb.D;have a9:=a3.E pb.E rE;refine wNl (⟨a7.cells,a8.cell rfl,a9.cell rfl⟩) ?_;refine D_E rfl ?_;refine AW rfl rfl rfl a9 O (fun wc pc=>?_);have b0:=a7.E pc.E rE;have c2':=a8.E pc.E rE;have c3':Blk wc d.heap.size 3 [iV (p:Int)]:=pc.D;refine wNl (⟨b0.cells,c2'.cell rfl,c3'.cell rfl⟩) ?_;refine go ?_;refine Et (Kn rfl rfl b0.cells (CV rfl (c2'.cell rfl) (CV rfl (c3'.cell rfl) ?_)));refine⟨[nS,nS],e,p,rfl,(((k6.Q u).E pa.E O).E pb.E rE).E pc.E rE,.inr ⟨p,?_,he,rfl,rfl⟩⟩;unfold PRes;rw[y]
def jP(E:Env)(N:Nat):Hp fmlR GC E N 46 (body .formula):=by
 intro w n h L;refine FnP.mono ((TX E N).2.2.2 w n h L) ?_ fun _ _ h=>h;rintro v X⟨k,a,W,r,q,f⟩;obtain⟨c,rfl,T,_⟩:=f.cells;exact⟨k,a,W,r,q,c,rfl,T,f⟩
def nK(w:World)(t:LU)(z:GK w):Fn Zp 15 [AA t] w (fun v w'=>K5 fmlR GC [iV 0,AA [],iV 0,iV 0,nS] (PRes .formula t) w w' v):=by
 refine AM func15 rfl ntmps15 (go ?_);refine Ai (fun Q D=>?_);have f:Blk Q w.heap.size 37 [iV 0,AA [],iV 0,iV 0,nS]:=D.D;have j:=D.size;refine gC (qu Q t (z.ext D.E) jP) ?_;rintro v L⟨c,e,q,rfl,m,B⟩
 have T:c.length=5/\oneC c:=by
  rcases B with⟨a,_,_,_,d⟩|⟨p,_,_,_,rfl⟩
  ·exact⟨Rp.len fmlR d,Rp.one fmlR d⟩
  ·exact⟨rfl,Ak rfl⟩
 have g:=f.E m O;refine go ?_;refine Aa (cs:=c) rfl rfl T.1 T.2 g O (fun l i=>?_)
 have k:Blk l w.heap.size 37 c:=by
  have:=i.D;rw[FC [iV 0,AA [],iV 0,iV 0,nS] c (by rw[T.1];rfl)]at this;exact this
 refine go ?_;refine Uf rfl rfl T.1 k.cells ⟨c,e,q,rfl,(D.E.Q m).E i.E O,?_⟩;rcases B with⟨a,Z,W,R,d⟩|h
 ·exact .inl ⟨a,Z,W,R,Rp.mono fmlR (Rp.E fmlR d i.E (fun b S=>by simp[fresh]at S⊢;omega)) (fun b S=>by simp only[fresh]at S⊢;omega)⟩
 ·exact .inr h
def nL(w:World)(t:LU)(z:GK w):Fn Zp 7 [AA t] w (fun v w'=>K5 spcR GC [nS,nS] (PRes .spec t) w w' v):=by
 refine AM func7 rfl ntmps7 (go ?_);refine Ai (fun Q D=>?_);have f:Blk Q w.heap.size 25 [nS,nS]:=D.D;have j:=D.size;refine gC (qv Q t (z.ext D.E) oB) ?_;rintro v L⟨c,e,q,rfl,m,B⟩
 have T:c.length=2/\oneC c:=by
  rcases B with⟨a,_,_,_,d⟩|⟨p,_,_,_,rfl⟩
  ·exact⟨Rp.len spcR d,Rp.one spcR d⟩
  ·exact⟨rfl,Ak rfl⟩
 have g:=f.E m O;refine go ?_;refine Aa (cs:=c) rfl rfl T.1 T.2 g O (fun l i=>?_)
 have k:Blk l w.heap.size 25 c:=by
  have:=i.D;rw[FC [nS,nS] c (by rw[T.1];rfl)]at this;exact this
 refine go ?_;refine Uf rfl rfl T.1 k.cells ⟨c,e,q,rfl,(D.E.Q m).E i.E O,?_⟩;rcases B with⟨a,Z,W,R,d⟩|h
 ·exact .inl ⟨a,Z,W,R,Rp.mono spcR (Rp.E spcR d i.E (fun b S=>by simp[fresh]at S⊢;omega)) (fun b S=>by simp only[fresh]at S⊢;omega)⟩
 ·exact .inr h
def YY(nt:NT)(t:LU)(n:Nat):Option (Except (Int×Nat) nt.T):=match C7 t with
 | .error e=>some (.error e)
 | .ok ts=>(evG (evN n) (whole nt) ts).map (NB t.length)
def PRes.ofE{nt:NT}{t:LU}{n:Nat}{r:Except (Int×Nat) nt.T}(h:YY nt t n=some r):PRes nt t r:=by
 unfold YY at h;unfold PRes;cases hm:C7 t with
 |error e=>rw[hm]at h;exact(Ae h).symm
 |ok ts=>
  rw[hm]at h;obtain⟨a,Z,W⟩:=Dd.1 h;exact⟨a,⟨n,Z⟩,W.symm⟩
def Uu(w:World)(t:LU)(a:Spc)(z:GK w)(h:PRes .spec t (.ok a)):Fn Zp 7 [AA t] w (fun v w'=>∃c,v=.tuple #[.agg c.toArray,iV 0,iV (-1)]/\Ext w w'/\spcR.fits AL w' c a):=by
 refine(nL w t z).mono ?_;rintro v w'⟨c,e,q,rfl,k,H|H⟩
 ·obtain⟨b,Z,rfl,rfl,f⟩:=H;obtain rfl:b=a:=by have:=Z.det h;cases this;rfl
  exact⟨c,rfl,k,Rp.mono spcR f fun _ _=>trivial⟩
 ·obtain⟨p,Z,_⟩:=H;have:=Z.det h;cases this
end
def Li:=@List.mem_cons_of_mem
section
variable {mk:Prop}[MK mk]
def MZ{w:World}{B e size n:Nat}{v:Value}{xs:LV}(h:w.ownsRow B e size v n xs):v.oneCell'=true:=by
 rcases h.2 with⟨rfl,_⟩|⟨g,u,C,rfl,_⟩<;>rfl
structure Bld(w W:World)(c:Nat)(op:Int)(nm:LU)(val bd:Int)(l:LF)(v:Value)(L:List (LV)):Prop where
 D:Blk W c 37 [iV op,AA nm,iV val,iV bd,v]
 own:W.ownsRow w.heap.size 37 5 v l.length L.flatten
 fs:FsAt (fun b=>(w.heap.size<=b/\b≠c)/\v.ownBlock≠some b) W L l
 ne:∀g,v.ownBlock=some g->g≠c
def Bld.ext{w W Z:World}{c:Nat}{op Q a:Int}{b:LU}{l:LF}{v:Value}{L:List (LV)}(h:Bld w W c op b Q a l v L)(k:Ext W Z):Bld w Z c op b Q a l v L:=
 ⟨h.D.E k O,CD h.own k,h.fs.ext k,h.ne⟩
def Bld.start{w W:World}{c:Nat}{op Q k:Int}{l:LU}(h:Blk W c 37 [iV op,AA l,iV Q,iV k,nS]):Bld w W c op l Q k [] (nS) []:=
 ⟨h,⟨rfl,.inl ⟨rfl,rfl⟩⟩,FsAt.nil _ _,fun g y=>by cases y⟩
def Bld.fin{w W:World}{c:Nat}{op Q k:Int}{a:LU}{l:LF}{v:Value}{L:List (LV)}(h:Bld w W c op a Q k l v L):FAt (fun b=>w.heap.size<=b/\b≠c) W (.agg #[iV op,AA a,iV Q,iV k,v]) ⟨op,a,Q,k,l⟩:=
 FAt.node op a Q k (BG h.own fun g y=>⟨(Ao h.own y).1,h.ne g y⟩) (h.fs.mono fun b S=>S.1)
def Bld.push{w W W1 H d:World}{c B:Nat}{op Q k:Int}{i:LU}{l:LF}{v j:Value}{L:List (LV)}{e T:TypeId}{cs:LV}{g:Fml}(h:Bld w W c op i Q k l v L)(u:w.heap.size<=c/\c<B)(m:∀g,v.ownBlock=some g->g<B)(y:w.heap.size<=B)(A:B<=W.heap.size)
  (K:FAt (fun b=>B<=b) W (.agg cs.toArray) g)(o:cs.length=5)(n:New W W1 e cs)(a:Apd W1 H w.heap.size 37 5 v j (l.length+1) (L.flatten++cs))
  (p:Put H d c T [iV op,AA i,iV Q,iV k,j])(s:T=37):Bld w d c op i Q k (l++[g]) j (L++[cs])/\Keep (c::v.ownBlock.toList) W d:=by
 subst s;have C:=n.size
 have f:∀b,j.ownBlock=some b->v.ownBlock=some b\/b=W1.heap.size:=fun b S=>by
  rcases a.D with e|e
  ·exact .inl sC
  ·rw[e]at S;exact .inr (Ae S).symm
 have z:∀b,j.ownBlock=some b->b≠c:=fun b S=>by
  rcases f b S with e|e
  ·exact h.ne b e
  ·omega
 have q:∀{b},b∈v.ownBlock.toList->v.ownBlock=some b:=fun V=>Aw.1 V;refine⟨⟨p.D,?_,FsAt.snoc ?_ ?_ o,z⟩,?_⟩
 ·have:=Bf a.own p.E (fun b S=>by simpa using z b S);rw[A9,FN];simpa using this
 ·refine((((h.fs.lt).ext n.E).E a.E ?_).E p.E ?_).mono ?_
  ·rintro b⟨⟨_,S⟩,_⟩V;exact S (q V)
  ·rintro b⟨⟨⟨_,S⟩,_⟩,_⟩;simpa using S
  ·rintro b⟨⟨⟨Z,r⟩,S⟩,t⟩;refine⟨⟨Z,r⟩,fun e=>?_⟩;rcases f b e with e|e
   ·exact S e
   ·omega
 ·refine((((K.lt).ext n.E).E a.E ?_).E p.E ?_).mono ?_
  ·rintro b⟨Z,_⟩V;have:=m b (q V);omega
  ·rintro b⟨Z,_⟩;simp;omega
  ·rintro b⟨Z,t⟩;refine⟨⟨by omega,by omega⟩,fun e=>?_⟩;rcases f b e with e|e
   ·have:=m b e;omega
   ·omega
 ·refine((n.E.any.Q a.E ?_).Q p.E ?_)
  ·intro x V _;exact Li _ V
  ·intro x V _;simp at V;subst V;exact List.mem_cons_self ..
end
def IX:=@List.findIdx?_eq_some_iff_getElem
def NU:=@List.findIdx?_eq_none_iff
section
variable {mk:Prop}[MK mk]
def EW(l:List Sgn)(s:LU):Int:=match l.findIdx? (fun x=>decide (x.name=s))with
 |some i=>(i:Int)
 |none=> -1
def Kh(w:World)(v:Value)(l:List Sgn)(s:LU)(h:SlAt sgnR AL w v l):Fn Zp 202 [v,AA s] w fun v w'=>v=iV (EW l s)/\w'=w:=by
 obtain⟨a,c,L,rfl,m,g⟩:=h;have A:l.length<=9223372036854775807:=by obtain⟨_,_,B,X,P,_⟩:=id m;cases B;omega
 refine AM func202 rfl ntmps202 (go ?_);refine Aj (α:=Nat) (fun k=>[(0,.slice a l.length c),(1,AA s),(7,iV (l.length:Int)),(8,iV (k:Int))]) (fun k W=>k<=l.length/\W=w/\∀j y,j<k->l[j]?=some y->y.name≠s) (fun k=>l.length-k) 0 ⟨rfl,rfl,rfl,rfl,trivial⟩ ⟨by omega,rfl,fun j y C=>by omega⟩ ?_;rintro k D E⟨G,rfl,C⟩;refine nX ?_;by_cases d:k<l.length
 ·obtain⟨y,I⟩:∃y,l[k]?=some y:=⟨_,AU d⟩;obtain⟨f,r⟩:∃f,L[k]?=some f:=⟨_,AU (by rw[g.1];exact d)⟩;obtain rfl:f=Fh y:=g.2 k f y r I;obtain⟨b,o,rfl,_,u⟩:=m.recs g (sz:=3) rfl r d;have e:D.cell? ⟨b,o+k*3+0,none⟩=some (AA y.name):=u 0 _ rfl;refine AN (FX rfl rfl U ?_);refine nX ?_;refine AN (AS rfl (AT (AS rfl ?_)));refine nX ?_;refine AN (BY rfl (AS rfl ?_));refine DZ (k:=k) rfl rfl rfl d ?_;by_cases q:y.name=s
  ·(refine AV rfl (AQ rfl rG ?_)<;>refine BL rfl ?_<;>refine CZ rfl rfl (fun T=>?_) (fun T=>?_)<;>refine AB ?_)
   case refine_2=>exact absurd q rG
   refine nX ?_;refine AN (AS rfl (AT (AS rfl ?_)));refine nX ?_;refine AC rfl ⟨?_,rfl⟩
   have:l.findIdx? (fun x=>decide (x.name=s))=some k:=by
    rw[IX];obtain⟨Z,t⟩:=Ah.1 I;refine⟨d,by simp[t,q],fun j n=>?_⟩;have:=C j l[j] n (AU U);simpa using this
   unfold EW;rw[this];rfl
  ·(refine AV rfl (AQ rfl rG ?_)<;>refine BL rfl ?_<;>refine CZ rfl rfl (fun T=>?_) (fun T=>?_)<;>refine AB ?_)
   case refine_1=>exact absurd rG q
   refine go ?_;refine⟨k+1,⟨rfl,⟨rfl,rfl,rfl,?_,trivial⟩,⟨by omega,rfl,fun j z n p=>?_⟩⟩,by omega⟩
   ·show iV ((k:Int)+1)=_;rw[BB];rfl
   ·rcases Nat.lt_or_ge j k with h|h
    ·exact C j z h p
    ·obtain rfl:j=k:=by omega
     rw[I]at p;cases p;exact q
 ·obtain rfl:k=l.length:=by omega
  refine go ?_;refine AC rfl ⟨?_,rfl⟩
  have:l.findIdx? (fun x=>decide (x.name=s))=none:=by
   rw[NU];intro x V;obtain⟨i,F⟩:=Cn V;simpa using C i x (Ah.1 F).1 F
  unfold EW;rw[this];rfl
end
end Go.Proofs.YtjbocjodncbogaaGreatDoor
