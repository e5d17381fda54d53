/- TopTextDuties, part 1 of 15: lemmas. Conditions: none. -/
import Derived.WalkKit
import Derived.ProofKit
import Derived.Scope
import Derived.Orders
import Derived.Deep.LoopGhost
import Derived.Sort.LoopGhostIn
import Derived.OrdersIn
import Derived.TacticsIn
import Derived.RangeFuncLeaves
import Derived.Laws.AppendOwn
import Derived.Laws.MakeOwn
import Derived.Laws.CopyRow
import Derived.Deep.Draws
import Derived.Laws.OwnMore
import Derived.Laws.CopyOwn
import Derived.KernelRfl
theorem Iff.Q{a b c:Prop}(h:a↔b)(k:b↔c):a↔c:=h.trans k
theorem Eq.Q.{u}{α:Sort u}{a b c:α}(h:a=b)(k:b=c):a=c:=h.trans k
theorem List.IsPrefix.Q{α:Type}{a b c:List α}(h:a<+:b)(k:b<+:c):a<+:c:=h.trans k
theorem List.IsSuffix.Q{α:Type}{a b c:List α}(h:a<:+b)(k:b<:+c):a<:+c:=h.trans k
namespace Go.Proofs.YtjbocjodncbogaaGreatDoor
open Go.RowKit
set_option linter.unusedVariables false
set_option linter.defProp false
abbrev LV:=List Value
abbrev LU:=List UInt8
abbrev iV(n:Int):Value:=.int .i64 n
abbrev sm(b:Nat):Option Addr:=some ⟨b,0,none⟩
abbrev nS:Value:=.slice none 0 0
abbrev sn(b o:Nat):Option Addr:=some ⟨b,o,none⟩
abbrev CC(w:World)(b o:Nat)(v:Value):Prop:=w.cell? ⟨b,o,none⟩=some v
theorem rQ{p:Prop}(h:p:=by first|exact Dt (by omega) (by omega)|exact Dv (by omega) (by omega)|exact Du (by omega) (by omega)):p:=h
theorem sD{p:Prop}(h:p:=by intro y g;simp[EE,Fj]at g;rcases g with rfl|rfl|rfl|rfl|rfl|rfl<;>rfl):p:=h
theorem sH{p:Prop}(h:p:=by rw[EJ (by omega)];simp[show u.length-z.length=0 by omega]):p:=h
theorem sI{p:Prop}(h:p:=by simp[execOp,V,I,eqGuard,binOp,Op.intArith,Mr B]):p:=h
theorem rj{p:Prop}(h:p:=by show Value.int .i64 ((k:Int)+1)=_;rw[BB];rfl):p:=h
theorem sE{p:Prop}(h:p:=by intro u o;simp at o;rcases o with rfl|rfl<;>rfl):p:=h
theorem sF{p:Prop}(h:p:=by simp[execOp,V,I,eqGuard,binOp,Op.stringOp,g]):p:=h
theorem rV{p:Prop}(h:p:=by simp[execOp,V,I,eqGuard,binOp,Op.intCmp,g]):p:=h
theorem rN{p:Prop}(h:p:=by first|rfl|omega|(simp only;omega)):p:=h
theorem rS{p:Prop}(h:p:=by intro b S;simp[fresh]at S⊢;omega):p:=h
theorem rk{p:Prop}(h:p:=by have:=j.size;have:=a.size;omega):p:=h
theorem re{p:Prop}(h:p:=by intro b S;simp at S⊢;omega):p:=h
theorem sG{p:Prop}(h:p:=by have:=(Ah.1 F).1;omega):p:=h
theorem ru{p:Prop}(h:p:=by have:=kB.size;omega):p:=h
theorem rL{p:Prop}(h:p:=by unfold maxLen;omega):p:=h
theorem rz{p:Prop}(h:p:=by simp[World.setRow]):p:=h
theorem rO{p:Prop}(h:p:=by simpa[Am]using G):p:=h
theorem rX{p:Prop}(h:p:=by(try simp);omega):p:=h
theorem ry{p:Prop}(h:p:=by show 0<5;omega):p:=h
theorem sC{p:Prop}(h:p:=by rw[<-e];exact S):p:=h
theorem rt{p:Prop}(h:p:=by simp[Hh];omega):p:=h
theorem rf{p:Prop}(h:p:=by simp[opS,opP]):p:=h
theorem rh{p:Prop}(h:p:=by rw[V];exact h):p:=h
theorem rH{p:Prop}(h:p:=by simp<;>omega):p:=h
theorem rU{p:Prop}(h:p:=by simpa using a5):p:=h
theorem rT{p:Prop}(h:p:=by simpa using h):p:=h
theorem rY{p:Prop}(h:p:=by simpa using M):p:=h
theorem rl{p:Prop}(h:p:=by simpa using V):p:=h
theorem rm{p:Prop}(h:p:=by simpa using F):p:=h
theorem rK{p:Prop}(h:p:=by simp[zero5]):p:=h
theorem rP{p:Prop}(h:p:=by rw[Da];rfl):p:=h
theorem rZ{p:Prop}(h:p:=by rw[II];rfl):p:=h
theorem rp{p:Prop}(h:p:=by rw[JY];rfl):p:=h
theorem rE{p:Prop}(h:p:=by simp;omega):p:=h
theorem rJ{p:Prop}(h:p:=by simp[valT]):p:=h
theorem rM{p:Prop}(h:p:=by simp[insT]):p:=h
theorem rD{p:Prop}(h:p:=by kernel_rfl):p:=h
theorem rG{p:Prop}(h:p:=by assumption):p:=h
theorem rR{p:Prop}(h:p:=by simp[T]):p:=h
theorem ri{p:Prop}(h:p:=by simp[V]):p:=h
theorem rI{p:Prop}(h:p:=by decide):p:=h
theorem U{p:Prop}(h:p:=by omega):p:=h
theorem O{p:Prop}(h:p:=by simp):p:=h
theorem rF{p:Prop}(h:p:=by rfl):p:=h
theorem sJ{p:Prop}(h:p:=by
 refine wNl trivial ?_
 refine gE ?_
 have G:=a.own (n:=1) (size:=5) rfl rL (AO _)
 refine Bk (ok:=AL) (B:=w.heap.size) (n:=0) (xs:=[]) (v:=.slice none 0 0) rfl rfl (JN _ _ _) (BG G fun _ _=>trivial) U rfl rfl (Ak rfl) U U rk (fun r f R=>?_)
 refine wNl trivial ?_
 have e:=a.E.Q R.E
 exact T r _ _ ag ⟨j.ext e,D.E e O,A.E e O,R.own⟩):p:=h
theorem sK{p:Prop}(h:p:=by
 rw[hv]at N
 refine gC (Oe W F t (tkB (l,false) d) d a7 v nm U a4 b1 ht hd hd2 cW) ?_
 rintro u w6⟨k6,a9,v8,L8,c8,o8,B⟩
 rw[<-N]at a9 c8 o8 B
 refine go ?_
 exact Af (v8,L8) ag ⟨K.Q k6 (fun x h T=>by simp at h;rcases h with rfl|rfl;simp;omega),a9,⟨c8,I9 o8 U,B _,fun g j=>by have:=(Ao o8 j).1;omega⟩,zW.E k6 rE,by have:=k6.size;omega⟩):p:=h
theorem sL{p:Prop}(h:p:=by
 rw[j]
 refine go ?_
 refine Al (L:=[q,d,s,z,A]) rfl rfl a0 ?_
 refine Aa (cs:=[q,d,s,z,A]) rfl rfl rfl S.one T rK (fun R E=>go ?_)
 exact Ar rfl rfl rfl E.D.cells ⟨G.E E.E O,(S.unm E.E (fun y I r=>by rw[Bj]at r;omega)).mono fun y I=>⟨by omega,I.2⟩⟩):p:=h
theorem sM{p:Prop}(h:p:=by
 have G:e.length=19:=(dtyR).len q
 refine Ay (out:=e) rfl U (RS (by rw[Lj,Ku]) G) (fun w4 j=>?_)
 obtain⟨L,oA,i⟩:=t.ex
 have f:=(R.E.Q s).Q j.E
 have z3:=f.size
 have z4:=j.size
 have z5:=s.size
 have a1:((l.take k).map g).length=k:=by rw[Es,DE];omega
 have X:∀b,v.ownBlock=some b->w.heap.size<=b/\b<W.heap.size:=fun b S=>Ao oA S
 refine Bk (ok:=AL) (v:=v) rfl rfl (CD oA f) (BG (j.own (n:=1) (size:=19) U rL (AO _)) fun _ _=>trivial) U rF U ((dtyR).one q) U U U (fun v8 w8 m=>?_)
 have T:∀y∈v.ownBlock.toList,w.heap.size<=y:=fun y I=>(Ao oA (Aw.1 I)).1
 have A:=Acc.push oA i f ((dtyR).E ((dtyR).mono q (ok':=fun b=>AL b/\v.ownBlock≠some b) fun b S=>⟨trivial,fun e=>by have:=X b e;omega⟩) j.E (fun _ _=>by simp)) m
 refine go ?_
 have z8:=m.E.size
 refine⟨(k+1,v8),⟨rfl,ag,⟨by simp only;omega,(K.Q f).E m.E T,by omega,?_⟩⟩,by simp only;omega⟩
 simp only
 have a0:l.take (k+1)=l.take k++[x]:=by rw[CT,V];rfl
 rw[a0,FB]
 exact A):p:=h
theorem sN{p:Prop}(h:p:=by
 refine AB ⟨Ext X,fun _ e=>e,a.E,?_⟩
 refine D_E rfl ?_
 refine AW (v:=.int .i64 (i:Int)) rfl rfl rfl a.D O (fun q g=>?_)
 refine AB ⟨Ext X,fun _ h=>h,a.E.E g.E O,?_⟩
 refine go ?_
 have n:=(d.Q a.E).E g.E (by have:=d.size;simp;omega)
 have y:Blk q X.heap.size 3 [.int .i64 (i:Int)]:=g.D
 have A:=Z.ext n
 have F:=z.E n O
 have c4:=A.b1.cell (o:=0) rfl
 refine gC (Hf q t S xs m p B 243 [] [pt c1,pt X.heap.size,pt w.heap.size] (fun k=>tv (wdG S xs m p k c=T)) [] (fun _ _=>True) A.ax O trivial (fun _ _ _=>trivial) (fun k W P e _=>?_)) ?_
 ·obtain⟨x,V⟩:=gl (l:=xs) (k:=HV m p k) (by rw[r];exact R5 Q k)
  have j:wdG S xs m p k c=D0 S x i:=by
   rw[<-R x];simp[wdG,List.getD,V]
  rw[j]
  exact(Vr W c1 t S xs m p B X.heap.size w.heap.size b o i k x T P V N (A.b1.E e O) (y.E e O) (F.E e O) (A.ax.ext e) ((n.Q e).cell H O)).mono fun u w' f=>⟨f.1,f.2,trivial⟩
 rintro u w5⟨f,G,_⟩
 refine gR ?_
 exact⟨f,(D.E.Q n).Q G⟩):p:=h
theorem sO{p:Prop}(h:p:=by
 refine nX ?_
 (refine AN (Aq rfl (A7 rfl (AV rfl (AQ rfl (Blk.cell rG rF) ?_))))<;>refine DB rF rF ?_<;>refine GN (Gj rfl ?_))
 refine nX ?_
 exact Ap ⟨_,_,by unfold C8;rw[AJ y],rfl,c.E⟩):p:=h
theorem sP{p:Prop}(h:p:=by
 refine go ?_
 refine CZ rfl rfl (fun T=>?_) (fun T=>absurd g T)
 refine gR ?_
 exact⟨false,rfl,d,fun h=>by cases h⟩):p:=h
theorem sQ{p:Prop}(h:p:=by
 rintro u w2⟨k2,a8,f2⟩
 obtain⟨H,rfl,a1,a2⟩:=f2.cells
 obtain⟨y0,y1,y2,y3,y4,rfl⟩:=An a1
 refine Aa (cs:=[y0,y1,y2,y3,y4]) rfl rfl rfl a2 (D.D.E k2 rE) rK (fun w9 E=>?_)
 refine go ?_
 exact Ar rfl rfl rfl E.D.cells ⟨(D.E.any.Q k2 (fun _ h _=>h)).Q E.E (fun y I T=>by simp at I;omega),a8.E E.E rE,(f2.E E.E (fun y I r=>by simp at r;omega)).mono fun y I=>by omega⟩):p:=h
theorem sR{p:Prop}(h:p:=by
 exact Df rfl ⟨1,1,true,rfl,rfl,fun _=>⟨by omega,by omega,fun n Z W=>by rw[T];simp[Am];omega⟩⟩):p:=h
theorem sS{p:Prop}(h:p:=by
 refine AW rfl rfl rfl p O (fun w4 r=>?_)
 have C:=r.D
 have j:∀g,(Value.slice f (ts.length+1) M).ownBlock=some g->g∉[s]:=fun g G=>by have:=(Ao L G).1;simp;omega
 have X:=Bf L r.E j
 have b:Keep [s] o w4:=K.Q r.E fun x V _=>V
 refine wNl (⟨C.cell rfl,C.cell rfl⟩) ?_
 refine go ?_
 refine AW rfl rfl rfl C O (fun c u=>?_)
 have T:=u.D
 have Z:=Bf X u.E j
 have Q:Keep [s] o c:=b.Q u.E fun x V _=>V
 refine go ?_
 have d:c.ownsRow o.heap.size 170 3 (.slice f (ts.length+1) M) (ts++[Tok.mk k ((t.take n).drop a) a]).length (EB (ts++[Tok.mk k ((t.take n).drop a) a])):=by
  have e:EB (ts++[Tok.mk k ((t.take n).drop a) a])=EB ts++G9 (Tok.mk k ((t.take n).drop a) a):=by simp[EB]
  rw[e];simpa using Z
 exact Bt rfl ⟨rfl,by omega,⟨Q,hs,hl,h2,by simp;omega,_,T,d⟩⟩):p:=h
theorem sU{p:Prop}(h:p:=by
 refine go ?_
 exact Bt rfl ⟨Q.Q p (fun y I z=>by simp at I;rcases I with rfl|rfl;omega;simp),H.E p rE,.slice (some ⟨g,0,none⟩) 1 N,[[.int .i64 1,AA [],.int .i64 0,.int .i64 0,.slice none 0 0]],k,by simpa using t,fun ok=>FsAt.one (FAt.leaf _ _ _ [] 0 0) rfl⟩):p:=h
theorem sW{p:Prop}(h:p:=by
 refine go ?_
 exact Bt rfl ⟨Q.Q p (fun y I z=>by simp at I;rcases I with rfl|rfl;omega;simp),H.E p rE,.slice (some ⟨g,0,none⟩) 1 N,[[.int .i64 2,AA [],.int .i64 0,.int .i64 0,.slice none 0 0]],k,by simpa using t,fun ok=>FsAt.one (FAt.leaf _ _ _ [] 0 0) rfl⟩):p:=h
theorem sX{p:Prop}(h:p:=by
 rintro v r⟨rfl,Z,l,g,M⟩
 have b:=j.Q g
 rw[b]at B
 refine nX ?_
 exact⟨(n,Z,l),⟨rfl,⟨rfl,rfl,trivial⟩,⟨M,by have:=IF z b;simp only;omega,B⟩⟩,Lr _⟩):p:=h
theorem sY{p:Prop}(h:p:=by
 exact Ext.refl _):p:=h
theorem sZ{p:Prop}(h:p:=by
 have b0:(1+S-1)*(f.bound+1)=S*(f.bound+1):=by rw[show 1+S-1=S by omega]
 by_cases Q:f.op=13
 ·obtain⟨m1,m2⟩:=F (Or.inl Q)
  have m3:=c (Or.inl Q)
  refine go ?_
  refine Fb rfl rfl (go ?_)
  exact DF rfl ⟨by rw[V,Pz (Or.inl Q),<-i,<-n];exact Fk rN rN,y⟩
 refine go ?_
 by_cases R:f.op=14
 ·obtain⟨m1,m2⟩:=F (Or.inr R)
  have m3:=c (Or.inr R)
  refine go ?_
  refine Fb rfl rfl (go ?_)
  exact DF rfl ⟨by rw[V,Pz (Or.inr R),<-i,<-n];exact Fk rN rN,y⟩
 refine go ?_
 refine Fb rfl rfl (go ?_)
 exact DF rfl ⟨by rw[V,ZC e4 U U,<-i,<-n];exact Fk rN rN,y⟩):p:=h
theorem sd{p:Prop}(h:p:=by
 refine gR ?_
 exact⟨rfl,rfl⟩):p:=h
theorem se{p:Prop}(h:p:=by
 rintro u6 w6⟨q,C⟩
 refine go ?_
 refine Cv rfl rfl (C) (R.E (K.Q q) O) rfl (fun c S s r a T j=>go ?_)
 exact Ar rfl rfl r j.cells ⟨(Z.Q (K.Q q)).E a rE,_,FAt.ret (C) s a⟩):p:=h
theorem sf{p:Prop}(h:p:=by
 refine gR ?_
 exact⟨false,rfl,d,fun h=>by cases h⟩):p:=h
theorem sh{p:Prop}(h:p:=by
 refine go ?_
 exact Af () ag rfl):p:=h
theorem si{p:Prop}(h:p:=by
 have x:=p.D
 replace V:=V.E p.E rE
 replace c:=c.E p.E rE
 replace a:=a.E p.E rE
 replace b:=b.E p.E rE
 replace k:=k.Q p.E O
 clear f p
 refine wNl (⟨a.cell rfl,a.cell rfl,b.cells⟩) ?_
 refine D_E rfl ?_
 refine AW rfl rfl rfl c O (fun K p=>?_)
 have r:=p.D
 replace V:=V.E p.E rE
 replace x:=x.E p.E rE
 replace a:=a.E p.E rE
 replace b:=b.E p.E rE
 replace k:=k.Q p.E O
 refine wNl (⟨a.cell rfl,a.cell rfl,b.cells⟩) ?_
 refine go ?_
 exact Bt rfl ⟨k,V,x,r⟩):p:=h
theorem sj{p:Prop}(h:p:=by
 rw[hv]
 refine go ?_
 refine AW (v:=.int .i64 (1-v)) rfl rfl rfl cW O (fun w6 p6=>go ?_)
 exact Af (.slice none 0 0,[]) ag ⟨K.Q p6.E (fun x h T=>by simp at h;omega),a4.E p6.E rE,Bld.start p6.D,zW.E p6.E rE,by have:=p6.size;omega⟩):p:=h
theorem sk{p:Prop}(h:p:=by
 refine gE ?_
 refine AD l rfl ?_
 rintro u L⟨d,a,_⟩
 refine AB ⟨Ext L,fun _ e=>a.Q e,Ext.refl _,?_⟩
 refine gR ?_
 exact⟨d,W.Q a⟩):p:=h
theorem sq{p:Prop}(h:p:=by
 rintro y r⟨e,q,g,rfl,M⟩
 have b:=j.Q g
 rw[b]at B
 refine nX ?_
 exact Ap ⟨e,q,B.symm,rfl,F _ M⟩):p:=h
theorem su{p:Prop}(h:p:=by
 exact Df rfl ⟨2,2,true,rfl,rfl,fun _=>⟨by omega,by omega,fun n Z W=>by rw[T];simp[Am];omega⟩⟩):p:=h
theorem sw{p:Prop}(h:p:=by
 rintro v A⟨rfl,_,g⟩
 have H:=J2 (n:=f.bound) U
 refine AB ⟨Ext A,fun _ e=>g.Q e,Ext.refl _,?_⟩
 (apply D_R rfl rfl;(intro W I;(refine GR rfl rfl rX ?_);exact AB ⟨rfl,rfl,rfl⟩))
 (apply D_R rfl rfl;(intro W I;(refine GR rfl rfl rX ?_);exact AB ⟨rfl,rfl,rfl⟩))
 refine D_R rfl rfl (fun W I=>AT (BL rfl Z3)) (Cy ?_)
 refine nX ?_
 exact AC rfl ⟨by rw[l];rfl,(d.Q a).Q g,fun h=>absurd h u⟩):p:=h
theorem sx{p:Prop}(h:p:=by
 refine go ?_
 have hS:=BG (ok:=fresh w) m (fun g k=>(C g k).1)
 obtain⟨sa,sc,rfl,_⟩:=id hS
 refine go ?_
 have X:=p _ (o.done H)
 simp only[Gr,Ch]at X
 exact AC rfl ⟨i,l,M,X,R.st,L,m,z⟩):p:=h
theorem sy{p:Prop}(h:p:=by
 exact FW e rfl c (fun W=>by simp[execOp,V,I,eqGuard,binOp,Op.intCmp,T]) (j T)):p:=h
theorem tA{p:Prop}(h:p:=by
 exact⟨ReadL.big O (.inl rfl) (S B),by simp[sgT,BH,Bh,styL,List.lookup],fun _=>by omega⟩):p:=h
theorem tB{p:Prop}(h:p:=by
 exact⟨⟨fun _=>by simp only;omega,fun _=>rfl⟩,fun h=>by cases h⟩):p:=h
theorem tC{p:Prop}(h:p:=by
 refine gR ?_
 exact⟨false,rfl,Ext.refl _,fun h=>by cases h⟩):p:=h
theorem tD{p:Prop}(h:p:=by
 refine congrArg (Value.int .i64) ?_
 rw[X]
 simp only
 omega):p:=h
theorem tE{p:Prop}(h:p:=by
 rw[BC z,MD]
 refine AN (AS rfl (BL rfl (EM rfl (JQ rfl rfl U (AH rfl (AP rfl (AP rfl (AP rfl ?_))))))))
 refine AP rfl (AP rfl (AP rfl (AP rfl (AP rfl (AP rfl (AP rfl (AP rfl (AP rfl (AP rfl (AP rfl (AP rfl (AP rfl (BJ rfl (AH rfl (AT (AH rfl (AB ?_)))))))))))))))))
 exact Af () ⟨rfl,rfl,rfl,rfl,by simp[upd,Nat.beq],trivial⟩ ⟨D.E,q⟩):p:=h
theorem tF{p:Prop}(h:p:=by
 refine go ?_
 exact⟨i+1,⟨rfl,ag,⟨by omega,M.E E.E rE,R (by rw[f];rfl) rfl E⟩⟩,by omega⟩):p:=h
theorem tG{p:Prop}(h:p:=by
 refine gR ?_
 exact⟨rfl,Ext.refl _⟩):p:=h
theorem tH{p:Prop}(h:p:=by
 refine gC (O2 _ _ _) ?_
 rintro _ w5⟨E,rfl,h5c,rfl⟩
 refine go ?_
 exact Af E ag ⟨d,k,m,by have:=C.1 l;constructor<;>intro h<;>simp_all<;>omega⟩):p:=h
theorem tI{p:Prop}(h:p:=by
 rw[AJ rfl]
 refine go ?_
 refine Aa (cs:=zero5) rfl rfl rfl (Ak rfl) ((D).D.E k2 rE) rK (fun w9 E=>?_)
 refine go ?_
 have z9:=(D).size
 exact Ar rfl rfl rfl E.D.cells ⟨((D).E.any.Q k2 (fun _ h _=>h)).Q E.E (fun x h T=>by simp at h;omega),(a8).E E.E rE,FAt.leaf _ _ 0 [] 0 0⟩):p:=h
theorem tJ{p:Prop}(h:p:=by
 rw[AJ rfl]
 refine go ?_
 refine AW (v:=.bool true) rfl rfl rfl p O (fun N d=>go ?_)
 refine GI ((d.E.block _ (FM.1 F).1 rE).Q F) fun X g c=>?_
 exact Et (CV rfl ((d.D.E g rE).cell (o:=0) rfl) ⟨rfl,(s.E d.E (fun x V=>by simp at V;omega)).E g (fun x V=>by simp at V;omega)⟩)):p:=h
theorem tK{p:Prop}(h:p:=by
 exact Keep.refl _ _):p:=h
theorem tL{p:Prop}(h:p:=by
 refine nX ?_
 refine AN (AT (AH rfl ?_))
 refine nX ?_
 exact AC rfl ⟨false,rfl,d,fun h=>by cases h⟩):p:=h
theorem tM{p:Prop}(h:p:=by
 refine go ?_
 exact Af true ag ⟨d,q,fun _=>KL U⟩):p:=h
theorem tN{p:Prop}(h:p:=by
 (refine AN (BL rfl (BL rfl ?_))<;>refine CZ rfl rfl (fun T=>?_) (fun T=>?_)<;>refine AB ?_)
 case refine_2=>exact absurd h rG
 refine nX ?_
 refine AN (AT (AH rfl ?_))
 refine nX ?_
 exact AC rfl ⟨by rw[HO,BE (BA (h▸I):s∈keysL)];simp[upd,Nat.beq],rfl⟩):p:=h
theorem tO{p:Prop}(h:p:=by
 have hv:Cd m v false=v:=by simp[Cd]
 rw[hv]
 refine go ?_
 exact Af (.slice none 0 0,[]) ag ⟨K,a4,Bld.start cW,zW,lW⟩):p:=h
theorem tP{p:Prop}(h:p:=by
 exact FW e rfl c (fun W=>by simp[execOp,V,I,eqGuard,binOp,Op.intCmp,T]) (h U)):p:=h
theorem tQ{p:Prop}(h:p:=by
 refine congrArg (Value.int .i64) ?_
 omega):p:=h
theorem tR{p:Prop}(h:p:=by
 refine gR ?_
 exact⟨rfl,d⟩):p:=h
theorem tS{p:Prop}(h:p:=by
 refine AB ⟨_,fun _ e=>e,Q.any.Q E.E (fun _ h _=>h),?_⟩
 refine go ?_
 exact Ar rfl rfl rfl E.D.cells ⟨(l.Q Q).E E.E O,((S.ext v).E E.E (fun y n Z=>by simp at Z;omega)).mono fun y n=>by omega⟩):p:=h
theorem tT{p:Prop}(h:p:=by
 exact Df rfl ⟨0,0,true,rfl,rfl,fun _=>⟨by omega,by omega,fun n Z W=>by rw[T];simp[Am];omega⟩⟩):p:=h
theorem tU{p:Prop}(h:p:=by
 rintro v L⟨rfl,H⟩
 refine go ?_
 exact Bt rfl ⟨rfl,H⟩):p:=h
theorem tV{p:Prop}(h:p:=by
 exact(t.E c.E (fun y I=>by have:=e _ (Aw.1 I);omega)).E K.E (fun y I=>by simp at I;omega)):p:=h
theorem tW{p:Prop}(h:p:=by
 refine go ?_
 refine Aa (cs:=zero5) rfl rfl rfl (Ak rfl) Q rK (fun o E=>go ?_)
 exact Dp rfl rfl rfl E.D.cells ⟨_,2,rfl,l.E E.E rE,⟨_,FAt.leaf _ _ 0 [] 0 0⟩,fun h=>absurd h rI⟩):p:=h
theorem tX{p:Prop}(h:p:=by
 refine gR ?_
 exact⟨false,rfl,D.E.Q K,fun h=>by cases h⟩):p:=h
theorem tY{p:Prop}(h:p:=by
 refine Ka (out:=keysL.map AA) rfl U rfl rD (fun Q D=>?_)
 refine gR ?_
 exact⟨⟨_,_,rfl,by decide,by decide,(fun h=>by cases h),.inr ⟨_,_,rfl,trivial,D.D.cells⟩⟩,D.E⟩):p:=h
theorem tZ{p:Prop}(h:p:=by
 obtain rfl:k=10:=by omega
 refine go ?_
 have M:s∉keysL:=H
 exact AC rfl ⟨by rw[HO,f,BC M,BE (show 1<=s.length by omega),BE (show s.length<=12 by omega)];rfl,rfl⟩):p:=h
theorem td{p:Prop}(h:p:=by
 intro i e B
 have:=congrArg (fun l=>l[i]?) r
 simp only[Cl,B,GG]at this
 obtain⟨p,C,u⟩:=Dd.1 this.symm
 exact⟨p,C,(congrArg Prod.fst u).symm,(congrArg Prod.snd u).symm⟩):p:=h
theorem te{p:Prop}(h:p:=by
 rintro ch w5⟨d,l,K,rfl⟩
 refine go ?_
 exact Ap ⟨i.Q d O,l,p _ (o.err1 H K),rfl⟩):p:=h
theorem tf{p:Prop}(h:p:=by
 have:=c h
 have h1:=ME (show 0<=1+S-1 by omega) (show 0<=f.bound+1 by omega)
 have h2:=H2 (show 1+S-1<=1000 by omega) (show f.bound+1<=10 by omega) U U
 omega):p:=h
theorem tg{p:Prop}(h:p:=by
 rintro u i⟨o,c,_⟩
 refine gR ?_
 exact⟨o,D.E.Q c⟩):p:=h
theorem th{p:Prop}(h:p:=by
 refine nX ?_
 exact AC rfl ⟨false,rfl,s,fun h=>by cases h⟩):p:=h
theorem ti{p:Prop}(h:p:=by
 exact AC rfl ⟨by rw[e];rfl,d.Q a,fun h=>absurd h u⟩):p:=h
theorem tj{p:Prop}(h:p:=by
 refine go ?_
 exact Ar rfl rfl rfl E.D.cells ⟨((G.Q p).Q F).E E.E O,(f6.unm E.E (fun y I r=>by rw[Bj]at r;omega)).mono fun y I=>⟨by omega,I.2⟩⟩):p:=h
theorem tk{p:Prop}(h:p:=by
 refine wNl (Keep.refl _ _) ?_
 refine D_E rfl ?_
 refine AD (OH a _ M I (v.ext G) E Z W) rfl ?_
 rintro _ B⟨d,rfl,X,C⟩
 refine wNl X.any ?_
 exact p d _ _ ag ⟨X,C⟩):p:=h
theorem tl{p:Prop}(h:p:=by
 refine gE ?_
 refine AP rfl ?_
 refine wNl n ?_
 refine gE ?_
 refine AP rfl ?_
 refine wNl n ?_
 refine gE ?_
 refine AP rfl ?_
 refine wNl n ?_
 refine gR ?_
 exact⟨rfl,q1⟩):p:=h
theorem tm{p:Prop}(h:p:=by
 refine QG (z:=.agg #[.int .i64 0,.int .i64 0]) rfl rD (go ?_)
 refine CL (cs:=[.int .i64 0,.int .i64 0]) rfl rfl rF (Ak rfl) (fun L R=>go ?_)
 exact Bt rfl R.E):p:=h
theorem tn{p:Prop}(h:p:=by
 have e1:(L++[c]).flatten=L.flatten++c:=by simp
 simp only
 rw[e1,A9]
 exact o7):p:=h
theorem tq{p:Prop}(h:p:=by
 refine gR ?_
 exact⟨rfl,E.E,h⟩):p:=h
theorem tr{p:Prop}(h:p:=by
 refine go ?_
 refine Aa (cs:=zero5) rfl rfl rfl (Ak rfl) i rK (fun A E=>go ?_)
 exact Ar rfl rfl rfl E.D.cells ⟨N.E E.E rE,FAt.leaf _ _ 0 [] 0 0⟩):p:=h
theorem tu{p:Prop}(h:p:=by
 obtain rfl:k=l.length:=by omega
 rw[Co]at t
 refine gR ?_
 exact⟨K,t.sl⟩):p:=h
theorem tw{p:Prop}(h:p:=by
 obtain⟨i,q,T,h⟩:=Fv h
 obtain⟨_,I,u,h⟩:=Fv h
 obtain⟨s,E,c,h⟩:=Fv h
 have:=T.le;have:=u.le;have:=V6 c;have:=h.le
 omega):p:=h
theorem tz{p:Prop}(h:p:=by
 simp only
 rw[N1]
 exact Bf c.own K.E (fun g a=>by have:=p g a;simp;omega)):p:=h
theorem uA{p:Prop}(h:p:=by
 rw[AG O]
 refine go ?_
 refine GI F fun X g c=>?_
 exact Et (CV rfl ((p.E g rE).cell (o:=0) rfl) ⟨rfl,s.E g (fun x V=>by simp at V;omega)⟩)):p:=h
theorem uB{p:Prop}(h:p:=by
 refine go ?_
 exact Af c ag ⟨d,k,m,by constructor<;>intro h<;>simp_all⟩):p:=h
theorem uC{p:Prop}(h:p:=by
 subst A
 refine go ?_
 exact Af () ag q):p:=h
theorem uD{p:Prop}(h:p:=by
 exact(a4.ext I.E).Q y.E (fun x V T=>by have:=C x (Aw.1 V);omega)):p:=h
theorem uE{p:Prop}(h:p:=by
 refine go ?_
 refine AW (v:=.bool false) rfl rfl rfl (S.E k O) O (fun g E=>go ?_)
 exact⟨rfl,(k).any.Q E.E (fun _ h _=>h),E.D⟩):p:=h
theorem uF{p:Prop}(h:p:=by
 simp only
 rw[b0,<-Cg,<-b8]
 exact(sV.snoc fV a1).E kE (fun y I r=>by simp at r;rcases r with rfl|rfl;exact I.2 rfl;exact I.1.2 rfl)):p:=h
theorem uG{p:Prop}(h:p:=by
 refine go ?_
 refine AW (v:=.bool false) rfl rfl rfl (E.E n O) O (fun N d=>go ?_)
 exact⟨rfl,n.any.Q d.E (fun _ h _=>h),d.D⟩):p:=h
theorem uH{p:Prop}(h:p:=by
 refine gR ?_
 exact⟨rfl,K⟩):p:=h
theorem uI{p:Prop}(h:p:=by
 obtain⟨q,m,e,hp⟩:=qa k a t
 have a6:=BA t
 have:=Ds a6
 exact⟨q,m,e,ih W q _ a U (c.Q r) (hp.E r (fun _ _=>by simp))⟩):p:=h
theorem uJ{p:Prop}(h:p:=by
 refine go ?_
 refine Fb rfl rfl (go ?_)
 exact DF rfl ⟨by rw[V,Jl (Or.inr (Or.inr (Or.inl a2))),<-i,<-n];exact Fk rN rN,y⟩):p:=h
theorem uK{p:Prop}(h:p:=by
 refine go ?_
 refine Fb rfl rfl (go ?_)
 exact DF rfl ⟨by rw[V,Jl (Or.inr (Or.inr (Or.inr a3))),<-i,<-n];exact Fk rN rN,y⟩):p:=h
theorem uL{p:Prop}(h:p:=by
 refine gR ?_
 exact⟨rfl,d.Q m⟩):p:=h
theorem uM{p:Prop}(h:p:=by
 refine congrArg (Value.int .i64) ?_
 show((A.length-1-k:Nat):Int)-1=(A.length:Int)-1-((k+1:Nat):Int)
 omega):p:=h
theorem uN{p:Prop}(h:p:=by
 rintro ch d⟨rfl,rfl⟩
 refine go ?_
 exact b5 _ d (x::l) (Run.call r10 (Run.look (Run.fail _))) b8 ⟨_,k,i⟩ rfl rfl rfl):p:=h
theorem uO{p:Prop}(h:p:=by
 refine go ?_
 exact⟨i+1,⟨rfl,ag,⟨by omega,(M.Q d).E E.E rE,R (by rw[f];simp) rfl E⟩⟩,by omega⟩):p:=h
theorem uP{p:Prop}(h:p:=by
 rintro ch o⟨m,l,r10,rfl⟩
 refine go ?_
 exact b5 _ o l (Run.callE r10) (m.mono O) ⟨_,f1.E m rE,rfl⟩ rfl rfl rfl):p:=h
theorem uQ{p:Prop}(h:p:=by
 refine go ?_
 refine Fb rfl rfl (go ?_)
 exact DF rfl ⟨by rw[V,Jl (Or.inr (Or.inl a1)),<-i,<-n];exact Fk rN rN,y⟩):p:=h
theorem uR{p:Prop}(h:p:=by
 rintro u L⟨l,d,_⟩
 refine AB ⟨Ext L,fun _ e=>d.Q e,Ext.refl _,?_⟩
 refine gR ?_
 exact⟨l,W.Q d⟩):p:=h
theorem uS{p:Prop}(h:p:=by
 obtain⟨a,b⟩:=q
 have G:x≠a:=fun e=>h (a,b) O e.symm
 rw[Jo,RJ G]
 exact ih fun p C=>h p (by simp[C])):p:=h
theorem uT{p:Prop}(h:p:=by
 refine gR ?_
 exact⟨false,rfl,D.E,fun h=>by cases h⟩):p:=h
theorem uU{p:Prop}(h:p:=by
 rintro _ I⟨z,b,_,a⟩
 refine gR ?_
 exact⟨z,d.E b rE,fun g y=>by have:=a g y;have:=d.size;omega⟩):p:=h
theorem uV{p:Prop}(h:p:=by
 exact Df rfl ⟨2, -1,true,rfl,rfl,fun _=>⟨by omega,by omega,fun n Z W=>by rw[T];simp[Am];omega⟩⟩):p:=h
theorem uX{p:Prop}(h:p:=by
 refine go ?_
 refine Fb rfl rfl (go ?_)
 exact DF rfl ⟨by rw[V,Jl (Or.inl a0),<-i,<-n];exact Fk rN rN,y⟩):p:=h
theorem uY{p:Prop}(h:p:=by
 refine go ?_
 exact⟨k+1,⟨rfl,ag,⟨by omega,E,fun i y F I C=>absurd (a2.Q C) CX⟩⟩,by omega⟩):p:=h
theorem uZ{p:Prop}(h:p:=by
 have:(n+1)*size=(C.toList.take (n*size)++cs).length:=by rw[A9,v,N,He]
 rw[this,<-Cg]
 exact Kd):p:=h
theorem ud{p:Prop}(h:p:=by
 exact⟨_,_,rfl⟩):p:=h
theorem ue{p:Prop}(h:p:=by
 rw[AG (fun h=>h.elim (fun h=>by rw[hic]at h;cases h) a4)]at j
 refine go ?_
 exact Af () ag ⟨rfl,j⟩):p:=h
theorem uf{p:Prop}(h:p:=by
 simp only[tkR,Au,FB,Cg,EG,Kp,Ee,Ef]at this⊢
 exact Hj rfl (Run.call this (Run.call Z (Run.ret _ _)))):p:=h
theorem ug{p:Prop}(h:p:=by
 refine gR ?_
 exact⟨by rw[S];rfl,f⟩):p:=h
theorem uh{p:Prop}(h:p:=by
 refine gR ?_
 exact⟨false,rfl,N,fun h=>by cases h⟩):p:=h
theorem um{p:Prop}(h:p:=by
 refine gR ?_
 exact⟨false,rfl,c,fun h=>by cases h⟩):p:=h
theorem nlr{a b:Nat}(h:Nat.ble a b=true:=by rfl):a<=b:=Nat.le_of_ble_eq_true h
def P9:=@Nat.eq_of_beq_eq_true
def I2:=@Array.getD_eq_getD_getElem?
def TH:=@Array.getElem?_setIfInBounds_ne
def Ip:=@Nat.blt_eq
def Qm:=@Option.bind_some
def Ov:=@callsIn_wide
def SN:=@CallsIn.mono
def Ju:=@RoundIn.mono
def Gc:=@List.all_cons
def AZ:=@Bool.and_eq_true
def AJ:=@if_pos
def AG:=@if_neg
def Hi:=@wpIn_mono
def D7:=@Bool.not_eq_true'
def Ha:=@Bool.false_or
def BX:=@Sem.run_bind
def Cq:=@Sem.run_pure
def Bc:=@Result.andThen_ok
def Gg:=@Calls.mono
def Ce:=@List.getD_eq_getElem?_getD
def EF:=@List.getElem?_eq_none
def IZ:=@List.size_toArray
def Dh:=@if_false
def Le:=@Array.getElem?_eq_none
abbrev Fr:=Nat->Value
abbrev DS:=List Deferred
def upd(f:Fr)(i:Nat)(v:Value):Fr:=fun j=>bif Nat.beq j i then v else f j
def Ea(f:Fr)(d:Option Nat)(v:Value):Fr:=match d with|some i=>upd f i v|none=>f
def ev(f:Fr):Operand->Value
 | .tmp t=>f t
 | .const v=>v
 | .global g=>.pointer (sm g)
 | .func g=>.func (.func g) #[] #[]
def evL(f:Fr):List Operand->LV
 | []=>[]
 |x::l=>ev f x::evL f l
def Hu:LV->Fr
 | [],_=>undef
 |v::_,0=>v
 |_::l,i+1=>Hu l i
def ov:List (Nat×Value)->Fr->Fr
 | [],f=>f
 |(i,v)::l,f=>upd (ov l f) i v
def agr:List (Nat×Value)->Fr->Prop
 | [],_=>True
 |(i,v)::l,f=>f i=v/\agr l f
def Q4{l:List (Nat×Value)}{f:Fr}(h:agr l f):ov l f=f:=by
 induction l with
 |nil=>rfl
 |cons p l ih=>
  obtain⟨i,v⟩:=p;obtain⟨Z,W⟩:=h
  funext j
  simp only[ov,upd,ih W];cases hj:Nat.beq j i with
  |true=>simp[P9 hj,Z]
  |false=>rfl
def Bi(a:Act):Fr:=fun i=>a.tmps.getD i undef
def Mj(a:Act):a.eval=ev (Bi a):=by funext x;cases x<;>rfl
def Om{a:Act}{d:Nat}(v:Value)(h:d<a.tmps.size):Bi (a.put (some d) v)=upd (Bi a) d v:=by
 funext j
 simp only[Bi,Act.put,upd,I2];cases hj:Nat.beq j d with
 |true=>
  have:=P9 hj;subst this;simp[h]
 |false=>
  have M:d≠j:=fun e=>by subst e;simp at hj
  simp[TH M]
def dOk(n:Nat):Option Nat->Bool
 |some d=>Nat.blt d n
 |none=>true
def VC{a:Act}{d:Option Nat}(v:Value)(h:dOk a.tmps.size d=true):Bi (a.put d v)=Ea (Bi a) d v:=by
 cases d with
 |none=>rfl
 |some d=>exact Om v (by simpa[dOk,Ip]using h)
def Mb(a:Act)(d:Option Nat)(v:Value):(a.put d v).tmps.size=a.tmps.size:=by
 cases d<;>simp[Act.put]
def Lx(a:Act)(d:Option Nat)(v:Value):(a.put d v).defers=a.defers:=by
 cases d<;>rfl
def CB(P:Program)(o:Oper)(f:Fr)(ds:DS)(w:World)(K:Value->DS->World->Prop)(Z:List PanicEntry->World->Prop):Prop:=
 match(execOp (ev f) o).run P w with
 | .ok (.value v) w'=>K v ds w'
 | .ok .skip w'=>K undef ds w'
 | .ok (.defer d) w'=>K undef (d::ds) w'
 | .ok (.enter g args) w'=>Calls P g args w' fun e T=>match e with| .returned v=>K v ds T| .panicked ch=>Z ch T| .outgrown=>False
 | .ok (.round l g tmps assign body) w'=>RoundIn Fence.wide 0 P l g tmps assign body w' fun e T=>match e with| .returned v=>K v ds T| .panicked ch=>Z ch T| .outgrown=>False
 | .halt (.panic v) w'=>Z [{v,recovered:=false}] w'
 |_=>False
def Kt(w:Array Oper)(f:Fr)(j:Nat):Option Bool:=
 match(w[j]?).bind (·.dst)with
 |some t=>(match f t with| .bool b=>some b|_=>none)
 |none=>none
def CY(w:Array Oper)(f:Fr)(g:Option (Nat×Bool)):Bool:=
 match g with
 |none=>true
 |some (j,want)=>Kt w f j==some want
def aQ(w:Array Oper)(a:Act)(j:Nat):yielded w a.tmps j=Kt w (Bi a) j:=by
 unfold yielded Kt Bi;cases h:(w[j]?).bind (·.dst)with
 |none=>rfl
 |some t=>
  simp only[Qm,I2];cases ht:a.tmps[t]? with
  |none=>rfl
  |some v=>cases v<;>rfl
def Nk(w:Array Oper)(a:Act)(o:Oper):Region.wanted o (yielded w a.tmps)=CY w (Bi a) o.guard:=by
 unfold Region.wanted CY;cases o.guard with
 |none=>rfl
 |some p=>obtain⟨j,V⟩:=p;simp only[aQ]
def AF(P:Program)(a:Array Oper)(Z:Fr->DS->List PanicEntry->World->Prop)(K:Fr->DS->World->Prop):List Oper->Fr->DS->World->Prop
 | [],f,s,w=>K f s w
 |o::rest,f,s,w=>
  if CY a f o.guard then CB P o f s w (fun v s w=>AF P a Z K rest (Ea f o.dst v) s w) (Z f s)
  else AF P a Z K rest (Ea f o.dst undef) s w
structure Cf where
 n:Nat
 r:Option Nat
def rnd(r:Option Nat):Fence:={Fence.wide with round:=r}
abbrev CQ:=Exit->Fr->DS->World->Prop
def CO(k:Fr->DS->World->Prop)(Q:CQ):CQ
 | .normal=>k
 |e=>Q e
def B0(id:Nat)(Q:CQ):CQ
 | .exit i=>if i=id then Q .normal else Q (.exit i)
 |e=>Q e
def Cx(Q:CQ):CQ
 | .goto _=>fun _ _ _=>False
 |e=>Q e
def El(n:Nat)(Q:CQ):Exit->Act->World->Prop:=fun e a w=>a.tmps.size=n/\Q e (Bi a) a.defers w
def WC(P:Program)(n:Cf):Code->CQ->Fr->DS->World->Prop
 | .skip,Q=>Q .normal
 | .label _,Q=>Q .normal
 | .ret,Q=>Q .ret
 | .exit id,Q=>Q (.exit id)
 | .goto _,_=>fun _ _ _=>False
 | .refuse _,_=>fun _ _ _=>False
 | .seq a b,Q=>WC P n a (CO (WC P n b Q) Q)
 | .block id c,Q=>WC P n c (B0 id Q)
 | .scope c,Q=>WC P n c (Cx Q)
 | .cond c x y,Q=>fun f s w=>match ev f c with
  | .bool b=>if b then WC P n x Q f s w else WC P n y Q f s w
  |_=>False
 | .region id ops draw,Q=>fun f s w=>
  match draw with
  |false=>AF P ops (fun f s d w=>Q (.panic d) f s w) (Q .normal) ops.toList f s w
  |true=>∀a,a.tmps.size=n.n->Bi a=f->a.defers=s->(Code.region id ops true).wpIn (rnd n.r) 0 P (El n.n Q) a w
 | .loop c,Q=>fun f s w=>∃(α:Type)(I:α->Fr->DS->World->Prop)(μ:α->Nat)(x:α),I x f s w/\
   ∀x f s w,I x f s w->WC P n c (CO (fun h e X=>∃y,I y h e X/\μ y<μ x) Q) f s w
 | .rangeFunc g ps as body,Q=>fun f s w=>∀a,a.tmps.size=n.n->Bi a=f->a.defers=s->(Code.rangeFunc g ps as body).wpIn (rnd n.r) 0 P (El n.n Q) a w
def XT:Op->Bool
 | .defer _=>true
 |_=>false
def Eo(n:Nat)(j:Bool)(o:Oper):Bool:=dOk n o.dst&&(!j|| !XT o.op)
def D9(n:Nat)(j:Bool):Code->Bool
 | .seq a b=>D9 n j a&&D9 n j b
 | .block _ c=>D9 n j c
 | .scope c=> !j&&D9 n j c
 | .cond _ x y=>D9 n j x&&D9 n j y
 | .region _ ops draw=>draw||ops.toList.all (Eo n j)
 | .loop c=>D9 n j c
 |_=>true
def WV{r:Option Nat}{n:Nat}{o:Oper}(h:Eo n r.isSome o=true)(ρ:Operand->Value):Oper.semAt r ρ o=execOp ρ o:=by
 cases r with
 |none=>rfl
 |some l=>
  refine Oper.semAt_eq _ ρ o fun c T=>?_;simp[Eo,T,XT]at h
def VF{P:Program}{r:Option Nat}{n:Nat}{o:Oper}{a:Act}{w:World}{K:Fr->DS->World->Prop}{Q:CQ}{K':Act->World->Prop}(H:a.tmps.size=n)(f:Eo n r.isSome o=true)
  (next:∀v ds w',K (Ea (Bi a) o.dst v) ds w'->K' ({a with defers:=ds}.put o.dst v) w')
  (h:CB P o (Bi a) a.defers w (fun v ds w=>K (Ea (Bi a) o.dst v) ds w) (fun y w=>Q (.panic y) (Bi a) a.defers w)):o.wpIn (rnd r) 0 P a w K' (El n Q):=by
 refine⟨fun _ _=>trivial,?_⟩;have E:(rnd r).round=r:=rfl;rw[E,WV f,Mj];unfold CB at h;revert h;generalize (execOp (ev (Bi a)) o).run P w=res;intro h;have R:(rnd r).depth.isSome=true->1<=0:=fun c=>by simp[rnd,Fence.wide]at c
 cases res with
 |halt x w'=>cases x<;>first|exact h.elim|exact⟨H,h⟩
 |ok m w'=>
  cases m with
  |value v=>exact next v a.defers w' h
  |skip=>exact next undef a.defers w' h
  |defer d=>exact next undef (d::a.defers) w' h
  |enter g args=>
   refine⟨R,?_⟩;have T:CallsIn Fence.wide (0-1) P g args w' _:=Ov.2 h;refine SN (F:=rnd r) T fun e b B=>?_;cases e with
   |returned v=>exact next v a.defers b B
   |panicked y=>exact⟨H,B⟩
   |outgrown=>exact B.elim
  |round l g tmps assign body=>
   refine⟨R,?_⟩;have T:RoundIn (rnd r) (0-1) P l g tmps assign body w' _:=h;refine Ju T fun e b B=>?_;cases e with
   |returned v=>exact next v a.defers b B
   |panicked y=>exact⟨H,B⟩
   |outgrown=>exact B.elim
  |_=>exact h.elim
def Xb{n:Nat}{o:Oper}{a:Act}{K:Fr->DS->World->Prop}{K':Act->World->Prop}(H:a.tmps.size=n)(h:dOk n o.dst=true)
  (G:∀Z w',Z.tmps.size=n->K (Bi Z) Z.defers w'->K' Z w'):∀v ds w',K (Ea (Bi a) o.dst v) ds w'->K' ({a with defers:=ds}.put o.dst v) w':=by
 intro v ds w' Q;refine G _ w' (by rw[Mb];exact H) ?_;rw[Lx];have e:Bi ({a with defers:=ds}.put o.dst v)=Ea (Bi a) o.dst v:=VC (a:={a with defers:=ds}) (d:=o.dst) v (by rw[H];exact h);rw[e];exact Q
def TI{P:Program}{b:Array Oper}{n:Nat}{r:Option Nat}{Q:CQ}:∀(l:List Oper)(a:Act)(w:World),a.tmps.size=n->l.all (Eo n r.isSome)=true->
  AF P b (fun f ds y w=>Q (.panic y) f ds w) (Q .normal) l (Bi a) a.defers w->wpListIn (rnd r) 0 P b (El n Q) l a w
 | [],a,w,hn,_,h=>⟨hn,h⟩
 |o::rest,a,w,hn,hok,h=>by
  simp only[Gc,AZ]at hok;have x:dOk n o.dst=true:=by have:=hok.1;simp only[Eo,AZ]at this;exact this.1
  have next:=Xb (n:=n) (o:=o) (a:=a) (K:=AF P b (fun f ds y w=>Q (.panic y) f ds w) (Q .normal) rest) (K':=wpListIn (rnd r) 0 P b (El n Q) rest) hn x
   (fun Z X c W=>TI rest Z X c hok.2 W)
  unfold wpListIn;unfold AF at h;rw[Nk];by_cases S:CY b (Bi a) o.guard=true
  ·rw[AJ S]at h;rw[AJ S];exact VF hn hok.1 next h
  ·rw[AG S]at h;rw[AG S];exact⟨fun _ _=>trivial,next undef a.defers w h⟩
def Up{n:Nat}{Q F:CQ}(h:∀e f ds w,Q e f ds w->F e f ds w):∀e a w,El n Q e a w->El n F e a w:=
 fun e a w⟨h1,h2⟩=>⟨h1,h e _ _ w h2⟩
def HK{P:Program}{n:Cf}:∀(c:Code)(Q:CQ)(a:Act)(w:World),a.tmps.size=n.n->D9 n.n n.r.isSome c=true->
  WC P n c Q (Bi a) a.defers w->c.wpIn (rnd n.r) 0 P (El n.n Q) a w
 | .skip,Q,a,w,hn,_,h=>wpIn_skip ⟨hn,h⟩
 | .label _,Q,a,w,hn,_,h=>wpIn_label ⟨hn,h⟩
 | .ret,Q,a,w,hn,_,h=>wpIn_ret ⟨hn,h⟩
 | .exit _,Q,a,w,hn,_,h=>wpIn_exit ⟨hn,h⟩
 | .goto _,_,_,_,_,_,h=>h.elim
 | .refuse _,_,_,_,_,_,h=>h.elim
 | .seq x y,Q,a,w,hn,hok,h=>by
  simp only[D9,AZ]at hok;refine wpIn_seq (Hi (HK x _ a w hn hok.1 h) ?_);intro e a w V;obtain⟨Z,W⟩:=V;cases e with
  |normal=>exact HK y Q a w Z hok.2 W
  |_=>exact⟨Z,W⟩
 | .block id c,Q,a,w,hn,hok,h=>by
  refine wpIn_block (Hi (HK c _ a w hn hok h) ?_);intro e a w V;obtain⟨Z,W⟩:=V;cases e with
  |exit i=>
   simp only[Exit.inBlock];simp only[B0]at W;by_cases F:i=id
   ·rw[AJ F]at W⊢;exact⟨Z,W⟩
   ·rw[AG F]at W⊢;exact⟨Z,W⟩
  |_=>exact⟨Z,W⟩
 | .scope c,Q,a,w,hn,hok,h=>by
  simp only[D9,AZ,D7]at hok;obtain⟨g,r⟩:=n;cases r with
  |some l=>simp at hok
  |none=>
   refine wpIn_wide.2 (wp_scope_straight (wp_mono (wpIn_wide.1 (HK (n:=⟨g,none⟩) c _ a w hn hok.2 h)) ?_));intro e a w V;obtain⟨Z,W⟩:=V;cases e with
   |goto l=>exact W.elim
   |_=>exact⟨Z,W⟩
 | .cond c x y,Q,a,w,hn,hok,h=>by
  simp only[D9,AZ]at hok;simp only[WC]at h;have B:=Mj a;cases hc:ev (Bi a) c<;>simp only[hc]at h
  case bool b=>
   refine wpIn_cond (t:=b) (by rw[B];exact hc) ?_;cases b with
   |true=>exact HK x Q a w hn hok.1 h
   |false=>exact HK y Q a w hn hok.2 h
  all_goals exact h.elim
 | .region id ops draw,Q,a,w,hn,hok,h=>by
  cases draw with
  |false=>
   simp only[D9,Ha]at hok;exact wpIn_region_list (TI ops.toList a w hn hok h)
  |true=>exact h a hn rfl rfl
 | .loop c,Q,a,w,hn,hok,h=>by
  obtain⟨α,I,μ,x,v,f⟩:=h;refine wpIn_loop_ghost (fun(m:Nat)a w=>∃x,μ x=m/\a.tmps.size=n.n/\I x (Bi a) a.defers w) (μ x) ⟨x,rfl,hn,v⟩ ?_;rintro m a w⟨x,rfl,Z,W⟩;refine Hi (HK c _ a w Z hok (f _ _ _ _ W)) ?_;intro e j X V;obtain⟨R,A⟩:=V;cases e with
  |normal=>obtain⟨y,d,p⟩:=A;exact⟨μ y,p,y,rfl,R,d⟩
  |_=>exact⟨R,A⟩
 | .rangeFunc _ _ _ _,Q,a,w,hn,_,h=>h a hn rfl rfl
def KC:LV->Value
 | [v]=>v
 |l=>.tuple l.toArray
def GO(P:Program):List ResultVar->Fr->World->(LV->Prop)->Prop
 | [],_,_,k=>k []
 | .tmp t::r,f,w,k=>GO P r f w fun l=>k (f t::l)
 | .cell a T::r,f,w,k=>∃i v,f a=.pointer (some i)/\(loadVar T i).run P w=.ok v w/\GO P r f w fun l=>k (v::l)
def P2{P:Program}{w:World}{tmps:Array Value}{g:ResultVar->Sem Value}(X:∀t,g (.tmp t)=pure (tmps.getD t undef))
  (c:∀a t,g (.cell a t)=(do loadVar t (<-asAddr (tmps.getD a undef)))):∀(d:List ResultVar)(k:LV->Prop),GO P d (fun i=>tmps.getD i undef) w k->
  ∃l,k l/\(d.mapM g).run P w=.ok l w
 | [],k,h=>⟨[],h,by simp⟩
 | .tmp t::r,k,h=>by
  obtain⟨l,Z,W⟩:=P2 X c r _ h;refine⟨_,Z,?_⟩;simp only[List.mapM_cons,X,BX,Cq,Bc,W]
 | .cell a T::r,k,h=>by
  obtain⟨b,v,f,u,Q⟩:=h;obtain⟨l,Z,W⟩:=P2 X c r _ Q;refine⟨_,Z,?_⟩;have R:tmps.getD a undef=.pointer (some b):=f;have E:asAddr (.pointer (some b))=pure b:=rfl;simp only[List.mapM_cons,c,R,E,BX,Cq,Bc,u,W]
def QR{P:Program}{fn:Func}{w:World}{tmps:Array Value}{k:LV->Prop}(h:GO P fn.results.toList (fun i=>tmps.getD i undef) w k):
  ∃l,k l/\(results fn tmps).run P w=.ok (KC l) w:=by
 unfold results;rw[Array.mapM_eq_mapM_toList];have b:∀(x:Sem (LV)),(Functor.map List.toArray x:Sem (Array Value))=x >>= fun l=>pure l.toArray:=fun _=>rfl;rw[b];simp only[BX];obtain⟨l,Z,W⟩:=P2 (g:=fun| .tmp t=>pure (tmps.getD t undef)| .cell a t=>do loadVar t (<-asAddr (tmps.getD a undef))) (fun _=>rfl) (fun _ _=>rfl) _ _ h;refine⟨l,Z,?_⟩;refine(congrArg (fun r=>Result.andThen (Result.andThen r _) _) W).Q ?_;simp only[Bc,Cq]
 match l with
 | []=>rfl
 | [v]=>rfl
 |_::_::_=>rfl
def B8(P:Program)(fn:Func)(R:Value->World->Prop)(Z:List PanicEntry->World->Prop):CQ
 | .normal=>fun f s w=>s=[]/\GO P fn.results.toList f w fun l=>R (KC l) w
 | .ret=>fun f s w=>s=[]/\GO P fn.results.toList f w fun l=>R (KC l) w
 | .panic ch=>fun _ s w=>s=[]/\Z ch w
 |_=>fun _ _ _=>False
def FnP(P:Program)(g:FuncId)(args:LV)(w:World)(R:Value->World->Prop)(Z:List PanicEntry->World->Prop):Prop:=
 Calls P g args.toArray w fun e X=>match e with| .returned v=>R v X| .panicked ch=>Z ch X| .outgrown=>False
def Fn(P:Program)(g:FuncId)(args:LV)(w:World)(R:Value->World->Prop):Prop:=FnP P g args w R fun _ _=>False
def FnP.mono{P:Program}{g:FuncId}{args:LV}{w:World}{R D:Value->World->Prop}{Z C:List PanicEntry->World->Prop}
  (h:FnP P g args w R Z)(a:∀v w',R v w'->D v w')(p:∀y w',Z y w'->C y w'):FnP P g args w D C:=
 Gg h fun e w' B=>by cases e with
  |returned v=>exact a v w' B
  |panicked y=>exact p y w' B
  |outgrown=>exact B
def Fn.mono{P:Program}{g:FuncId}{args:LV}{w:World}{R D:Value->World->Prop}
  (h:Fn P g args w R)(B:∀v w',R v w'->D v w'):Fn P g args w D:=FnP.mono h B fun _ _ h=>h
def VR:∀(l:LV)(i:Nat),Hu l i=l.getD i undef
 | [],i=>by simp[Hu]
 |_::_,0=>rfl
 |_::l,i+1=>by simp[Hu,VR l i]
def RB(l:LV)(k:Nat):Bi {tmps:=l.toArray++Array.replicate k undef,defers:=[]}=Hu l:=by
 funext i
 rw[VR];simp only[Bi,I2,Ce,Array.getElem?_append];by_cases h:i<l.length
 ·simp[h]
 ·have e:l[i]?=none:=EF U;rw[e];simp only[IZ,h,Dh];by_cases W:i-l.length<k
  ·simp[W]
  ·rw[Le rE]
def lv(P:Program)(fn:Func)(R:Value->World->Prop)(Z:List PanicEntry->World->Prop)(f:Fr):DS->FrameMode->World->Prop
 | [],.returning,w=>GO P fn.results.toList f w fun l=>R (KC l) w
 | [],.panicking ch,w=>Z ch w
 | [],.run,_=>False
 |d::ds,u,w=>u≠ .run/\
  ((∃r X,d.target=.collected r/\(Instr.takeDeferred r).run P w=.ok [] X/\lv P fn R Z f ds u X)\/
   (∃B a g e,d.target=.fn B a/\(invoke d.target d.args).run P w=.ok (.enter g e) w/\
   CallsDIn Fence.wide 0 P g e u w fun
    | .returned _,u',X=>lv P fn R Z f ds (settle u') X
    | .panicked ch,u',X=>lv P fn R Z f ds (raised u' ch) X
    | .outgrown,_,_=>False))
def Cc(P:Program)(fn:Func)(R:Value->World->Prop)(Z:List PanicEntry->World->Prop):CQ
 | .normal=>fun f s w=>lv P fn R Z f s .returning w
 | .ret=>fun f s w=>lv P fn R Z f s .returning w
 | .panic ch=>fun f s w=>lv P fn R Z f s (.panicking ch) w
 |_=>fun _ _ _=>False
def Pq(R:Value->World->Prop)(Z:List PanicEntry->World->Prop):Ending->World->Prop
 | .returned v,w=>R v w
 | .panicked ch,w=>Z ch w
 | .outgrown,_=>False
def Ie{P:Program}{fn:Func}{R:Value->World->Prop}{Z:List PanicEntry->World->Prop}{tmps:Array Value}:∀(ds:DS)(u:FrameMode)(w:World),lv P fn R Z (fun i=>tmps.getD i undef) ds u w->
  LeavesInM Fence.wide 0 P fn tmps (Pq R Z) ds u w
 | [],.returning,w,h=>by
  obtain⟨l,a,W⟩:=QR h;exact⟨_,W,a⟩
 | [],.panicking ch,w,h=>h
 | [],.run,w,h=>h
 |d::ds,u,w,h=>by
  obtain⟨o,h⟩:=h;refine⟨o,?_⟩;rcases h with⟨r,X,a,W,b⟩|⟨B,m,g,j,a,W,b⟩
  ·exact .inl ⟨r,X,a,W,Ie ds u X b⟩
  ·refine .inr ⟨fun H=>by simp[Fence.wide]at H,B,m,g,j,a,W,fun _ _=>trivial,b.1,?_⟩;intro c k T n;obtain⟨e,p,X,Q,f,A⟩:=b.2 c k T n;refine⟨e,p,X,Q,?_,A⟩;cases e with
   |returned v=>exact Ie ds _ _ f
   |panicked ch=>exact Ie ds _ _ f
   |outgrown=>exact f.elim
def eZ{P:Program}{g:FuncId}{fn:Func}{c:Code}{args:LV}{w:World}{R:Value->World->Prop}{Z:List PanicEntry->World->Prop}
  (K:P.funcs[g]?=some fn)(S:fn.body=some c){n:Nat}(H:fn.ntmps=n)(N:args.length<=n)(b:D9 n false c=true)
  (h:WC P ⟨n,none⟩ c (Cc P fn R Z) (Hu args) [] w):FnP P g args w R Z:=by
 have E:(args.toArray++Array.replicate (fn.ntmps-args.toArray.size) undef).size=n:=by simp[H];omega
 have Q:=HK (P:=P) (n:=⟨n,none⟩) c (Cc P fn R Z) {tmps:=args.toArray++Array.replicate (fn.ntmps-args.toArray.size) undef,defers:=[]} w E b (by rw[RB];exact h)
 have T:CallsIn Fence.wide 0 P g args.toArray w (Pq R Z):=by
  refine callsIn_of_wp_marks K S trivial ?_;refine Hi Q ?_;rintro e a X⟨_,V⟩;cases e with
  |normal=>exact Ie _ _ _ V
  |ret=>exact Ie _ _ _ V
  |panic ch=>exact Ie _ _ _ V
  |exit _=>exact V.elim
  |goto _=>exact V.elim
  |outgrown=>exact V.elim
 refine Gg (Ov.1 T) fun e X B=>?_;cases e<;>exact B
def CK{P:Program}{g:FuncId}{fn:Func}{c:Code}{args:LV}{w:World}{R:Value->World->Prop}{Z:List PanicEntry->World->Prop}
  (K:P.funcs[g]?=some fn)(S:fn.body=some c){n:Nat}(H:fn.ntmps=n)(N:args.length<=n)(d:D9 n false c=true)
  (h:WC P ⟨n,none⟩ c (B8 P fn R Z) (Hu args) [] w):FnP P g args w R Z:=by
 have E:(args.toArray++Array.replicate (fn.ntmps-args.toArray.size) undef).size=n:=by simp[H];omega
 have Q:=HK (P:=P) (n:=⟨n,none⟩) c (B8 P fn R Z) {tmps:=args.toArray++Array.replicate (fn.ntmps-args.toArray.size) undef,defers:=[]} w E d (by rw[RB];exact h)
 have T:CallsIn Fence.wide 0 P g args.toArray w (Pq R Z):=by
  refine callsIn_of_wp_marks K S trivial ?_;refine Hi Q ?_;rintro e a X⟨_,V⟩;cases e with
  |normal=>obtain⟨x,B⟩:=V;simp only[bodyPostM,x];exact Ie [] .returning X B
  |ret=>obtain⟨x,B⟩:=V;simp only[bodyPostM,x];exact Ie [] .returning X B
  |panic ch=>obtain⟨x,B⟩:=V;simp only[bodyPostM,x];exact Ie (R:=R) (fn:=fn) (tmps:=a.tmps) [] (.panicking ch) X B
  |exit _=>exact V.elim
  |goto _=>exact V.elim
  |outgrown=>exact V.elim
 refine Gg (Ov.1 T) fun e X b=>?_;cases e<;>exact b
attribute [irreducible] WC AF CO B0 Cx B8 Cc CB
def FE:=@Ne.symm
def AO:=@Nat.le_refl
def Az:=@Nat.le_trans
def HX:=@World.block_lt_of_cell?
def FM:=@Array.getElem?_eq_some_iff
def Gb:=@heap_alloc_old
def HD:=@heap_alloc_new
def P4:=@Array.getElem?_modify
def Bs:=@Nat.zero_add
def Ed:=@List.getElem?_take
def KX:=@List.getElem?_drop
def GH:=@Nat.add_assoc
def Ah:=@List.getElem?_eq_some_iff
section
def Unm(w:World)(b:Nat):Prop:=∀(c:Array Value)(t:TypeId)(Q:Nat×Nat),w.heap[b]?=some (.cells c t Q)->Q=(0,0)\/∀(i:Nat)(v:Value),c[i]?=some v->∃n,v=.int .u8 n
class MK (mk:outParam Prop):Prop where
 triv:True
structure Keep{mk:Prop}[MK mk](X:List Nat)(w w':World):Prop where
 os:w'.os=w.os
 tape:w'.tape=w.tape
 output:w'.output=w.output
 size:w.heap.size<=w'.heap.size
 block:∀b,b<w.heap.size->b∉X->w'.heap[b]?=w.heap[b]?
 mark:mk->∀b,(b<w.heap.size->Unm w b)->Unm w' b
 drawn:w.drawn<=w'.drawn
variable {mk:Prop}[MK mk]
abbrev Ext(w w':World):Prop:=Keep [] w w'
theorem Unm.out{w:World}{b:Nat}(h:w.heap.size<=b):Unm w b:=fun c t Q e=>by rw[Le h]at e;cases e
theorem Unm.eq{w w':World}{b:Nat}(h:Unm w b)(e:w'.heap[b]?=w.heap[b]?):Unm w' b:=fun c t Q d=>h c t Q (e▸d)
theorem Unm.cells{w:World}{b:Nat}{c:Array Value}{t:TypeId}(h:w.heap[b]?=some (.cells c t (0,0))):Unm w b:=fun j T Q e=>by rw[h]at e;cases e;exact .inl rfl
theorem OD(w:World):∀b,(b<w.heap.size->Unm w b)->Unm w b:=fun b h=>by
 by_cases S:b<w.heap.size
 ·exact h S
 ·exact Unm.out U
theorem Us{w w':World}(e:w'.heap=w.heap):∀b,(b<w.heap.size->Unm w b)->Unm w' b:=fun b h=>(OD w b h).eq (by rw[e])
theorem JI{w w':World}(E:w'.heap.size<=w.heap.size+1)(a:∀k,k<w.heap.size->w'.heap[k]?=w.heap[k]?)(H:Unm w' w.heap.size):∀b,(b<w.heap.size->Unm w b)->Unm w' b:=fun b h=>by
 by_cases S:b<w.heap.size
 ·exact(h S).eq (a b S)
 ·by_cases B:b=w.heap.size
  ·rw[B];exact H
  ·exact Unm.out U
theorem JJ{w w':World}{g:Nat}(E:w'.heap.size=w.heap.size)(a:∀k,k≠g->w'.heap[k]?=w.heap[k]?)(y:Unm w' g):∀b,(b<w.heap.size->Unm w b)->Unm w' b:=fun b h=>by
 by_cases B:b=g
 ·rw[B];exact y
 ·exact(OD w b h).eq (a b B)
theorem V5{w:World}{g:Nat}{o:Obj}(a:∀c t Q,o≠ .cells c t Q):∀b,(b<w.heap.size->Unm w b)->Unm {w with heap:=w.heap.setIfInBounds g o} b:=
 JJ (g:=g) O (fun k P=>by simp[FE P]) fun c t Q e=>by
  by_cases h:g<w.heap.size
  ·simp[h]at e;exact absurd e (a c t Q)
  ·rw[Le rE]at e;cases e
theorem Keep.refl(X:List Nat)(w:World):Keep X w w:=⟨rfl,rfl,rfl,AO _,fun _ _ _=>rfl,fun _=>OD w,AO _⟩
theorem Ext.refl(w:World):Ext w w:=Keep.refl [] w
theorem Keep.Q{X Y:List Nat}{a b c:World}(h:Keep X a b)(k:Keep Y b c)(S:∀x∈Y,x<a.heap.size->x∈X):Keep X a c:=
 ⟨k.os.Q h.os,k.tape.Q h.tape,k.output.Q h.output,Az h.size k.size,fun i F V=>
  (k.block i (Nat.lt_of_lt_of_le F h.size) fun I=>V (S i I F)).Q (h.block i F V),
  (fun m b d=>k.mark m b fun _=>h.mark m b d),Az h.drawn k.drawn⟩
theorem Keep.ext{X:List Nat}{a b c:World}(h:Keep X a b)(k:Ext b c):Keep X a c:=h.Q k (fun _ V=>by cases V)
theorem Keep.mono{X Y:List Nat}{a b:World}(h:Keep X a b)(S:∀x∈X,x∈Y):Keep Y a b:=
 ⟨h.os,h.tape,h.output,h.size,(fun i F V=>h.block i F fun r=>V (S i r)),h.mark,h.drawn⟩
theorem Ext.any{X:List Nat}{a b:World}(h:Ext a b):Keep X a b:=h.mono fun _ V=>by cases V
theorem Ext.E{Y:List Nat}{a b c:World}(h:Ext a b)(k:Keep Y b c)(S:∀x∈Y,a.heap.size<=x):Ext a c:=
 h.Q k fun x V z=>absurd (S x V) U
theorem Ext.Q{a b c:World}(h:Ext a b)(k:Ext b c):Ext a c:=Keep.ext h k
theorem Keep.of_grown{w w':World}{P:Option Nat}(h:w.grownBy w' P)(x:w.drawn<=w'.drawn)(r:mk->∀b,(b<w.heap.size->Unm w b)->Unm w' b):Keep P.toList w w':=
 ⟨h.os,h.tape,h.output,h.size,(fun k a V=>h.block k a fun e=>V (by rw[<-e];simp)),r,x⟩
theorem Keep.cell{X:List Nat}{w w':World}(h:Keep X w w'){b o:Nat}{v:Value}(T:w.cell? ⟨b,o,none⟩=some v)(S:b∉X):w'.cell? ⟨b,o,none⟩=some v:=by
 have z:=HX w _ T;exact(World.cell?_of_block (w:=w) (h.block b z S)).Q T
def Blk(w:World)(b:Nat)(T:TypeId)(L:LV):Prop:=w.heap[b]?=some (.cells L.toArray T (0,0))
theorem Blk.lt{w:World}{b:Nat}{T:TypeId}{L:LV}(h:Blk w b T L):b<w.heap.size:=(FM.1 h).1
theorem Blk.E{X:List Nat}{w w':World}{b:Nat}{T:TypeId}{L:LV}(h:Blk w b T L)(k:Keep X w w')(S:b∉X):Blk w' b T L:=(k.block b h.lt S).Q h
theorem Blk.cell{w:World}{b:Nat}{T:TypeId}{L:LV}(h:Blk w b T L){o:Nat}{v:Value}(a:L[o]?=some v):w.cell? ⟨b,o,none⟩=some v:=by
 unfold Blk at h;simp[World.cell?,h,a]
theorem Blk.frozen{w:World}{b:Nat}{T:TypeId}{L:LV}(h:Blk w b T L)(o:Nat):w.frozen? ⟨b,o,none⟩=false:=by
 unfold Blk at h;simp[World.frozen?,h]
structure New(w w':World)(T:TypeId)(L:LV):Prop where
 E:Ext w w'
 size:w'.heap.size=w.heap.size+1
 D:Blk w' w.heap.size T L
theorem New.mk_alloc(w:World)(L:LV)(T:TypeId):New w (w.alloc (.cells L.toArray T)) T L:=
 ⟨⟨rfl,rfl,rfl,by simp,fun k P _=>Gb w _ P,fun _=>JI O (fun k P=>Gb w _ P) (Unm.cells (HD w _)),AO _⟩,by simp,HD w _⟩
structure Put(w w':World)(b:Nat)(T:TypeId)(L:LV):Prop where
 E:Keep [b] w w'
 size:w'.heap.size=w.heap.size
 D:Blk w' b T L
theorem Put.mk_setCell{w:World}{b:Nat}{T:TypeId}{L:LV}(h:Blk w b T L)(o:Nat)(v:Value):Put w (w.setCell ⟨b,o,none⟩ v) b T (L.set o v):=by
 unfold Blk at h
 have S:Blk (w.setCell ⟨b,o,none⟩ v) b T (L.set o v):=by
  simp only[Blk,World.setCell,P4,h];simp
 refine⟨⟨rfl,rfl,rfl,by simp[World.setCell],fun k _ P=>?_,fun _=>JJ (g:=b) (by simp[World.setCell]) (fun k P=>?_) (Unm.cells S),AO _⟩,by simp[World.setCell],S⟩
 ·exact Below.heap_setCell w ⟨b,o,none⟩ v k (by simpa using P)
 ·exact Below.heap_setCell w ⟨b,o,none⟩ v k (by simpa using P)
def Cells(w:World)(b off:Nat)(cs:LV):Prop:=∀(i:Nat)(u:Value),cs[i]?=some u->w.cell? ⟨b,off+i,none⟩=some u
theorem Cells.E{X:List Nat}{w w':World}{b off:Nat}{cs:LV}(h:Cells w b off cs)(k:Keep X w w')(S:b∉X):Cells w' b off cs:=
 fun i u o=>k.cell (h i u o) S
theorem Blk.cells{w:World}{b:Nat}{T:TypeId}{L:LV}(h:Blk w b T L):Cells w b 0 L:=fun i u o=>by rw[Bs];exact h.cell o
theorem Cells.part{w:World}{b off:Nat}{cs:LV}(h:Cells w b off cs)(k n:Nat):Cells w b (off+k) ((cs.drop k).take n):=by
 intro i u o;rw[Ed]at o
 split at o
 ·rw[KX]at o;rw[GH];exact h (k+i) u o
 ·cases o
def adv(cap l size:Nat)(a:Option Addr):Option Addr:=if cap=l then a else a.map (·.add (l*size))
def Sl(ok:Nat->Prop)(w:World)(v:Value)(n:Nat)(cs:LV):Prop:=
 ∃a u,v=.slice a n u/\n<=u/\u<=9223372036854775807/\(a=none->u=0)/\
  (n=0\/∃b X,a=some ⟨b,X,none⟩/\ok b/\Cells w b X cs)
theorem Sl.E{ok:Nat->Prop}{X:List Nat}{w w':World}{v:Value}{n:Nat}{cs:LV}(h:Sl ok w v n cs)(k:Keep X w w')(T:∀b,ok b->b∉X):Sl ok w' v n cs:=by
 obtain⟨a,u,s,Z,W,R,A⟩:=h;refine⟨a,u,s,Z,W,R,A.imp id ?_⟩;rintro⟨b,d,G,S,c⟩;exact⟨b,d,G,S,c.E k (T b S)⟩
theorem Sl.ext{ok:Nat->Prop}{w w':World}{v:Value}{n:Nat}{cs:LV}(h:Sl ok w v n cs)(k:Ext w w'):Sl ok w' v n cs:=h.E k fun _ _=>by simp
theorem Sl.mono{ok ok':Nat->Prop}{w:World}{v:Value}{n:Nat}{cs:LV}(h:Sl ok w v n cs)(P:∀b,ok b->ok' b):Sl ok' w v n cs:=by
 obtain⟨a,u,s,Z,W,R,A⟩:=h;refine⟨a,u,s,Z,W,R,A.imp id ?_⟩;rintro⟨b,X,G,S,T⟩;exact⟨b,X,G,P b S,T⟩
theorem New.own{w w':World}{e size n B:Nat}{out:LV}(h:New w w' e out)(N:out.length=n*size)(H:n<=maxLen)(x:B<=w.heap.size):w'.ownsRow B e size (.slice (sm w.heap.size) n n) n out:=
 ⟨N,.inr ⟨w.heap.size,n,out.toArray,rfl,x,h.D,AO _,H,by simpa using N,by rw[<-N];simp⟩⟩
theorem I9{w:World}{B N e size n:Nat}{v:Value}{xs:LV}(h:w.ownsRow B e size v n xs)(x:N<=B):w.ownsRow N e size v n xs:=by
 refine⟨h.1,h.2.imp id ?_⟩;rintro⟨g,u,C,s,y,r⟩;exact⟨g,u,C,s,Az x y,r⟩
theorem Bf{X:List Nat}{w w':World}{B e size n:Nat}{v:Value}{xs:LV}(h:w.ownsRow B e size v n xs)(k:Keep X w w')(T:∀g,v.ownBlock=some g->g∉X):w'.ownsRow B e size v n xs:=by
 refine⟨h.1,h.2.imp id ?_⟩;rintro⟨g,u,C,rfl,y,H,r⟩;exact⟨g,u,C,rfl,y,(k.block g (FM.1 H).1 (T g rfl)).Q H,r⟩
theorem CD{w w':World}{B e size n:Nat}{v:Value}{xs:LV}(h:w.ownsRow B e size v n xs)(k:Ext w w'):w'.ownsRow B e size v n xs:=Bf h k fun _ _=>by simp
theorem BG{w:World}{B e size n:Nat}{v:Value}{xs:LV}{ok:Nat->Prop}(h:w.ownsRow B e size v n xs)(c:∀g,v.ownBlock=some g->ok g):Sl ok w v n xs:=by
 obtain⟨N,s⟩:=h;rcases s with⟨rfl,rfl⟩|⟨g,a,C,rfl,S,y,Q,b,d,P⟩
 ·exact⟨none,0,rfl,by omega,by omega,fun _=>rfl,.inl rfl⟩
 ·refine⟨_,a,rfl,Q,by unfold maxLen at b;omega,(fun h=>by cases h),.inr ⟨g,0,rfl,c g rfl,?_⟩⟩;intro i u o;have z:i<n*size:=by rw[<-N];exact(Ah.1 o).1
  rw[<-P,Ed,AJ z]at o;simp only[World.cell?,y,Bs];simpa using o
def AL:Nat->Prop:=fun _=>True
def Gu(c:UInt8):Value:=.int .u8 (c.toNat:Int)
def Ez(l:LU):LV:=l.map Gu
theorem Z2(l m:LU):Ez (l++m)=Ez l++Ez m:=by simp[Ez]
theorem cP{l:LU}{i:Nat}(h:i<l.length):(Ez l)[i]?=some (Gu (l.getD i 0)):=by
 simp[Ez,h]
end
def DN:=@if_true
def D6:=@Bool.false_eq_true
def BV:=@run_underlying
def FQ:=@Addr.add_lit
def GG:=@Option.map_some
def Ic:=@Option.map_none
section
variable {mk:Prop}[MK mk]
attribute [local semireducible] WC AF CO B0 Cx B8 Cc CB
def IT:TypeDesc->Bool
 | .struct _=>true
 | .array _ _=>true
 |_=>false
class CP (P:Program) (T:TypeId):Prop where
 out:∃d,P.underlying T=some d/\IT d=false
class DU (P:Program) (T:TypeId) (size:outParam Nat):Prop where
 out:(∃d,P.underlying T=some d/\IT d=true)/\∃i,P.info? T=some i/\i.size=size
class Bw (P:Program) (T:TypeId) (size:outParam Nat):Prop where
 out:∃i,P.info? T=some i/\i.size=size
class CG (P:Program) (T:TypeId) (L:outParam (LV)):Prop where
 out:∃i z,P.info? T=some i/\i.zero=some z/\z.cells=L.toArray
class SlT (P:Program) (T:TypeId) (e size bytes:outParam Nat) (z:outParam Value):Prop where
 und:P.underlying T=some (.slice e)
 out:∃i,P.info? e=some i/\i.zero=some z/\i.size=size/\i.bytes=bytes
class Gt (P:Program) (T:TypeId) (len e size:outParam Nat):Prop where
 und:P.underlying T=some (.array len e)
 out:∃i,P.info? e=some i/\i.size=size
class A0 (P:Program) (T:TypeId) (i:Nat) (off:outParam Nat) (ft:outParam TypeId):Prop where
 out:∃fs fld,P.underlying T=some (.struct fs)/\fs[i]?=some fld/\fld.offset=off/\fld.type=ft/\∃j,P.info? ft=some j/\j.size≠0
class Jd (P:Program) (T:TypeId):Prop where
 out:P.underlying T=some .string
class LP (P:Program) (T:TypeId) (k:outParam IntKind):Prop where
 out:P.underlying T=some (.int k)
class AI (P:Program) (g:FuncId):Prop where
 out:∃fn,P.funcs[g]?=some fn/\¬fn.name= "runtime.NumGoroutine" /\¬fn.body=none
variable {P:Program}{all:Array Oper}{Z:Fr->DS->List PanicEntry->World->Prop}{K:Fr->DS->World->Prop}{rest:List Oper}{f:Fr}{ds:DS}{w:World}
 {d:Nat}{ty:TypeId}{pos:String}{af:Array Edge}
theorem AB(h:K f ds w):AF P all Z K [] f ds w:=h
theorem At{o:Oper}{v:Value}{w':World}(g:o.guard=none)(B:(execOp (ev f) o).run P w=.ok (.value v) w')(h:AF P all Z K rest (Ea f o.dst v) ds w'):AF P all Z K (o::rest) f ds w:=by
 unfold AF;rw[g];simp only[CY,DN,CB,B];exact h
theorem M7{o:Oper}{w':World}(g:o.guard=none)(B:(execOp (ev f) o).run P w=.ok .skip w')(h:AF P all Z K rest (Ea f o.dst undef) ds w'):AF P all Z K (o::rest) f ds w:=by
 unfold AF;rw[g];simp only[CY,DN,CB,B];exact h
theorem AE{g:Option Nat}{op:Op}{j:Nat}{V:Bool}(i:Kt all f j=some V)(h:AF P all Z K (⟨g,op,ty,pos,af,none⟩::rest) f ds w):AF P all Z K (⟨g,op,ty,pos,af,some (j,V)⟩::rest) f ds w:=by
 unfold AF at h⊢;simp only[CY,i,beq_self_eq_true,DN]at h⊢;exact h
theorem AP{g:Option Nat}{op:Op}{j:Nat}{V:Bool}(i:(Kt all f j==some V)=false)(h:AF P all Z K rest (Ea f g undef) ds w):AF P all Z K (⟨g,op,ty,pos,af,some (j,V)⟩::rest) f ds w:=by
 unfold AF;have e:CY all f (some (j,V))=false:=i;simp only[e,D6,Dh];exact h
theorem GQ{x:Operand}(h:AF P all Z K rest (upd f d (ev f x)) ds w):AF P all Z K (⟨some d,.move x,ty,pos,af,none⟩::rest) f ds w:=
 At rfl (by simp[execOp]) h
theorem iS{c x y:Operand}(g:ev f c=.bool true)(h:AF P all Z K rest (upd f d (ev f x)) ds w):AF P all Z K (⟨some d,.pick c x y,ty,pos,af,none⟩::rest) f ds w:=
 At rfl (by simp[execOp,g,asBool]) h
theorem iR{c x y:Operand}(g:ev f c=.bool false)(h:AF P all Z K rest (upd f d (ev f y)) ds w):AF P all Z K (⟨some d,.pick c x y,ty,pos,af,none⟩::rest) f ds w:=
 At rfl (by simp[execOp,g,asBool]) h
theorem Rc{T:TypeId}{L:LV}[h:CG P T L](w:World):∃z,(zeroValue T).run P w=.ok z w/\z.cells=L.toArray:=by
 obtain⟨i,z,hi,p,g⟩:=h.out;exact⟨z,by simp[zeroValue,typeInfo,hi,p],g⟩
theorem Ai{T:TypeId}{L:LV}[hT:CG P T L](h:∀w',New w w' T L->AF P all Z K rest (upd f d (.pointer (sm w.heap.size))) ds w'):
  AF P all Z K (⟨some d,.alloc T,ty,pos,af,none⟩::rest) f ds w:=by
 obtain⟨z,p,g⟩:=Rc (P:=P) (T:=T) w;refine At (v:=.pointer (sm w.heap.size)) (w':=w.alloc (.cells L.toArray T)) rfl ?_ (h _ (New.mk_alloc w L T));simp[execOp,Instr.alloc,p,newVar,newRow,newObj,g,Sem.run]
theorem Ac{T:TypeId}{x:Operand}{L:LV}(V:(ev f x).cells=L.toArray)(h:∀w',New w w' T L->AF P all Z K rest (upd f d (.pointer (sm w.heap.size))) ds w'):
  AF P all Z K (⟨some d,.box T x,ty,pos,af,none⟩::rest) f ds w:=by
 refine At (v:=.pointer (sm w.heap.size)) (w':=w.alloc (.cells L.toArray T)) rfl ?_ (h _ (New.mk_alloc w L T));simp[execOp,Instr.box,newVar,newRow,newObj,V,Sem.run]
theorem AQ{T:TypeId}{a:Operand}{b o:Nat}{v:Value}[hT:CP P T](G:ev f a=.pointer (sn b o))(i:w.cell? ⟨b,o,none⟩=some v)(h:AF P all Z K rest (upd f d v) ds w):
  AF P all Z K (⟨some d,.load T a,ty,pos,af,none⟩::rest) f ds w:=by
 obtain⟨N,g,W⟩:=hT.out;refine At (v:=v) rfl ?_ h
 have e:(isAgg T).run P w=.ok false w:=by
  simp only[isAgg,BX,BV g,Bc];cases N<;>simp_all [IT]
 simp only[execOp,G,Instr.loadAt,Instr.sureAddr,loadVar,BX,Cq,Bc,e];simp[run_load,i]
theorem Al{T:TypeId}{a:Operand}{b o n:Nat}{L:LV}[hT:DU P T n](G:ev f a=.pointer (sn b o))(p:L.length=n)(m:Cells w b o L)
  (h:AF P all Z K rest (upd f d (.agg L.toArray)) ds w):AF P all Z K (⟨some d,.load T a,ty,pos,af,none⟩::rest) f ds w:=by
 obtain⟨⟨N,g,W⟩,i,hi,E⟩:=hT.out;refine At (v:=.agg L.toArray) rfl ?_ h
 have e:(isAgg T).run P w=.ok true w:=by
  simp only[isAgg,BX,BV g,Bc];cases N<;>simp_all [IT]
 have B:=run_loadCells_list (P:=P) w ⟨b,o,none⟩ L (fun j v C=>by rw[FQ];exact m j v C);rw[p,<-E]at B;simp only[execOp,G,Instr.loadAt,Instr.sureAddr,loadVar,BX,Cq,Bc,e,DN,sizeOf,typeInfo,program];simp[Sem.run,hi,B]
theorem AW{T B:TypeId}{a x:Operand}{b o:Nat}{v:Value}{L:LV}[hT:Bw P T 1](G:ev f a=.pointer (sn b o))(V:ev f x=v)(g:v.oneCell'=true)
  (S:Blk w b B L)(p:o<L.length)(h:∀w',Put w w' b B (L.set o v)->AF P all Z K rest f ds w'):
  AF P all Z K (⟨none,.store T a x,ty,pos,af,none⟩::rest) f ds w:=by
 obtain⟨i,hi,E⟩:=hT.out;refine M7 (w':=w.setCell ⟨b,o,none⟩ v) rfl ?_ (h _ (Put.mk_setCell S o v));have q:v.cells= #[v]:=by cases v<;>simp_all [Value.cells,Value.oneCell']
 have j:w.cell? ⟨b,o,none⟩=some L[o]:=S.cell (by simp[p]);have m:=S.frozen o;simp only[execOp,G,V,Instr.storeAt,Instr.sureAddr,storeVar,BX,Cq,Bc,sizeOf,typeInfo,program];simp[Sem.run,hi,E,q,storeCells,run_store P w _ v .plain g,j,m,Addr.add]
def inR(k:IntKind)(n:Int):Prop:=k.min<=n/\n<=k.max
theorem Mr{k:IntKind}{n:Int}(h:inR k n):k.wrap n=n:=by
 obtain⟨g,W⟩:=h;cases k<;>simp[IntKind.min,IntKind.max,IntKind.signed,IntKind.bits]at g W<;>simp[IntKind.wrap,IntKind.signed,IntKind.bits]<;>omega
theorem Dt{n:Int}(g: -9223372036854775808<=n)(W:n<=9223372036854775807):inR .i64 n:=by
 simp only[inR,IntKind.min,IntKind.max,IntKind.signed,IntKind.bits];exact⟨by simpa using g,by simpa using W⟩
theorem Dv{n:Int}(g:0<=n)(W:n<=255):inR .u8 n:=by
 simp only[inR,IntKind.min,IntKind.max,IntKind.signed,IntKind.bits];exact⟨by simpa using g,by simpa using W⟩
theorem Du{n:Int}(g:0<=n)(W:n<=65535):inR .u16 n:=by
 simp only[inR,IntKind.min,IntKind.max,IntKind.signed,IntKind.bits];exact⟨by simpa using g,by simpa using W⟩
section
variable {x y:Operand}{xt yt:TypeId}{k:IntKind}{a b:Int}
theorem Fz(V:ev f x=.int k a)(I:ev f y=.int k b)(B:inR k (a+b))(h:AF P all Z K rest (upd f d (.int k (a+b))) ds w):
  AF P all Z K (⟨some d,.binOp .add xt x y yt,ty,pos,af,none⟩::rest) f ds w:=
 At rfl sI h
theorem Iw(V:ev f x=.int k a)(I:ev f y=.int k b)(B:inR k (a-b))(h:AF P all Z K rest (upd f d (.int k (a-b))) ds w):
  AF P all Z K (⟨some d,.binOp .sub xt x y yt,ty,pos,af,none⟩::rest) f ds w:=
 At rfl sI h
theorem qO(V:ev f x=.int k a)(I:ev f y=.int k b)(B:inR k (a*b))(h:AF P all Z K rest (upd f d (.int k (a*b))) ds w):
  AF P all Z K (⟨some d,.binOp .mul xt x y yt,ty,pos,af,none⟩::rest) f ds w:=
 At rfl sI h
theorem Ym(V:ev f x=.int k a)(I:ev f y=.int k b)(G:0<=a)(S:0<b)(B:inR k a)(h:AF P all Z K rest (upd f d (.int k (a/b))) ds w):
  AF P all Z K (⟨some d,.binOp .quo xt x y yt,ty,pos,af,none⟩::rest) f ds w:=by
 have e:a.tdiv b=a/b:=Int.tdiv_eq_ediv_of_nonneg G;have i:a/b<=a:=Int.ediv_le_self b G;have v:0<=a/b:=Int.ediv_nonneg G U;have r:k.min<=0:=by cases k<;>decide
 have g:inR k (a/b):=⟨by omega,by have:=B.2;omega⟩;exact At rfl (by simp[execOp,V,I,eqGuard,binOp,Op.intDiv,show¬b=0 by omega,e,Mr g]) h
theorem qP(V:ev f x=.int k a)(I:ev f y=.int k b)(G:0<=a)(S:0<b)(h:AF P all Z K rest (upd f d (.int k (a%b))) ds w):
  AF P all Z K (⟨some d,.binOp .rem xt x y yt,ty,pos,af,none⟩::rest) f ds w:=by
 have e:a.tmod b=a%b:=Int.tmod_eq_emod_of_nonneg G;exact At rfl (by simp[execOp,V,I,eqGuard,binOp,Op.intDiv,show¬b=0 by omega,e]) h
theorem M6(V:ev f x=.int k a)(I:ev f y=.int k b)(i:a<b->AF P all Z K rest (upd f d (.bool true)) ds w)(h:b<=a->AF P all Z K rest (upd f d (.bool false)) ds w):
  AF P all Z K (⟨some d,.binOp .lss xt x y yt,ty,pos,af,none⟩::rest) f ds w:=by
 by_cases g:a<b
 ·exact At rfl rV (i g)
 ·exact At rfl rV (h U)
theorem Fa(V:ev f x=.int k a)(I:ev f y=.int k b)(i:a<=b->AF P all Z K rest (upd f d (.bool true)) ds w)(h:b<a->AF P all Z K rest (upd f d (.bool false)) ds w):
  AF P all Z K (⟨some d,.binOp .leq xt x y yt,ty,pos,af,none⟩::rest) f ds w:=by
 by_cases g:a<=b
 ·exact At rfl rV (i g)
 ·exact At rfl rV (h U)
theorem JU(V:ev f x=.int k a)(I:ev f y=.int k b)(i:b<a->AF P all Z K rest (upd f d (.bool true)) ds w)(h:a<=b->AF P all Z K rest (upd f d (.bool false)) ds w):
  AF P all Z K (⟨some d,.binOp .gtr xt x y yt,ty,pos,af,none⟩::rest) f ds w:=by
 by_cases g:b<a
 ·exact At rfl rV (i g)
 ·exact At rfl rV (h U)
theorem Iv(V:ev f x=.int k a)(I:ev f y=.int k b)(i:b<=a->AF P all Z K rest (upd f d (.bool true)) ds w)(h:a<b->AF P all Z K rest (upd f d (.bool false)) ds w):
  AF P all Z K (⟨some d,.binOp .geq xt x y yt,ty,pos,af,none⟩::rest) f ds w:=by
 by_cases g:b<=a
 ·exact At rfl rV (i g)
 ·exact At rfl rV (h U)
theorem Cb(V:ev f x=.int k a)(I:ev f y=.int k b)(i:a=b->AF P all Z K rest (upd f d (.bool true)) ds w)(h:a≠b->AF P all Z K rest (upd f d (.bool false)) ds w):
  AF P all Z K (⟨some d,.binOp .eql xt x y yt,ty,pos,af,none⟩::rest) f ds w:=by
 by_cases g:a=b
 ·exact At rfl rV (i g)
 ·exact At rfl rV (h g)
theorem JV(V:ev f x=.int k a)(I:ev f y=.int k b)(i:a≠b->AF P all Z K rest (upd f d (.bool true)) ds w)(h:a=b->AF P all Z K rest (upd f d (.bool false)) ds w):
  AF P all Z K (⟨some d,.binOp .neq xt x y yt,ty,pos,af,none⟩::rest) f ds w:=by
 by_cases g:a=b
 ·exact At rfl rV (h g)
 ·exact At rfl rV (i g)
theorem IM{c:Bool}(V:ev f x=.bool c)(h:AF P all Z K rest (upd f d (.bool (!c))) ds w):
  AF P all Z K (⟨some d,.unOp .not xt x,ty,pos,af,none⟩::rest) f ds w:=
 At rfl (by simp[execOp,V,Op.unary]) h
theorem YD[hs:LP P yt k]{k':IntKind}(V:ev f x=.int k' a)(B:inR k a)(h:AF P all Z K rest (upd f d (.int k a)) ds w)
  {M:TypeId}[hst:LP P M k']:AF P all Z K (⟨some d,.convert M yt x,ty,pos,af,none⟩::rest) f ds w:=
 At rfl (by simp[execOp,V,convert,BV hs.out,BV hst.out,Conv.intToInt,Mr B]) h
end
abbrev AA(l:LU):Value:=.string ⟨l.toArray⟩
section
variable {x y:Operand}{xt yt:TypeId}{s t:LU}
theorem CZ(V:ev f x=AA s)(I:ev f y=AA t)(i:s=t->AF P all Z K rest (upd f d (.bool true)) ds w)(h:s≠t->AF P all Z K rest (upd f d (.bool false)) ds w):
  AF P all Z K (⟨some d,.binOp .eql xt x y yt,ty,pos,af,none⟩::rest) f ds w:=by
 by_cases g:s=t
 ·exact At rfl sF (i g)
 ·exact At rfl sF (h g)
theorem Mt(V:ev f x=AA s)(I:ev f y=AA t)(i:s≠t->AF P all Z K rest (upd f d (.bool true)) ds w)(h:s=t->AF P all Z K rest (upd f d (.bool false)) ds w):
  AF P all Z K (⟨some d,.binOp .neq xt x y yt,ty,pos,af,none⟩::rest) f ds w:=by
 by_cases g:s=t
 ·exact At rfl sF (h g)
 ·exact At rfl sF (i g)
theorem GR(V:ev f x=AA s)(I:ev f y=AA t)(N:s.length+t.length<=9223372036854775807)(h:AF P all Z K rest (upd f d (AA (s++t))) ds w):
  AF P all Z K (⟨some d,.binOp .add xt x y yt,ty,pos,af,none⟩::rest) f ds w:=by
 refine At rfl ?_ h
 have e:(⟨s.toArray⟩++⟨t.toArray⟩:ByteArray)=⟨(s++t).toArray⟩:=by
  apply ByteArray.ext;simp
 have g:(⟨s.toArray⟩:ByteArray).size=s.length:=by simp[ByteArray.size]
 have W:(⟨t.toArray⟩:ByteArray).size=t.length:=by simp[ByteArray.size]
 simp[execOp,V,I,eqGuard,binOp,Op.stringOp,g,W,e];omega
theorem iT{i:Operand}{k:IntKind}{j:Int}{c:UInt8}[hT:Jd P xt](V:ev f x=AA s)(hi:ev f i=.int k j)(v:0<=j)(g:s[j.toNat]?=some c)(h:AF P all Z K rest (upd f d (Gu c)) ds w):
  AF P all Z K (⟨some d,.index xt x i,ty,pos,af,none⟩::rest) f ds w:=by
 refine At rfl ?_ h;obtain⟨o,m⟩:=Ah.1 g
 have e:(⟨s.toArray⟩:ByteArray)[j.toNat]?=some c:=by
  simp only[getElem?_def,ByteArray.size];simp[o];exact m
 simp[execOp,V,hi,Instr.index,asIntOf,BV hT.out,v,e,Gu]
end
theorem AV{T i off:Nat}{R:TypeId}{x:Operand}{b o:Nat}[hT:A0 P T i off R](V:ev f x=.pointer (sn b o))(h:AF P all Z K rest (upd f d (.pointer (sn b (o+off)))) ds w):
  AF P all Z K (⟨some d,.fieldAddr T x i,ty,pos,af,none⟩::rest) f ds w:=by
 obtain⟨q,Q,g,W,m,A,j,C,M⟩:=hT.out;refine At rfl ?_ h;simp only[execOp,V,Instr.fieldAt,BX,BV g,Bc,W,Instr.sureAddr,Cq,fieldPlace,sizeOf,typeInfo,program];simp[Sem.run,A,C,M,m,FQ]
theorem Hb{T e size bytes:Nat}{z:Value}{x i:Operand}{b o n c:Nat}{k:IntKind}{j:Int}[hT:SlT P T e size bytes z](m:ev f x=.slice (sn b o) n c)(hi:ev f i=.int k j)
  (v:0<=j)(g:j<n)(h:AF P all Z K rest (upd f d (.pointer (sn b (o+j.toNat*size)))) ds w):
  AF P all Z K (⟨some d,.indexAddr T x i,ty,pos,af,none⟩::rest) f ds w:=by
 obtain⟨q,V,_,E,_⟩:=hT.out;refine At rfl ?_ h;simp only[execOp,m,hi,Instr.indexAt,asIntOf,BX,Cq,Bc,BV hT.und,sizeOf,typeInfo,program];simp[Sem.run,V,E,v,g,FQ]
theorem Js{T g e size:Nat}{x i:Operand}{b o:Nat}{k:IntKind}{j:Int}[hT:Gt P T g e size](p:ev f x=.pointer (sn b o))(hi:ev f i=.int k j)
  (v:0<=j)(m:j<g)(h:AF P all Z K rest (upd f d (.pointer (sn b (o+j.toNat*size)))) ds w):
  AF P all Z K (⟨some d,.indexAddr T x i,ty,pos,af,none⟩::rest) f ds w:=by
 obtain⟨q,V,E⟩:=hT.out;refine At rfl ?_ h;simp only[execOp,p,hi,Instr.indexAt,asIntOf,BX,Cq,Bc,BV hT.und,sizeOf,typeInfo,program,Instr.sureAddr];simp[Sem.run,V,E,v,m,FQ]
theorem DZ{T e size bytes:Nat}{z:Value}{x i:Operand}{b o n c k:Nat}{Q:IntKind}{j:Int}[hT:SlT P T e size bytes z](V:ev f x=.slice (sn b o) n c)(hi:ev f i=.int Q j)
  (C:j=(k:Int))(g:k<n)(h:AF P all Z K rest (upd f d (.pointer (sn b (o+k*size)))) ds w):
  AF P all Z K (⟨some d,.indexAddr T x i,ty,pos,af,none⟩::rest) f ds w:=by
 subst C;exact Hb V hi U U rT
theorem HS{T e bytes:Nat}{z:Value}{x i:Operand}{b o n c k:Nat}{Q:IntKind}{j:Int}[hT:SlT P T e 1 bytes z](V:ev f x=.slice (sn b o) n c)(hi:ev f i=.int Q j)
  (C:j=(k:Int))(g:k<n)(h:AF P all Z K rest (upd f d (.pointer (sn b (o+k)))) ds w):
  AF P all Z K (⟨some d,.indexAddr T x i,ty,pos,af,none⟩::rest) f ds w:=
 DZ V hi C g rT
theorem H7{x:Operand}{vs:LV}{i:Nat}{v:Value}(V:ev f x=.tuple vs.toArray)(hi:vs[i]?=some v)(h:AF P all Z K rest (upd f d v) ds w):
  AF P all Z K (⟨some d,.extract x i,ty,pos,af,none⟩::rest) f ds w:=
 At rfl (by simp[execOp,V,Instr.extract,hi]) h
theorem J5(f:Fr):∀l:List Operand,evL f l=l.map (ev f)
 | []=>rfl
 |_::l=>by simp[evL,J5 f l]
theorem Av{g:FuncId}{xs:List Operand}{m:Array TypeId}{vs:LV}{R:Value->World->Prop}{Y:List PanicEntry->World->Prop}[hg:AI P g]
  (q:FnP P g vs w R Y)(G:evL f xs=vs)(h:∀v w',R v w'->AF P all Z K rest (upd f d v) ds w')(p:∀i w',Y i w'->Z f ds i w'):
  AF P all Z K (⟨some d,.call ⟨.value (.func g),xs.toArray,m⟩,ty,pos,af,none⟩::rest) f ds w:=by
 obtain⟨u,j,W,o⟩:=hg.out
 have r:(execOp (ev f) ⟨some d,.call ⟨.value (.func g),xs.toArray,m⟩,ty,pos,af,none⟩).run P w=.ok (.enter g vs.toArray) w:=by
  rw[J5]at G;simp only[execOp,resolve,ev,Deferred.ofValue,BX,Cq,Bc,invoke,callFunc,program];simp[Sem.run,j,W,o,<-G]
 unfold AF;simp only[CY,DN,CB,r];refine Gg q fun e w' B=>?_;cases e with
 |returned v=>exact h v w' B
 |panicked i=>exact p i w' B
 |outgrown=>exact B
theorem AD{g:FuncId}{xs:List Operand}{m:Array TypeId}{vs:LV}{R:Value->World->Prop}[hg:AI P g]
  (i:Fn P g vs w R)(G:evL f xs=vs)(h:∀v w',R v w'->AF P all Z K rest (upd f d v) ds w'):
  AF P all Z K (⟨some d,.call ⟨.value (.func g),xs.toArray,m⟩,ty,pos,af,none⟩::rest) f ds w:=
 Av i G h fun _ _ h=>h.elim
theorem Cj{x:Operand}{T e size bytes:Nat}{z:Value}{a:Option Addr}{n c:Nat}[hT:SlT P T e size bytes z](V:ev f x=.slice a n c)(h:AF P all Z K rest (upd f d (iV (n:Int))) ds w):
  AF P all Z K (⟨some d,.call ⟨.builtin .len,#[x],#[T]⟩,ty,pos,af,none⟩::rest) f ds w:=by
 refine At (v:=iV (n:Int)) rfl ?_ h;simp[execOp,resolve,invoke,builtin,Builtin.len_,V,BV hT.und,goInt]
theorem EM{x:Operand}{T:TypeId}{s:LU}[hT:Jd P T](V:ev f x=AA s)(h:AF P all Z K rest (upd f d (iV (s.length:Int))) ds w):
  AF P all Z K (⟨some d,.call ⟨.builtin .len,#[x],#[T]⟩,ty,pos,af,none⟩::rest) f ds w:=by
 refine At (v:=iV (s.length:Int)) rfl ?_ h;have g:(⟨s.toArray⟩:ByteArray).size=s.length:=rfl;simp[execOp,resolve,invoke,builtin,Builtin.len_,V,BV hT.out,goInt,g]
section
variable {T e size bytes:Nat}{z:Value}{x lo hi:Operand}{a:Option Addr}{n c:Nat}{k k':IntKind}{l h':Int}
theorem cI[hT:SlT P T e size bytes z](g:ev f x=.slice a n c)(N:ev f lo=.int k l)(H:ev f hi=.int k' h')(v:0<=l)(i:l<=h')(W:h'<=c)
  (h:AF P all Z K rest (upd f d (.slice (adv c l.toNat size a) (h'.toNat-l.toNat) (c-l.toNat))) ds w):
  AF P all Z K (⟨some d,.slice T x (some lo) (some hi) none,ty,pos,af,none⟩::rest) f ds w:=by
 obtain⟨q,V,_,E,_⟩:=hT.out;refine At rfl ?_ h;simp only[execOp,g,N,H,GG,Ic,Instr.sliceAt,BX,BV hT.und,Bc,Instr.slice,Instr.sliceBounds,Instr.sliceBound,asIntOf,Cq,sizeOf,typeInfo,program];simp[Sem.run,V,E,v,show(0:Int)<=h' by omega,W,adv];intro r;omega
theorem UT[hT:SlT P T e size bytes z](i:ev f x=.slice a n c)(N:ev f lo=.int k l)(v:0<=l)(g:l<=n)
  (h:AF P all Z K rest (upd f d (.slice (adv c l.toNat size a) (n-l.toNat) (c-l.toNat))) ds w):
  AF P all Z K (⟨some d,.slice T x (some lo) none none,ty,pos,af,none⟩::rest) f ds w:=by
 obtain⟨q,V,_,E,_⟩:=hT.out;refine At rfl ?_ h;simp only[execOp,i,N,GG,Ic,Instr.sliceAt,BX,BV hT.und,Bc,Instr.slice,Instr.sliceBounds,Instr.sliceBound,asIntOf,Cq,sizeOf,typeInfo,program];simp[Sem.run,V,E,v,g,adv]
theorem N5[hT:SlT P T e size bytes z](i:ev f x=.slice a n c)(H:ev f hi=.int k' h')(g:0<=h')(W:h'<=c)
  (h:AF P all Z K rest (upd f d (.slice a h'.toNat c)) ds w):
  AF P all Z K (⟨some d,.slice T x none (some hi) none,ty,pos,af,none⟩::rest) f ds w:=by
 obtain⟨q,V,_,E,_⟩:=hT.out;refine At rfl ?_ h;simp only[execOp,i,H,GG,Ic,Instr.sliceAt,BX,BV hT.und,Bc,Instr.slice,Instr.sliceBounds,Instr.sliceBound,asIntOf,Cq,sizeOf,typeInfo,program]
 have e:(if c=0 then a else a.map fun(x:Addr)=>x.add 0)=a:=by
  split
  ·rfl
  ·cases a with
   |none=>rfl
   |some a=>simp[Addr.add]
 simp[Sem.run,V,E,g,W,e]
theorem aV{g:Nat}{b o:Nat}[hT:Gt P T g e size](i:ev f x=.pointer (sn b o))(h:AF P all Z K rest (upd f d (.slice (sn b o) g g)) ds w):
  AF P all Z K (⟨some d,.slice T x none none none,ty,pos,af,none⟩::rest) f ds w:=by
 obtain⟨q,V,E⟩:=hT.out;refine At rfl ?_ h;simp only[execOp,i,Ic,Instr.sliceAt,BX,BV hT.und,Bc,Instr.sureAddr,Instr.sliceBounds,Cq,sizeOf,typeInfo,program];simp[Sem.run,V,E,FQ]
end
end
def Dc:=@List.eq_nil_of_length_eq_zero
def Jx:=@Nat.le_succ
def IY:=@Nat.mul_le_mul_right
def JF:=@setRow_other
def JH:=@setRow_heap
def Rr:=@growslice_fits
def RG:=@Int.natCast_mul
def Wx:=@run_storeCells_at
def HG:=@Nat.add_zero
def X7:=@List.foldl_cons
def C9:=@List.length_cons
def NY:=@List.set_append_right
def Jn:=@Option.some.injEq
def UK:=@Array.toArray_toList
def Md:=@Nat.mul_one
def UM:=@toList_madeCells_one
section
variable {mk:Prop}[MK mk]
attribute [local semireducible] WC AF CO B0 Cx B8 Cc CB
variable {P:Program}{all:Array Oper}{Z:Fr->DS->List PanicEntry->World->Prop}{K:Fr->DS->World->Prop}{rest:List Oper}{f:Fr}{ds:DS}{w:World}
 {d:Nat}{ty:TypeId}{pos:String}{af:Array Edge}
def oneC(cs:LV):Prop:=∀u∈cs,u.oneCell'=true
structure Apd(w w':World)(B:Nat)(e size:Nat)(v v':Value)(n:Nat)(xs:LV):Prop where
 own:w'.ownsRow B e size v' n xs
 E:Keep v.ownBlock.toList w w'
 D:v'.ownBlock=v.ownBlock\/v'.ownBlock=some w.heap.size
 some:n≠0->v'.ownBlock≠none
theorem WF{w:World}{B e size:Nat}{v:Value}{n:Nat}{xs:LV}(h:w.ownsRow B e size v n xs)(H:n≠0):v.ownBlock≠none:=by
 rcases h.2 with⟨_,a⟩|⟨g,_,_,rfl,_⟩
 ·exact absurd a H
 ·simp[Value.ownBlock]
theorem Z7{T e size G:Nat}{z:Value}(h:SlT P T e size G z)(a9:0<size)(b0:z.cells.size=size)(t:TypeId){B:Nat}{v sv:Value}{n m:Nat}{xs cs:LV}{ok:Nat->Prop}
  (q:w.ownsRow B e size v n xs)(hs:Sl ok w sv m cs)(N:cs.length=m*size)(h1:oneC cs)(r:n+m<=maxLen)(S:(n+m)*G<=140737488355328)(hB:B<=w.heap.size):
  ∃y w',(Builtin.append_ #[T,T] t #[v,sv]).run P w=.ok y w'/\Apd w w' B e size v y (n+m) (xs++cs):=by
 obtain⟨i,F,p,l,W⟩:=h.out;obtain⟨a,C,rfl,b1,_,a8,a6⟩:=hs;cases a with
 |none=>
  have a5:=a8 rfl;subst a5;obtain rfl:m=0:=by omega
  obtain rfl:cs=[]:=Dc (by simpa using N);have s:=run_append_owned_none (P:=P) w B T t e i size h.und F v n xs q;exact⟨v,w,s,by simpa using q,Keep.refl _ _,.inl rfl,fun H=>WF q U⟩
 |some ad=>
  have A:∀j u,cs[j]?=some u->w.cell? (ad.add j)=some u:=by
   intro j u D;rcases a6 with M|⟨b,b5,he,_,hc⟩
   ·subst M;have:cs=[]:=Dc (by simpa using N);rw[this]at D;simp at D
   ·cases he;rw[FQ];exact hc j u D
  obtain⟨y,w',s,E,hg,b2⟩:=run_append_own (P:=P) w B T t e i z size G h.und F p l W b0 a9 v n xs q ad m C cs N A h1 r S hB;have a1:((n+m:Nat):Int)<=9223372036854775807:=by simp only[maxLen]at r;omega
  have a3:∀o c,o=Obj.cells c e (0,0)->∀b,(b<w.heap.size->Unm w b)->Unm (w.drew.alloc o) b:=fun o c E=>JI O (fun k X=>Gb w.drew o X) (Unm.cells (c:=c) (t:=e) (by rw[<-E];exact HD w.drew o))
  have I:(∀b,(b<w.heap.size->Unm w b)->Unm w' b)/\(y.ownBlock=v.ownBlock\/y.ownBlock=some w.heap.size)/\w.drawn<=w'.drawn:=by
   rcases q.2 with⟨rfl,rfl⟩|⟨g,L,a4,rfl,_,a0,b3,_,a7,b4⟩
   ·by_cases M:m=0
    ·subst M;have H:cs=[]:=Dc (by simpa using N);subst H
     have V:(Builtin.append_ #[T,T] t #[nS,.slice (some ad) 0 C]).run P w=.ok (nS) w:=by
      simp[Builtin.append_,BV h.und,sizeOf,typeInfo,F,Builtin.lenOf,Builtin.firstCells,loadCells,loadCellsFrom]
     rw[s]at V;cases V;exact⟨OD w,.inl rfl,AO _⟩
    ·have V:=run_append_nil (P:=P) w T t e i z h.und F p ad m C cs (by rw[l];exact N) A U (by simpa using a1) (by rw[W];have:=S;simp only[Bs]at this;omega);rw[s]at V;cases V;exact⟨a3 _ _ rfl,.inr rfl,Jx _⟩
   ·by_cases a2:n+m<=L
    ·have V:=run_append_room (P:=P) w T t e i h.und F g n L a4 a0 ad m C cs (by rw[l];exact N) A h1 a2 (by rw[N,a7,l,<-Nat.add_mul];exact IY _ a2);rw[s]at V;cases V;exact⟨JJ (g:=g) rz (fun k X=>JF w g k _ X) (Unm.cells (JH w g _ _ e _ a0)),.inl rfl,AO _⟩
    ·have V:=run_append_grow (P:=P) w T t e i z h.und F p ⟨g,0,none⟩ n L xs (by rw[l];exact q.1) (fun j u D=>q.cells (g:=g) rfl j u D) ad m C cs (by rw[l];exact N) A U a1 (by rw[W];exact Rr U S);rw[s]at V;cases V;exact⟨a3 _ _ rfl,.inr rfl,Jx _⟩
  exact⟨y,w',s,E,Keep.of_grown hg I.2.2 (fun _=>I.1),I.2.1,fun H=>WF E H⟩
theorem Bk{T e size i:Nat}{z:Value}{s x:Operand}{B n m:Nat}{v sv:Value}{xs cs:LV}{ok:Nat->Prop}[hT:SlT P T e size i z](l:ev f s=v)(V:ev f x=sv)
  (g:w.ownsRow B e size v n xs)(E:Sl ok w sv m cs)(k:0<size)(A:z.cells.size=size)(N:cs.length=m*size)(b:oneC cs)(r:n+m<=9223372036854775807)(S:(n+m)*i<=140737488355328)(c:B<=w.heap.size)
  (h:∀a w',Apd w w' B e size v a (n+m) (xs++cs)->AF P all Z K rest (upd f d a) ds w'):
  AF P all Z K (⟨some d,.call ⟨.builtin .append,#[s,x],#[T,T]⟩,ty,pos,af,none⟩::rest) f ds w:=by
 obtain⟨a,w',j,G⟩:=Z7 (P:=P) hT k A ty g E N b rL S c;refine At (v:=a) (w':=w') rfl ?_ (h a w' G);simp[execOp,resolve,invoke,builtin,l,V,j]
theorem ST{T e size a:Nat}{z:Value}{l c:Operand}{k S:IntKind}{n:Nat}{N M:Int}[hT:SlT P T e size a z](q:ev f l=.int k N)(m:ev f c=.int S M)(L:N=(n:Int))(F:M=(n:Int))(y:a*n<=281474976710656)(r:n<=maxLen)
  (h:∀w',New w w' e (madeCells z.cells (n*size)).toList->AF P all Z K rest (upd f d (.slice (sm w.heap.size) n n)) ds w'):
  AF P all Z K (⟨some d,.makeSlice T l c,ty,pos,af,none⟩::rest) f ds w:=by
 subst L;subst F;obtain⟨i,o,p,s,j⟩:=hT.out;have g:(n:Int)<=9223372036854775807:=by simp only[maxLen]at r;omega
 have b:(i.bytes:Int)*(n:Int)<=281474976710656:=by
  rw[j];have h:((a*n:Nat):Int)<=281474976710656:=by omega
  rwa [RG]at h
 have B:=run_make (P:=P) w T e i z hT.und o p k S n n U (Int.le_refl _) b g;refine At (v:=.slice (sm w.heap.size) n n) (w':=w.alloc (.cells (madeCells z.cells (n*size)).toList.toArray e)) rfl ?_ (h _ (New.mk_alloc w _ e));simp[execOp,q,m,B,s]
theorem YE{T H e E B:Nat}{z:Value}{s x:Operand}{p G:Option Addr}{I r m c g off:Nat}{L cs:LV}[hT:SlT P T e 1 E z](A:ev f s=.slice p I r)(V:ev f x=.slice G m c)
  (S:Blk w g B L)(D:cs.length=Nat.min m I)(a0:0<cs.length->p=some ⟨g,off,none⟩/\∃b o,G=some ⟨b,o,none⟩/\Cells w b o cs)(X:off+cs.length<=L.length)(N:oneC cs)
  (h:∀w',Put w w' g B (splice L off cs)->AF P all Z K rest (upd f d (iV (cs.length:Int))) ds w'):
  AF P all Z K (⟨some d,.call ⟨.builtin .copy,#[s,x],#[T,H]⟩,ty,pos,af,none⟩::rest) f ds w:=by
 obtain⟨i,F,_,l,_⟩:=hT.out;have a2:(P.info? e).map (·.size)=some 1:=by simp[F,l]
 by_cases M:cs.length=0
 ·obtain rfl:cs=[]:=Dc M;have a1:Put w w g B (splice L off []):=⟨Keep.refl _ _,rfl,by simpa[splice]using S⟩;have a:Nat.min m I=0:=by simpa using D.symm
  refine At (v:=iV 0) (w':=w) rfl ?_ (by simpa[Ea]using h w a1);simp[execOp,resolve,invoke,builtin,A,V,Builtin.copy_,BV hT.und,Builtin.lenOf,sizeOf,typeInfo,F,l,a,goInt];cases G<;>cases p<;>simp[Builtin.firstCells,loadCells,loadCellsFrom,storeCells]
 ·obtain⟨rfl,b,o,rfl,W⟩:=a0 U;have y:w.heap[g]?=some (.cells L.toArray B (0,0)):=S;have hr:=run_copy_row (P:=P) w T H ty e g off I r ⟨b,o,none⟩ m c L.toArray B cs hT.und a2 y D (fun j v C=>by rw[FQ];exact W j v C) (by simpa using X) N;refine At (v:=iV cs.length) (w':=w.setRow g (splice L off cs).toArray) rfl ?_ (h _ ⟨⟨rfl,rfl,rfl,by simp[World.setRow],fun k _ q=>JF w g k _ (by simpa using q),fun _=>JJ (g:=g) rz (fun k q=>JF w g k _ q) (Unm.cells (JH w g _ _ B _ y)),AO _⟩,by simp[World.setRow],JH w g _ _ B _ y⟩);simp[execOp,resolve,invoke,builtin,A,V,hr,goInt,splice]
theorem Aa{T B n:Nat}{a x:Operand}{b o:Nat}{cs L:LV}[hT:Bw P T n](G:ev f a=.pointer (sn b o))(V:ev f x=.agg cs.toArray)(H:cs.length=n)(j:oneC cs)
  (S:Blk w b B L)(l:o+n<=L.length)(h:∀w',Put w w' b B (splice L o cs)->AF P all Z K rest f ds w'):
  AF P all Z K (⟨none,.store T a x,ty,pos,af,none⟩::rest) f ds w:=by
 obtain⟨i,F,E⟩:=hT.out;have y:w.heap[b]?=some (.cells L.toArray B (0,0)):=S;have e:=Wx P b o B cs 0 L.toArray w y rE j;simp only[HG]at e;refine M7 (w':=w.setRow b (splice L o cs).toArray) rfl ?_ (h _ ⟨⟨rfl,rfl,rfl,by simp[World.setRow],fun k _ c=>JF w b k _ (by simpa using c),fun _=>JJ (g:=b) rz (fun k c=>JF w b k _ c) (Unm.cells (JH w b _ _ B _ y)),AO _⟩,by simp[World.setRow],JH w b _ _ B _ y⟩);simp only[execOp,G,V,Instr.storeAt,Instr.sureAddr,storeVar,BX,Cq,Bc,sizeOf,typeInfo,program,Value.cells];simp[Sem.run,F,E,H];rw[e];simp[splice]
class StT (P:Program) (T:TypeId) (places:outParam (List (Nat×Nat))) (zero:outParam (LV)):Prop where
 out:∃fs i z,P.underlying T=some (.struct fs)/\P.info? T=some i/\i.zero=some z/\z.cells=zero.toArray/\
  ∀w,(fs.mapM (m:=Sem) fun f=>do pure (f.offset,<-sizeOf f.type)).run P w=.ok places.toArray w
def IP(a:Nat->Option (Nat×Nat))(y:LV):List (Nat×Value)->Option (LV)
 | []=>some y
 |(i,v)::rest=>
  match a i with
  |none=>none
  |some (off,size)=>if v.cells.size=size/\off+size<=y.length then IP a (splice y off v.cells.toList) rest else none
theorem ef(cs:LV):∀(k off:Nat)(y:Array Value),off+k+cs.length<=y.size->
  (cs.zipIdx k).foldl (fun(a:Array Value)(p:Value×Nat)=>a.setIfInBounds (off+p.2) p.1) y=(splice y.toList (off+k) cs).toArray:=by
 induction cs with
 |nil=>intro k off y _;simp[splice]
 |cons c cs ih=>
  intro k off y h;simp only[List.zipIdx_cons,X7];simp only[C9]at h;rw[ih (k+1) off _ rE]
  congr 1
  simp only[splice,Array.toList_setIfInBounds,C9];have e:off+(k+1)=off+k+1:=by omega
  rw[e,List.take_set,List.drop_set,AJ U];rw[List.take_succ_eq_append_getElem rE];rw[NY _ _ rE];have N:off+k-min (off+k) y.size=0:=by omega
  have b:off+k+1+cs.length=off+k+(cs.length+1):=by omega
  simp[N,b]
theorem Na(a:Nat->Option (Nat×Nat)):∀(parts:List (Nat×Value))(y out:LV),IP a y parts=some out->Instr.fill a y.toArray parts=some out.toArray
 | [],y,out,h=>by simp only[IP,Jn]at h;subst h;rfl
 |(i,v)::rest,y,out,h=>by
  simp only[IP]at h;simp only[Instr.fill];cases hp:a i with
  |none=>simp[hp]at h
  |some p=>
   obtain⟨X,k⟩:=p;simp only[hp]at h
   split at h
   ·rename_i hc;obtain⟨e,W⟩:=hc
    have b:(v.cells.size≠k||decide (X+v.cells.size>y.toArray.size))=false:=by
     simp[e];omega
    simp only[b,D6,Dh]
    have g:v.cells.zipIdx.foldl (fun cs(x:Value×Nat)=>match x with|(c,j)=>cs.setIfInBounds (X+j) c) y.toArray=(splice y X v.cells.toList).toArray:=by
     rw[<-Array.foldl_toList];have:=ef v.cells.toList 0 X y.toArray rE;simpa using this
    rw[g];exact Na a rest _ _ h
   ·cases h
def evP(f:Fr):List (Nat×Operand)->List (Nat×Value)
 | []=>[]
 |(i,x)::l=>(i,ev f x)::evP f l
theorem O0(f:Fr):∀l:List (Nat×Operand),evP f l=l.map fun p=>(p.1,ev f p.2)
 | []=>rfl
 |(i,x)::l=>by simp[evP,O0 f l]
theorem DB{T:TypeId}{parts:List (Nat×Operand)}{vs:List (Nat×Value)}{I:List (Nat×Nat)}{zero out:LV}[hT:StT P T I zero](s:evP f parts=vs)(a:IP (fun i=>I[i]?) zero vs=some out)
  (h:AF P all Z K rest (upd f d (.agg out.toArray)) ds w):AF P all Z K (⟨some d,.build T parts.toArray,ty,pos,af,none⟩::rest) f ds w:=by
 obtain⟨q,i,z,c,W,g,A,j⟩:=hT.out;refine At rfl ?_ h;rw[O0]at s;have k:=Na _ _ _ _ a;have p:(zeroValue T).run P w=.ok z w:=by simp[zeroValue,typeInfo,W,g]
 have e:Array.map (fun(x:Nat×Operand)=>match x with|(i,x)=>(i,ev f x)) parts.toArray=vs.toArray:=by
  rw[<-s];simp
 simp only[execOp,e,Instr.build,BX,p,Bc,BV c,A];rw[j w];simp only[Bc];have b:(fun i:Nat=>I.toArray[i]?)=fun i=>I[i]?:=by funext i;simp
 rw[b,k];simp
theorem Tl{T c e size:Nat}{parts:List (Nat×Operand)}{vs:List (Nat×Value)}{zero out:LV}[hT:Gt P T c e size][hZ:CG P T zero](s:evP f parts=vs)(a:IP (fun i=>some (i*size,size)) zero vs=some out)
  (h:AF P all Z K rest (upd f d (.agg out.toArray)) ds w):AF P all Z K (⟨some d,.build T parts.toArray,ty,pos,af,none⟩::rest) f ds w:=by
 obtain⟨j,C,E⟩:=hT.out;obtain⟨z,p,X⟩:=Rc (P:=P) (T:=T) w;refine At rfl ?_ h;rw[O0]at s;have b:=Na _ _ _ _ a
 have e:Array.map (fun(x:Nat×Operand)=>match x with|(i,x)=>(i,ev f x)) parts.toArray=vs.toArray:=by
  rw[<-s];simp
 simp only[execOp,e,Instr.build,BX,p,Bc,BV hT.und,X,sizeOf,typeInfo,program];simp[Sem.run,C,E,b]
theorem Ay{T e size g n:Nat}{z:Value}{parts:List (Nat×Operand)}{vs:List (Nat×Value)}{out:LV}[hT:SlT P T e size g z](s:evP f parts=vs)(H:n*size<=16777216)
  (a:IP (fun i=>some (i*size,size)) (madeCells z.cells (n*size)).toList vs=some out)
  (h:∀w',New w w' e out->AF P all Z K rest (upd f d (.slice (sm w.heap.size) n n)) ds w'):AF P all Z K (⟨some d,.buildSlice T n parts.toArray,ty,pos,af,none⟩::rest) f ds w:=by
 obtain⟨i,F,p,l,N⟩:=hT.out;refine At (v:=.slice (sm w.heap.size) n n) (w':=w.alloc (.cells out.toArray e)) rfl ?_ (h _ (New.mk_alloc w _ e));rw[O0]at s;have b:=Na _ _ _ _ a
 have B:Array.map (fun(x:Nat×Operand)=>match x with|(i,x)=>(i,ev f x)) parts.toArray=vs.toArray:=by
  rw[<-s];simp
 have M:¬(16777216<n*size):=by omega
 have G:(madeCells z.cells (n*size)).toList.toArray=(Array.range (n*size)).map (fun j=>z.cells[j%z.cells.size]!):=by rw[UK];rfl
 rw[G]at b;simp only[execOp,B,Instr.buildSlice,BX,BV hT.und,Bc,sizeOf,typeInfo,program];by_cases c:n*size=0
 ·simp[c,Array.range_zero']at b;simp[Sem.run,F,l,c,Array.range_zero',b,newRow,newObj]
 ·simp[Sem.run,F,l,c,M,p,zeroValue,typeInfo,b,newRow,newObj]
theorem Ka{T e b n:Nat}{z:Value}{parts:List (Nat×Operand)}{vs:List (Nat×Value)}{out:LV}[hT:SlT P T e 1 b z](p:z.cells= #[z])(H:n<=16777216)(s:evP f parts=vs)
  (a:IP (fun i=>some (i,1)) (List.replicate n z) vs=some out)
  (h:∀w',New w w' e out->AF P all Z K rest (upd f d (.slice (sm w.heap.size) n n)) ds w'):AF P all Z K (⟨some d,.buildSlice T n parts.toArray,ty,pos,af,none⟩::rest) f ds w:=by
 refine Ay s U ?_ h;rw[p,Md,UM];have e:(fun i:Nat=>some (i*1,1))=fun i=>some (i,1):=by funext i;rw[Md]
 rw[e];exact a
theorem Mg{T e i:Nat}{z:Value}{l c:Operand}{k g:IntKind}{n:Nat}{N M:Int}[hT:SlT P T e 1 i z](p:z.cells= #[z])(b:ev f l=.int k N)(a:ev f c=.int g M)(L:N=(n:Int))(F:M=(n:Int))(S:i*n<=281474976710656)(r:n<=9223372036854775807)
  (h:∀w',New w w' e (List.replicate n z)->AF P all Z K rest (upd f d (.slice (sm w.heap.size) n n)) ds w'):
  AF P all Z K (⟨some d,.makeSlice T l c,ty,pos,af,none⟩::rest) f ds w:=
 ST b a L F S rL fun w' W=>h w' (by rw[p,Md,UM]at W;exact W)
theorem Jt{g:FuncId}{B a:List Operand}{v1 v2:LV}(b:evL f B=v1)(W:evL f a=v2)(h:AF P all Z K rest (upd f d (.func (.func g) v1.toArray v2.toArray)) ds w):
  AF P all Z K (⟨some d,.makeFunc (.func g) B.toArray a.toArray,ty,pos,af,none⟩::rest) f ds w:=by
 refine At rfl ?_ h;rw[J5]at b W;simp[execOp,Instr.makeFunc,<-b,<-W]
theorem GJ{g:FuncId}{t:Nat}{xs:List Operand}{m:Array TypeId}{vs v1 v2:LV}{R:Value->World->Prop}{Y:List PanicEntry->World->Prop}[hg:AI P g]
  (c:f t=.func (.func g) v1.toArray v2.toArray)(T:FnP P g (v1++vs++v2) w R Y)(G:evL f xs=vs)(h:∀v w',R v w'->AF P all Z K rest (upd f d v) ds w')(p:∀y w',Y y w'->Z f ds y w'):
  AF P all Z K (⟨some d,.call ⟨.value (.tmp t),xs.toArray,m⟩,ty,pos,af,none⟩::rest) f ds w:=by
 obtain⟨fn,a,W,b⟩:=hg.out
 have i:(execOp (ev f) ⟨some d,.call ⟨.value (.tmp t),xs.toArray,m⟩,ty,pos,af,none⟩).run P w=.ok (.enter g (v1++vs++v2).toArray) w:=by
  rw[J5]at G;simp only[execOp,resolve,ev,c,Deferred.ofValue,BX,Cq,Bc,invoke,callFunc,program];simp[Sem.run,a,W,b,<-G]
 unfold AF;simp only[CY,DN,CB,i];refine Gg T fun e w' B=>?_;cases e with
 |returned v=>exact h v w' B
 |panicked y=>exact p y w' B
 |outgrown=>exact B
theorem Bg{g:FuncId}{t:Nat}{xs:List Operand}{m:Array TypeId}{vs v1 v2:LV}{R:Value->World->Prop}[hg:AI P g]
  (a:f t=.func (.func g) v1.toArray v2.toArray)(T:Fn P g (v1++vs++v2) w R)(G:evL f xs=vs)(h:∀v w',R v w'->AF P all Z K rest (upd f d v) ds w'):
  AF P all Z K (⟨some d,.call ⟨.value (.tmp t),xs.toArray,m⟩,ty,pos,af,none⟩::rest) f ds w:=
 GJ a T G h fun _ _ h=>h.elim
theorem AM{g:FuncId}{fn:Func}{c:Code}{args:LV}{R:Value->World->Prop}(a:P.funcs[g]?=some fn)(S:fn.body=some c){n:Nat}(H:fn.ntmps=n)(h:WC P ⟨n,none⟩ c (B8 P fn R fun _ _=>False) (Hu args) [] w)(N:args.length<=n:=by exact Nat.le_of_ble_eq_true rfl)(b:D9 n false c=true:=by kernel_rfl):Fn P g args w R:=CK a S H N b h
section
variable {fn:Func}{R:Value->World->Prop}{Y:List PanicEntry->World->Prop}{t u v:Nat}
theorem Oc(B:fn.results.toList=[])(h:R (.tuple #[]) w):B8 P fn R Y .ret f [] w:=⟨rfl,by rw[B];exact h⟩
theorem Bt(B:fn.results.toList=[])(h:R (.tuple #[]) w):B8 P fn R Y .normal f [] w:=⟨rfl,by rw[B];exact h⟩
theorem AC(B:fn.results.toList=[.tmp t])(h:R (f t) w):B8 P fn R Y .ret f [] w:=⟨rfl,by rw[B];exact h⟩
theorem DF(B:fn.results.toList=[.tmp t,.tmp u])(h:R (.tuple #[f t,f u]) w):B8 P fn R Y .ret f [] w:=⟨rfl,by rw[B];exact h⟩
theorem Df(B:fn.results.toList=[.tmp t,.tmp u,.tmp v])(h:R (.tuple #[f t,f u,f v]) w):B8 P fn R Y .ret f [] w:=⟨rfl,by rw[B];exact h⟩
theorem NW{T n b o:Nat}{L:LV}(h:DU P T n)(g:L.length=n)(c:Cells w b o L):(loadVar T ⟨b,o,none⟩).run P w=.ok (.agg L.toArray) w:=by
 obtain⟨⟨N,a,W⟩,i,F,E⟩:=h.out
 have e:(isAgg T).run P w=.ok true w:=by
  simp only[isAgg,BX,BV a,Bc];cases N<;>simp_all [IT]
 have B:=run_loadCells_list (P:=P) w ⟨b,o,none⟩ L (fun j v C=>by rw[FQ];exact c j v C);rw[g,<-E]at B;simp only[loadVar,BX,Bc,e,DN,sizeOf,typeInfo,program];simp[Sem.run,F,B]
theorem Ar{T n b o:Nat}{L:LV}[hT:DU P T n](B:fn.results.toList=[.cell t T])(G:f t=.pointer (sn b o))(N:L.length=n)(a:Cells w b o L)(h:R (.agg L.toArray) w):B8 P fn R Y .ret f [] w:=
 ⟨rfl,by rw[B];exact⟨_,_,G,NW hT N a,h⟩⟩
theorem Dp{T n b o:Nat}{L:LV}[hT:DU P T n](B:fn.results.toList=[.cell t T,.tmp u])(G:f t=.pointer (sn b o))(N:L.length=n)(a:Cells w b o L)(h:R (.tuple #[.agg L.toArray,f u]) w):B8 P fn R Y .ret f [] w:=
 ⟨rfl,by rw[B];exact⟨_,_,G,NW hT N a,h⟩⟩
end
variable {n:Cf}{Q:CQ}
theorem Gn{a b:Code}(h:WC P n a (CO (WC P n b Q) Q) f ds w):WC P n (.seq a b) Q f ds w:=h
theorem lP{id:Nat}{c:Code}(h:WC P n c (B0 id Q) f ds w):WC P n (.block id c) Q f ds w:=h
theorem lS{c:Code}(h:WC P n c (Cx Q) f ds w):WC P n (.scope c) Q f ds w:=h
theorem AN{id:Nat}{ops:List Oper}(h:AF P ops.toArray (fun f ds y w=>Q (.panic y) f ds w) (Q .normal) ops f ds w):WC P n (.region id ops.toArray false) Q f ds w:=h
theorem oe(h:Q .normal f ds w):WC P n .skip Q f ds w:=h
theorem lR{l:Nat}(h:Q .normal f ds w):WC P n (.label l) Q f ds w:=h
theorem qJ(h:Q .ret f ds w):WC P n .ret Q f ds w:=h
theorem oZ{id:Nat}(h:Q (.exit id) f ds w):WC P n (.exit id) Q f ds w:=h
theorem iP{c:Operand}{x y:Code}(T:ev f c=.bool true)(h:WC P n x Q f ds w):WC P n (.cond c x y) Q f ds w:=by
 simp only[WC,T,DN];exact h
theorem iO{c:Operand}{x y:Code}(T:ev f c=.bool false)(h:WC P n y Q f ds w):WC P n (.cond c x y) Q f ds w:=by
 simp only[WC,T,D6,Dh];exact h
theorem Fx{k:Fr->DS->World->Prop}(h:k f ds w):CO k Q .normal f ds w:=h
theorem cD{k:Fr->DS->World->Prop}(h:Q .ret f ds w):CO k Q .ret f ds w:=h
theorem aT{k:Fr->DS->World->Prop}{i:Nat}(h:Q (.exit i) f ds w):CO k Q (.exit i) f ds w:=h
theorem aC{k:Fr->DS->World->Prop}{c:List PanicEntry}(h:Q (.panic c) f ds w):CO k Q (.panic c) f ds w:=h
theorem lT{id:Nat}(h:Q .normal f ds w):B0 id Q .normal f ds w:=h
theorem aS{id:Nat}(h:Q .ret f ds w):B0 id Q .ret f ds w:=h
theorem Z0{id:Nat}{c:List PanicEntry}(h:Q (.panic c) f ds w):B0 id Q (.panic c) f ds w:=h
theorem aB{id:Nat}(h:Q .normal f ds w):B0 id Q (.exit id) f ds w:=by simp only[B0,DN];exact h
theorem bo{id i:Nat}(F:Nat.beq i id=false)(h:Q (.exit i) f ds w):B0 id Q (.exit i) f ds w:=by
 have:¬i=id:=fun e=>by subst e;simp at F
 simp only[B0,AG this];exact h
theorem Aj{α:Type}(L:α->List (Nat×Value))(I:α->World->Prop)(μ:α->Nat)(a:α){c:Code}(g:agr (L a) f)(E:I a w)
  (B:∀x w e,I x w->WC P n c (CO (fun V T j=>∃y,(T=ds/\agr (L y) V/\I y j)/\μ y<μ x) Q) (ov (L x) e) ds w):WC P n (.loop c) Q f ds w:=by
 refine⟨α,fun x f b w=>b=ds/\agr (L x) f/\I x w,μ,a,⟨rfl,g,E⟩,?_⟩;rintro x f b w⟨rfl,i,W⟩;have h:=B x w f W;rw[Q4 i]at h;exact h
section
variable {x:Operand}
theorem AS{k:IntKind}{a:Int}(V:ev f x=.int k a)(h:AF P all Z K rest (upd f d (.int k a)) ds w):AF P all Z K (⟨some d,.move x,ty,pos,af,none⟩::rest) f ds w:=GQ rh
theorem BY{a:Option Addr}{l c:Nat}(V:ev f x=.slice a l c)(h:AF P all Z K rest (upd f d (.slice a l c)) ds w):AF P all Z K (⟨some d,.move x,ty,pos,af,none⟩::rest) f ds w:=GQ rh
theorem Aq{a:Option Addr}(V:ev f x=.pointer a)(h:AF P all Z K rest (upd f d (.pointer a)) ds w):AF P all Z K (⟨some d,.move x,ty,pos,af,none⟩::rest) f ds w:=GQ rh
theorem AH{b:Bool}(V:ev f x=.bool b)(h:AF P all Z K rest (upd f d (.bool b)) ds w):AF P all Z K (⟨some d,.move x,ty,pos,af,none⟩::rest) f ds w:=GQ rh
theorem BL{s:ByteArray}(V:ev f x=.string s)(h:AF P all Z K rest (upd f d (.string s)) ds w):AF P all Z K (⟨some d,.move x,ty,pos,af,none⟩::rest) f ds w:=GQ rh
theorem Mf{c:Array Value}(V:ev f x=.tuple c)(h:AF P all Z K rest (upd f d (.tuple c)) ds w):AF P all Z K (⟨some d,.move x,ty,pos,af,none⟩::rest) f ds w:=GQ rh
theorem qL{c:Array Value}(V:ev f x=.agg c)(h:AF P all Z K rest (upd f d (.agg c)) ds w):AF P all Z K (⟨some d,.move x,ty,pos,af,none⟩::rest) f ds w:=GQ rh
theorem K3{g:Go.Fn}{a b:Array Value}(V:ev f x=.func g a b)(h:AF P all Z K rest (upd f d (.func g a b)) ds w):AF P all Z K (⟨some d,.move x,ty,pos,af,none⟩::rest) f ds w:=GQ rh
theorem Yj{r:Option Nat}(V:ev f x=.map r)(h:AF P all Z K rest (upd f d (.map r)) ds w):AF P all Z K (⟨some d,.move x,ty,pos,af,none⟩::rest) f ds w:=GQ rh
theorem AT(h:AF P all Z K (⟨some d,.move x,ty,pos,af,none⟩::rest) f ds w):AF P all Z K (⟨some d,.assign x,ty,pos,af,none⟩::rest) f ds w:=h
theorem BF{c y:Operand}(T:ev f c=.bool true)(h:AF P all Z K (⟨some d,.move x,ty,pos,af,none⟩::rest) f ds w):AF P all Z K (⟨some d,.pick c x y,ty,pos,af,none⟩::rest) f ds w:=
 iS T (by simpa[AF,CY,CB,execOp,Ea]using h)
theorem BJ{c y:Operand}(T:ev f c=.bool false)(h:AF P all Z K (⟨some d,.move x,ty,pos,af,none⟩::rest) f ds w):AF P all Z K (⟨some d,.pick c y x,ty,pos,af,none⟩::rest) f ds w:=
 iR T (by simpa[AF,CY,CB,execOp,Ea]using h)
end
end
def Pk:=@mem_ready
def Wz:=@Nat.le_of_not_lt
def Bu:=@List.all_eq_true
def Lh:=@Array.mem_of_getElem?
def BI:=@List.mem_cons
section
variable {mk:Prop}[MK mk]
attribute [local semireducible] WC AF CO B0 Cx B8 Cc CB
variable {P:Program}{ops:Array Oper}{n:Nat}{rr:Option Nat}{Q:Exit->Act->World->Prop}{S:World->Prop}
def Pb(rr:Option Nat)(ops:Array Oper):Prop:=∀(j:Nat)(o:Oper),ops[j]?=some o->∀ρ,Oper.semAt rr ρ o=execOp ρ o
def YR(P:Program)(ops:Array Oper)(S:World->Prop)(o:Oper)(v:Value)(a:Act):Prop:=
 (Region.wanted o (yielded ops a.tmps)=true/\∀w,S w->(execOp a.eval o).run P w=.ok (.value v) w\/((execOp a.eval o).run P w=.ok .skip w/\v=undef)\/
  (∃g h c,(execOp a.eval o).run P w=.ok (.enter g h) c/\Calls P g h c (fun e X=>e=.returned v/\X=w))\/
  ∃l g m j body c,(execOp a.eval o).run P w=.ok (.round l g m j body) c/\RoundIn Fence.wide 0 P l g m j body c (fun e X=>e=.returned v/\X=w))\/
 (Region.wanted o (yielded ops a.tmps)=false/\v=undef)
theorem YR.same{o:Oper}{v:Value}{a c:Act}(I:YR P ops S o v a)(B:execOp c.eval o=execOp a.eval o)
  (e:Region.wanted o (yielded ops c.tmps)=Region.wanted o (yielded ops a.tmps)):YR P ops S o v c:=by
 unfold YR at*
 rw[B,e];exact I
theorem MO{rr:Option Nat}:(rnd rr).depth.isSome=true->1<=0:=fun H=>by simp[rnd,Fence.wide]at H
theorem YR.wpOp{i:Nat}{o:Oper}{v:Value}{a:Act}{w:World}(A:Pb rr ops)(p:ops[i]?=some o)(I:YR P ops S o v a)(z:S w){K:Act->World->Prop}(h:K (a.put o.dst v) w):wpOpIn (rnd rr) 0 P ops Q i K a w:=by
 unfold Go.wpOpIn;simp only[p];rcases I with⟨j,s⟩|⟨j,rfl⟩
 ·simp only[j,DN];refine⟨fun _ _=>trivial,?_⟩;have E:(rnd rr).round=rr:=rfl;rw[E,A i o p];rcases s w z with B|⟨B,rfl⟩|⟨g,q,m,B,T⟩|⟨l,g,C,u,body,m,B,T⟩
  ·rw[B];exact h
  ·rw[B];exact h
  ·rw[B];refine⟨MO,?_⟩;have T:CallsIn Fence.wide (0-1) P g q m _:=Ov.2 T;refine SN (F:=rnd rr) T fun e X c=>?_;obtain⟨rfl,rfl⟩:=c;exact h
  ·rw[B];have T:RoundIn (rnd rr) (0-1) P l g C u body m _:=T;refine⟨MO,Ju T fun e X c=>?_⟩;obtain⟨rfl,rfl⟩:=c;exact h
 ·simp only[j,D6,Dh];exact⟨fun _ _=>trivial,h⟩
theorem dr{j:Nat}{p q:Oper}{v:Value}(X:Pb rr ops)(C:ops[j]?=some q)(L:p.apart ops q=true)
  (V:∀cs b,p.op≠ .select cs b)(F:∀cs b,q.op≠ .select cs b)
  (z:∀c a w,Q (.panic c) (a.put p.dst v) w->Q (.panic c) a w){K:Act->World->Prop}{a:Act}{w:World}
  (I:YR P ops S p v a)(h:wpOpIn (rnd rr) 0 P ops Q j K (a.put p.dst v) w):
  wpOpIn (rnd rr) 0 P ops Q j (fun D w'=>YR P ops S p v D/\K (D.put p.dst v) w') a w:=by
 obtain⟨G,W,R⟩:=Oper.apart_spec L;have a1:∀(b:Act),YR P ops S p v b->∀u,YR P ops S p v (b.put q.dst u):=fun b A u=>A.same (execOp_put p V b q.dst u R) (wanted_put p b q.dst u R)
 have swap:∀(b:Act)(u:Value)w',YR P ops S p v b->K ((b.put p.dst v).put q.dst u) w'->YR P ops S p v (b.put q.dst u)/\K ((b.put q.dst u).put p.dst v) w':=fun b u w' A N=>
  ⟨a1 b A u,by rw[<-Act.put_comm b v u W];exact N⟩
 have a0:=wanted_put (ops:=ops) q a p.dst v G;have s:=execOp_put (ops:=ops) q F a p.dst v G;unfold wpOpIn at h⊢;simp only[C,a0]at h⊢;by_cases H:Region.wanted q (yielded ops a.tmps)=true
 ·simp only[H,DN]at h⊢;refine⟨fun _ _=>trivial,?_⟩;have h:=h.2;have E:(rnd rr).round=rr:=rfl;rw[E,X j q C]at h⊢;rw[s]at h;revert h;generalize (execOp a.eval q).run P w=r;intro h;cases r with
  |halt x w'=>cases x<;>first|exact h.elim|exact z _ _ _ h
  |ok m w'=>
   cases m with
   |value u=>exact swap a u w' I h
   |skip=>exact swap a undef w' I h
   |defer d=>
    have M:YR P ops S p v {a with defers:=d::a.defers}:=I.same rfl rfl;refine swap _ undef w' M ?_;rw[<-Act.put_defers];exact h
   |enter g args=>
    refine⟨MO,SN h.2 fun e T B=>?_⟩;cases e with
    |returned u=>exact swap a u T I B
    |panicked c=>exact z _ _ _ B
    |outgrown=>exact B
   |row r args=>exact⟨h.1,RowsIn.mono h.2 (fun u T B=>swap a u T I B)⟩
   |round l g tmps assign body=>
    refine⟨MO,Ju h.2 fun e T B=>?_⟩;cases e with
    |returned u=>exact swap a u T I B
    |panicked c=>exact z _ _ _ B
    |outgrown=>exact B
   |_=>exact h.elim
 ·simp only[H]at h⊢;exact⟨fun _ _=>trivial,swap a undef w I h.2⟩
def wpT(rr:Option Nat)(P:Program)(ops:Array Oper)(Q:Exit->Act->World->Prop)(S:World->Prop):Nat->Array Bool->Act->World->Prop
 |0,listed,a,w=>Region.ready .any ops listed=[]/\Q .normal a w
 |fuel+1,listed,a,w=>(Region.ready .any ops listed=[]->Q .normal a w)/\
  ∀i∈Region.ready .any ops listed,wpOpIn (rnd rr) 0 P ops Q i (fun c X=>S X/\wpT rr P ops Q S fuel (listed.setIfInBounds i true) c X) a w
theorem X2:∀(D:Nat)(E:Array Bool)(a:Act)(w:World),wpT rr P ops Q S D E a w->wpAnyIn (rnd rr) 0 P .any ops Q D E a w
 |0,_,_,_,h=>h
 |D+1,_,_,_,h=>⟨h.1,fun i F=>wpOpIn_mono (fun c X e=>X2 D _ c X e.2) (h.2 i F)⟩
theorem Wq{c:World->Prop}(E:∀w,c w->S w):∀(D:Nat)(j:Array Bool)(a:Act)(w:World),wpT rr P ops Q c D j a w->wpT rr P ops Q S D j a w
 |0,_,_,_,h=>h
 |D+1,_,_,_,h=>⟨h.1,fun i F=>wpOpIn_mono (fun l X e=>⟨E X e.1,Wq E D _ l X e.2⟩) (h.2 i F)⟩
theorem iJ{i:Nat}{u:Oper}{v:Value}(s:Pb rr ops)(F:ops[i]?=some u)(T:∀(j:Nat)(o:Oper)cs b,ops[j]?=some o->o.op≠ .select cs b)
  (hQ:∀c a w,Q (.panic c) (a.put u.dst v) w->Q (.panic c) a w):∀(D:Nat)(E:Array Bool)(a:Act)(w:World),
   (∀j m,ops[j]?=some m->j≠i->E.getD j true=false->(∀e∈m.after,Region.binds .any e=true->e.on≠i)->u.apart ops m=true)->
   i∈Region.ready .any ops E->YR P ops S u v a->S w->
   wpT rr P ops Q S D (E.setIfInBounds i true) (a.put u.dst v) w->wpT rr P ops Q S (D+1) E a w:=by
 intro D
 induction D with
 |zero=>
  intro E a w _ B I p H;refine⟨fun h=>(by rw[h]at B;cases B),fun j C=>?_⟩;by_cases l:j=i
  ·subst l;exact I.wpOp s F p ⟨p,H⟩
  ·have:=ready_mono C l;rw[H.1]at this;cases this
 |succ D ih=>
  intro E a w A B I p H;refine⟨fun h=>(by rw[h]at B;cases B),fun j C=>?_⟩;by_cases l:j=i
  ·subst l;exact I.wpOp s F p ⟨p,H⟩
  ·have X:=H.2 j (ready_mono C l);obtain⟨N,m,q,a0⟩:=Pk.1 C;have G:=(Pk.1 B).1
   have a4:∀e∈m.after,Region.binds .any e=true->e.on≠i:=by
    intro e he hb a1;have W:=a0 e he hb;rw[a1]at W;by_cases z:i<E.size
    ·simp[z]at G W;rw[G]at W;cases W
    ·simp[Le (Wz z)]at W
   have W:=dr s q (A j m q l N a4) (fun cs b=>T i u cs b F) (fun cs b=>T j m cs b q) hQ I X;refine wpOpIn_mono (fun V w' R=>⟨R.2.1,?_⟩) W;refine ih (E.setIfInBounds j true) V w' ?_ (ready_mono B (FE l)) R.1 R.2.1 ?_
   ·intro k ok hk a2 L a3;refine A k ok hk a2 ?_ a3;by_cases M:j=k
    ·subst M;exact N
    ·rw[getD_set_ne true M]at L;exact L
   ·rw[Array.setIfInBounds_comm _ _ l];exact R.2.2
inductive DT where
 |done
 |stop
 |read (i:Nat) (t:DT)
 |alt (i:Nat) (t r:DT)
def DT.heads:DT->List Nat
 | .alt i _ r=>i::r.heads
 |_=>[]
def Gk(ops:Array Oper):DT->Nat->Array Bool->Bool->Bool
 | .done,n,listed,b=> !b&&Nat.beq n 0&&(Region.ready .any ops listed).isEmpty
 | .stop,_,_,b=>b
 | .read _ _,0,_,_=>false
 | .read i t,n+1,listed,b=> !b&&(Region.ready .any ops listed).contains i&&Region.free .any ops listed i&&Gk ops t n (listed.setIfInBounds i true) false
 | .alt _ _ _,0,_,_=>false
 | .alt i t r,n+1,listed,b=>(b||(Region.ready .any ops listed==(DT.alt i t r).heads))&&Gk ops t n (listed.setIfInBounds i true) false&&Gk ops r (n+1) listed true
def BN(P:Program)(ops:Array Oper)(Z:Fr->DS->List PanicEntry->World->Prop)(K:Fr->DS->World->Prop):DT->(World->Prop)->Fr->DS->World->Prop
 | .done,_,f,ds,w=>K f ds w
 | .stop,_,_,_,_=>True
 | .read i r,S,f,ds,w=>∃o d v,ops[i]?=some o/\o.dst=some d/\
   (∀W,S W->AF P ops (fun _ _ _ _=>False) (fun e c X=>e=upd f d v/\c=ds/\X=W) [o] f ds W)/\BN P ops Z K r S (upd f d v) ds w
 | .alt i t r,S,f,ds,w=>(∃o,ops[i]?=some o/\AF P ops Z (fun e c X=>∃D:World->Prop,(∀W,D W->S W)/\D X/\BN P ops Z K t D e c X) [o] f ds w)/\BN P ops Z K r S f ds w
theorem Mq{f:Fr}{d:Nat}{u v:Value}(h:upd f d u=upd f d v):u=v:=by
 have:=congrFun h d;simpa[upd]using this
theorem qR{o:Oper}{d:Nat}{v:Value}{a:Act}(q:o.dst=some d){A:World}(F:S A)
  (h:∀W,S W->AF P ops (fun _ _ _ _=>False) (fun E C w'=>E=upd (Bi a) d v/\C=a.defers/\w'=W) [o] (Bi a) a.defers W):YR P ops S o v a:=by
 unfold YR;rw[Nk];by_cases s:CY ops (Bi a) o.guard=true
 ·refine .inl ⟨s,fun w z=>?_⟩;have j:=h w z;unfold AF at j;rw[AJ s]at j;unfold CB at j;rw[Mj];revert j;generalize (execOp (ev (Bi a)) o).run P w=r;intro j;cases r with
  |halt x w'=>cases x<;>exact j.elim
  |ok m w'=>
   cases m with
   |value u=>
    obtain⟨p,_,N⟩:=j;simp only[q,Ea]at p;rw[Mq p,N];exact .inl rfl
   |skip=>
    obtain⟨p,_,N⟩:=j;simp only[q,Ea]at p;rw[<-Mq p,N];exact .inr (.inl ⟨rfl,rfl⟩)
   |defer d'=>
    obtain⟨_,D,_⟩:=j;exact absurd D O
   |enter g args=>
    refine .inr (.inr (.inl ⟨g,args,w',rfl,Gg j fun e T B=>?_⟩));cases e with
    |returned u=>
     obtain⟨p,_,N⟩:=B;simp only[q,Ea]at p;exact⟨by rw[Mq p],N⟩
    |panicked c=>exact B.elim
    |outgrown=>exact B.elim
   |round l g tmps assign body=>
    refine .inr (.inr (.inr ⟨l,g,tmps,assign,body,w',rfl,Ju j fun e T B=>?_⟩));cases e with
    |returned u=>
     obtain⟨p,_,N⟩:=B;simp only[q,Ea]at p;exact⟨by rw[Mq p],N⟩
    |panicked c=>exact B.elim
    |outgrown=>exact B.elim
   |_=>exact j.elim
 ·have z:CY ops (Bi a) o.guard=false:=by simpa using s
  refine .inr ⟨z,?_⟩;have j:=h A F;unfold AF at j;rw[AG s]at j;obtain⟨p,_⟩:=j;simp only[q,Ea]at p;exact(Mq p).symm
theorem TR{n:Nat}{Q:CQ}{K:Fr->DS->World->Prop}{o:Oper}{i:Nat}(F:ops[i]?=some o){a:Act}{w:World}(H:a.tmps.size=n)(e:Eo n rr.isSome o=true)
  {K':Act->World->Prop}(G:∀c w',c.tmps.size=n->K (Bi c) c.defers w'->K' c w')
  (h:AF P ops (fun f ds l w=>Q (.panic l) f ds w) K [o] (Bi a) a.defers w):wpOpIn (rnd rr) 0 P ops (El n Q) i K' a w:=by
 have m:dOk n o.dst=true:=by have:=e;simp only[Eo,AZ]at this;exact this.1
 have next:=Xb (n:=n) (o:=o) (a:=a) (K:=K) (K':=K') H m G
 unfold wpOpIn;simp only[F,Nk];unfold AF at h;by_cases j:CY ops (Bi a) o.guard=true
 ·simp only[j,DN]at h⊢;exact VF (r:=rr) H e next h
 ·simp only[j]at h⊢;exact⟨fun _ _=>trivial,next undef a.defers w h⟩
theorem kn{n:Nat}(h:ops.toList.all (Eo n rr.isSome)=true):Pb rr ops:=fun j o ho ρ=>
 WV (n:=n) (Bu.1 h o (by simpa using Lh ho)) ρ
theorem Ow{n:Nat}{Q:CQ}(z:Region.noSelect ops=true)(p:ops.toList.all (Eo n rr.isSome)=true)(s:∀c f M ds w,Q (.panic c) f ds w->Q (.panic c) M ds w):
  ∀(N:DT)(D:Nat)(E:Array Bool)(b:Bool)(S:World->Prop)(a:Act)(w:World),Gk ops N D E b=true->a.tmps.size=n->S w->
   BN P ops (fun f ds L w=>Q (.panic L) f ds w) (Q .normal) N S (Bi a) a.defers w->
   (b=false->wpT rr P ops (El n Q) S D E a w)/\
   (∀k,D=k+1->∀j∈N.heads,wpOpIn (rnd rr) 0 P ops (El n Q) j (fun e w'=>S w'/\wpT rr P ops (El n Q) S k (E.setIfInBounds j true) e w') a w)
 | .done,D,E,b,S,a,w,hc,hn,hS,h=>by
  simp only[Gk,AZ,List.isEmpty_iff,D7]at hc;obtain⟨⟨rfl,W⟩,R⟩:=hc;obtain rfl:=P9 W;exact⟨fun _=>⟨R,hn,h⟩,fun _ _ j C=>by simp[DT.heads]at C⟩
 | .stop,D,E,b,S,a,w,hc,hn,hS,h=>by
  simp only[Gk]at hc;subst hc;exact⟨(fun h=>by cases h),fun _ _ j C=>by simp[DT.heads]at C⟩
 | .read i r,0,E,b,S,a,w,hc,hn,hS,h=>by simp[Gk]at hc
 | .read i r,D+1,E,b,S,a,w,hc,hn,hS,h=>by
  simp only[Gk,AZ,D7]at hc;obtain⟨⟨⟨A,l⟩,W⟩,R⟩:=hc;obtain⟨o,d,v,m,q,hy,u⟩:=h;have X:Eo n rr.isSome o=true:=Bu.1 p o (by simpa using Lh m);have I:dOk n o.dst=true:=by have:=X;simp only[Eo,AZ]at this;exact this.1
  have a0:d<a.tmps.size:=by rw[q]at I;simpa[dOk,Ip,hn]using I
  have a2:∀c(e:Act)(w':World),El n Q (.panic c) (e.put o.dst v) w'->El n Q (.panic c) e w':=fun c e w' V=>
   ⟨by simpa[Mb]using V.1,s c _ _ _ _ (by have:=V.2;rw[Lx]at this;exact this)⟩
  refine⟨fun _=>iJ (kn p) m (Region.noSelect_spec z) a2 D E a w (Region.free_spec m W) (by simpa using l) (qR q hS hy) hS ?_,fun _ _ j C=>by simp[DT.heads]at C⟩;refine(Ow z p s r D _ false S (a.put o.dst v) w R (by rw[Mb];exact hn) hS ?_).1 rfl;rw[Lx,q,Om v a0];exact u
 | .alt i t r,0,E,b,S,a,w,hc,hn,hS,h=>by simp[Gk]at hc
 | .alt i t r,D+1,E,b,S,a,w,hc,hn,hS,h=>by
  simp only[Gk,AZ]at hc;obtain⟨⟨l,W⟩,R⟩:=hc;obtain⟨⟨o,m,u⟩,a3⟩:=h;have I:Eo n rr.isSome o=true:=Bu.1 p o (by simpa using Lh m)
  have F:∀j∈(DT.alt i t r).heads,wpOpIn (rnd rr) 0 P ops (El n Q) j (fun e w'=>S w'/\wpT rr P ops (El n Q) S D (E.setIfInBounds j true) e w') a w:=by
   intro j C;simp only[DT.heads,BI]at C;rcases C with rfl|C
   ·refine TR m hn I ?_ u;rintro e w' a1⟨H,G,B,q⟩;exact⟨G w' B,Wq G _ _ _ _ ((Ow z p s t D _ false H e w' W a1 B q).1 rfl)⟩
   ·exact(Ow z p s r (D+1) E true S a w R hn hS a3).2 D rfl j C
  refine⟨fun T=>?_,fun k u j C=>?_⟩
  ·subst T;simp only[Ha,beq_iff_eq]at l;exact⟨fun A=>(by rw[A]at l;simp[DT.heads]at l),fun j C=>F j (by rw[<-l];exact C)⟩
  ·obtain rfl:D=k:=by omega
   exact F j C
theorem lQ{n:Cf}{Q:CQ}{id:Nat}{l:List Oper}{f:Fr}{ds:DS}{w:World}(N:DT)(S:World->Prop)(s:P.follows .mixedOrders=true)
  (T:(Region.noSelect l.toArray&&(l.all (Eo n.n n.r.isSome))&&Gk l.toArray N l.length (Array.replicate l.length false) false)=true)
  (p:∀c f j ds w,Q (.panic c) f ds w->Q (.panic c) j ds w)(q:S {w with drawn:=w.drawn+1})
  (h:BN P l.toArray (fun f ds e w=>Q (.panic e) f ds w) (Q .normal) N S f ds {w with drawn:=w.drawn+1}):WC P n (.region id l.toArray true) Q f ds w:=by
 simp only[AZ]at T;obtain⟨⟨m,W⟩,R⟩:=T;rintro a H rfl rfl;refine wpIn_region_any s (X2 (S:=S) _ _ _ _ ?_);have:=(Ow (P:=P) (rr:=n.r) (ops:=l.toArray) m (by simpa using W) p N _ _ false S a _ R H q h).1 rfl;simpa using this
section
variable {Z:Fr->DS->List PanicEntry->World->Prop}{K:Fr->DS->World->Prop}{r t:DT}{f:Fr}{ds:DS}{w:World}{i d:Nat}{o:Oper}{v:Value}
theorem Cy(h:K f ds w):BN P ops Z K .done S f ds w:=h
theorem D_R(l:ops[i]?=some o)(j:o.dst=some d)(I:∀W,S W->AF P ops (fun _ _ _ _=>False) (fun e c w'=>e=upd f d v/\c=ds/\w'=W) [o] f ds W)
  (h:BN P ops Z K r S (upd f d v) ds w):BN P ops Z K (.read i r) S f ds w:=⟨o,d,v,l,j,I,h⟩
theorem D_E(j:ops[i]?=some o)(h:AF P ops Z (fun e c w'=>∃D:World->Prop,(∀W,D W->S W)/\D w'/\BN P ops Z K t D e c w') [o] f ds w):
  BN P ops Z K (.alt i t .stop) S f ds w:=⟨⟨o,j,h⟩,trivial⟩
theorem D_A(l:ops[i]?=some o)(h:AF P ops Z (fun e c w'=>∃D:World->Prop,(∀W,D W->S W)/\D w'/\BN P ops Z K t D e c w') [o] f ds w)(j:BN P ops Z K r S f ds w):
  BN P ops Z K (.alt i t r) S f ds w:=⟨⟨o,l,h⟩,j⟩
theorem FW(j:ops[i]?=some o)(c:o.dst=some d)(e:CY ops f o.guard=true)(B:∀W,(execOp (ev f) o).run P W=.ok (.value v) W)(h:BN P ops Z K r S (upd f d v) ds w):BN P ops Z K (.read i r) S f ds w:=by
 refine D_R j c (fun W _=>?_) h;unfold AF;rw[AJ e];unfold CB;rw[B W];exact⟨by rw[c];rfl,rfl,rfl⟩
theorem Bq{j:Nat}{V:Bool}(m:ops[i]?=some o)(c:o.dst=some d)(l:o.guard=some (j,V))(s:Kt ops f j=some (!V))(h:BN P ops Z K r S (upd f d undef) ds w):BN P ops Z K (.read i r) S f ds w:=by
 refine D_R m c (fun W _=>?_) h;unfold AF;have e:CY ops f o.guard=false:=by rw[l];simp only[CY,s];cases V<;>rfl
 rw[e];exact⟨by rw[c];rfl,rfl,rfl⟩
section cmp
variable {xt yt ty:TypeId}{x y:Operand}{k:IntKind}{a b:Int}{pos:String}{af:Array Edge}{g:Option (Nat×Bool)}
theorem JS(e:ops[i]?=some ⟨some d,.binOp .lss xt x y yt,ty,pos,af,g⟩)(c:CY ops f g=true)(V:ev f x=.int k a)(I:ev f y=.int k b)
  (j:a<b->BN P ops Z K r S (upd f d (.bool true)) ds w)(h:b<=a->BN P ops Z K r S (upd f d (.bool false)) ds w):BN P ops Z K (.read i r) S f ds w:=by
 by_cases T:a<b
 ·exact sy
 ·exact tP
theorem So(e:ops[i]?=some ⟨some d,.binOp .leq xt x y yt,ty,pos,af,g⟩)(c:CY ops f g=true)(V:ev f x=.int k a)(I:ev f y=.int k b)
  (j:a<=b->BN P ops Z K r S (upd f d (.bool true)) ds w)(h:b<a->BN P ops Z K r S (upd f d (.bool false)) ds w):BN P ops Z K (.read i r) S f ds w:=by
 by_cases T:a<=b
 ·exact sy
 ·exact tP
theorem M3(e:ops[i]?=some ⟨some d,.binOp .gtr xt x y yt,ty,pos,af,g⟩)(c:CY ops f g=true)(V:ev f x=.int k a)(I:ev f y=.int k b)
  (j:b<a->BN P ops Z K r S (upd f d (.bool true)) ds w)(h:a<=b->BN P ops Z K r S (upd f d (.bool false)) ds w):BN P ops Z K (.read i r) S f ds w:=by
 by_cases T:b<a
 ·exact sy
 ·exact tP
theorem Sn(e:ops[i]?=some ⟨some d,.binOp .geq xt x y yt,ty,pos,af,g⟩)(c:CY ops f g=true)(V:ev f x=.int k a)(I:ev f y=.int k b)
  (j:b<=a->BN P ops Z K r S (upd f d (.bool true)) ds w)(h:a<b->BN P ops Z K r S (upd f d (.bool false)) ds w):BN P ops Z K (.read i r) S f ds w:=by
 by_cases T:b<=a
 ·exact sy
 ·exact tP
theorem M2(e:ops[i]?=some ⟨some d,.binOp .eql xt x y yt,ty,pos,af,g⟩)(c:CY ops f g=true)(V:ev f x=.int k a)(I:ev f y=.int k b)
  (j:a=b->BN P ops Z K r S (upd f d (.bool true)) ds w)(h:a≠b->BN P ops Z K r S (upd f d (.bool false)) ds w):BN P ops Z K (.read i r) S f ds w:=by
 by_cases T:a=b
 ·exact sy
 ·exact FW e rfl c (fun W=>by simp[execOp,V,I,eqGuard,binOp,Op.intCmp,T]) (h T)
theorem Sp(e:ops[i]?=some ⟨some d,.binOp .neq xt x y yt,ty,pos,af,g⟩)(c:CY ops f g=true)(V:ev f x=.int k a)(I:ev f y=.int k b)
  (j:a≠b->BN P ops Z K r S (upd f d (.bool true)) ds w)(h:a=b->BN P ops Z K r S (upd f d (.bool false)) ds w):BN P ops Z K (.read i r) S f ds w:=by
 by_cases T:a=b
 ·exact FW e rfl c (fun W=>by simp[execOp,V,I,eqGuard,binOp,Op.intCmp,T]) (h T)
 ·exact sy
theorem SR{s t:LU}(e:ops[i]?=some ⟨some d,.binOp .eql xt x y yt,ty,pos,af,g⟩)(c:CY ops f g=true)(V:ev f x=AA s)(I:ev f y=AA t)
  (j:s=t->BN P ops Z K r S (upd f d (.bool true)) ds w)(h:s≠t->BN P ops Z K r S (upd f d (.bool false)) ds w):BN P ops Z K (.read i r) S f ds w:=by
 by_cases T:s=t
 ·exact FW e rfl c (fun W=>by simp[execOp,V,I,eqGuard,binOp,Op.stringOp,T]) (j T)
 ·exact FW e rfl c (fun W=>by simp[execOp,V,I,eqGuard,binOp,Op.stringOp,T]) (h T)
theorem SS{s t:LU}(e:ops[i]?=some ⟨some d,.binOp .neq xt x y yt,ty,pos,af,g⟩)(c:CY ops f g=true)(V:ev f x=AA s)(I:ev f y=AA t)
  (j:s≠t->BN P ops Z K r S (upd f d (.bool true)) ds w)(h:s=t->BN P ops Z K r S (upd f d (.bool false)) ds w):BN P ops Z K (.read i r) S f ds w:=by
 by_cases T:s=t
 ·exact FW e rfl c (fun W=>by simp[execOp,V,I,eqGuard,binOp,Op.stringOp,T]) (h T)
 ·exact FW e rfl c (fun W=>by simp[execOp,V,I,eqGuard,binOp,Op.stringOp,T]) (j T)
end cmp
end
theorem DY{n:Cf}{Q:CQ}{id:Nat}{l:List Oper}{f:Fr}{ds:DS}{w:World}(N:DT)(u:P.follows .mixedOrders=true)
  (T:(Region.noSelect l.toArray&&(l.all (Eo n.n n.r.isSome))&&Gk l.toArray N l.length (Array.replicate l.length false) false)=true)
  (p:∀c f m ds w,Q (.panic c) f ds w->Q (.panic c) m ds w)
  (h:∀e,Ext w e->e.heap=w.heap->∃S:World->Prop,S e/\BN P l.toArray (fun f ds j w=>Q (.panic j) f ds w) (Q .normal) N S f ds e):WC P n (.region id l.toArray true) Q f ds w:=by
 obtain⟨S,q,s⟩:=h {w with drawn:=w.drawn+1} ⟨rfl,rfl,rfl,AO _,fun _ _ _=>rfl,fun _=>Us rfl,Jx _⟩ rfl;exact lQ N S u T p q s
theorem Ab{n:Cf}{Q:CQ}{id:Nat}{l:List Oper}{f:Fr}{ds:DS}{w:World}(N:DT)(m:P.follows .mixedOrders=true)
  (T:(Region.noSelect l.toArray&&(l.all (Eo n.n n.r.isSome))&&Gk l.toArray N l.length (Array.replicate l.length false) false)=true)
  (h:∀c,Ext w c->c.heap=w.heap->∃S:World->Prop,S c/\BN P l.toArray (fun _ _ _ _=>False) (Q .normal) N S f ds c):WC P n (.region id l.toArray true) Q f ds w:=by
 have:=DY (P:=P) (n:=n) (Q:=fun e f ds w=>match e with| .normal=>Q .normal f ds w|_=>False) (id:=id) N m T (fun _ _ _ _ _ h=>h) h;rintro a H rfl rfl;refine Hi (this a H rfl rfl) ?_;intro e a w V;obtain⟨j,W⟩:=V;cases e with
 |normal=>exact⟨j,W⟩
 |_=>exact W.elim
theorem Dg{fn:Func}{R:Value->World->Prop}{Y:List PanicEntry->World->Prop}:∀c f e ds w,B8 P fn R Y (.panic c) f ds w->B8 P fn R Y (.panic c) e ds w:=fun _ _ _ _ _ h=>h
theorem De{k:Fr->DS->World->Prop}{Q:CQ}(h:∀c f e ds w,Q (.panic c) f ds w->Q (.panic c) e ds w):∀c f e ds w,CO k Q (.panic c) f ds w->CO k Q (.panic c) e ds w:=h
theorem Ge{id:Nat}{Q:CQ}(h:∀c f e ds w,Q (.panic c) f ds w->Q (.panic c) e ds w):∀c f e ds w,B0 id Q (.panic c) f ds w->B0 id Q (.panic c) e ds w:=h
attribute [irreducible] BN
def rd:Nat->Nat->DT->DT
 |_,0,t=>t
 |i,n+1,t=>.read i (rd (i+1) n t)
theorem dz{P:Program}{all:Array Oper}{Z:Fr->DS->List PanicEntry->World->Prop}{g:Fr}{ds:DS}{w:World}:AF P all Z (fun f' ds' w'=>f'=g/\ds'=ds/\w'=w) [] g ds w:=⟨rfl,rfl,rfl⟩
theorem wNl{P:Program}{ops:Array Oper}{Z:Fr->DS->List PanicEntry->World->Prop}{K:Fr->DS->World->Prop}{S:World->Prop}{f:Fr}{ds:DS}{w:World}{t:DT}(k:S w)(h:BN P ops Z K t S f ds w):AF P ops Z (fun f' ds' w'=>∃S':World->Prop,(∀W,S' W->S W)/\S' w'/\BN P ops Z K t S' f' ds' w') [] f ds w:=AB ⟨S,fun _ h=>h,k,h⟩
end
section
variable {P:Program}{all:Array Oper}{Z:Fr->DS->List PanicEntry->World->Prop}{K:Fr->DS->World->Prop}{rest:List Oper}{f:Fr}{ds:DS}{w:World}
 {d:Nat}{ty:TypeId}{pos:String}{af:Array Edge}{x y:Operand}{xt yt:TypeId}{k:IntKind}{a b:Int}
theorem FX(V:ev f x=.int k a)(I:ev f y=.int k b)(c:a<b)(h:AF P all Z K rest (upd f d (.bool true)) ds w):AF P all Z K (⟨some d,.binOp .lss xt x y yt,ty,pos,af,none⟩::rest) f ds w:=M6 V I (fun _=>h) fun e=>absurd e U
theorem JQ(V:ev f x=.int k a)(I:ev f y=.int k b)(c:b<=a)(h:AF P all Z K rest (upd f d (.bool false)) ds w):AF P all Z K (⟨some d,.binOp .lss xt x y yt,ty,pos,af,none⟩::rest) f ds w:=M6 V I (fun e=>absurd e U) fun _=>h
theorem Is(V:ev f x=.int k a)(I:ev f y=.int k b)(c:a<=b)(h:AF P all Z K rest (upd f d (.bool true)) ds w):AF P all Z K (⟨some d,.binOp .leq xt x y yt,ty,pos,af,none⟩::rest) f ds w:=Fa V I (fun _=>h) fun e=>absurd e U
theorem KD(V:ev f x=.int k a)(I:ev f y=.int k b)(c:b<a)(h:AF P all Z K rest (upd f d (.bool false)) ds w):AF P all Z K (⟨some d,.binOp .leq xt x y yt,ty,pos,af,none⟩::rest) f ds w:=Fa V I (fun e=>absurd e U) fun _=>h
theorem Ms(V:ev f x=.int k a)(I:ev f y=.int k b)(c:b<a)(h:AF P all Z K rest (upd f d (.bool true)) ds w):AF P all Z K (⟨some d,.binOp .gtr xt x y yt,ty,pos,af,none⟩::rest) f ds w:=JU V I (fun _=>h) fun e=>absurd e U
theorem YG(V:ev f x=.int k a)(I:ev f y=.int k b)(c:a<=b)(h:AF P all Z K rest (upd f d (.bool false)) ds w):AF P all Z K (⟨some d,.binOp .gtr xt x y yt,ty,pos,af,none⟩::rest) f ds w:=JU V I (fun e=>absurd e U) fun _=>h
theorem LB(V:ev f x=.int k a)(I:ev f y=.int k b)(c:b<=a)(h:AF P all Z K rest (upd f d (.bool true)) ds w):AF P all Z K (⟨some d,.binOp .geq xt x y yt,ty,pos,af,none⟩::rest) f ds w:=Iv V I (fun _=>h) fun e=>absurd e U
theorem YF(V:ev f x=.int k a)(I:ev f y=.int k b)(c:a<b)(h:AF P all Z K rest (upd f d (.bool false)) ds w):AF P all Z K (⟨some d,.binOp .geq xt x y yt,ty,pos,af,none⟩::rest) f ds w:=Iv V I (fun e=>absurd e U) fun _=>h
theorem IH(V:ev f x=.int k a)(I:ev f y=.int k b)(c:a=b)(h:AF P all Z K rest (upd f d (.bool true)) ds w):AF P all Z K (⟨some d,.binOp .eql xt x y yt,ty,pos,af,none⟩::rest) f ds w:=Cb V I (fun _=>h) fun e=>absurd c e
theorem K9(V:ev f x=.int k a)(I:ev f y=.int k b)(c:¬a=b)(h:AF P all Z K rest (upd f d (.bool false)) ds w):AF P all Z K (⟨some d,.binOp .eql xt x y yt,ty,pos,af,none⟩::rest) f ds w:=Cb V I (fun e=>absurd e c) fun _=>h
theorem YH(V:ev f x=.int k a)(I:ev f y=.int k b)(c:¬a=b)(h:AF P all Z K rest (upd f d (.bool true)) ds w):AF P all Z K (⟨some d,.binOp .neq xt x y yt,ty,pos,af,none⟩::rest) f ds w:=JV V I (fun _=>h) fun e=>absurd e c
theorem ol(V:ev f x=.int k a)(I:ev f y=.int k b)(c:a=b)(h:AF P all Z K rest (upd f d (.bool false)) ds w):AF P all Z K (⟨some d,.binOp .neq xt x y yt,ty,pos,af,none⟩::rest) f ds w:=JV V I (fun e=>absurd c e) fun _=>h
theorem Z3{v:Value}:AF P all Z (fun c Q w'=>c=upd f d v/\Q=ds/\w'=w) [] (upd f d v) ds w:=AB ⟨rfl,rfl,rfl⟩
end
section
variable {P:Program}{ops:Array Oper}{Z:Fr->DS->List PanicEntry->World->Prop}{K:Fr->DS->World->Prop}{S:World->Prop}{f:Fr}{ds:DS}{w:World}{i d:Nat}{r:DT}{xt yt ty:TypeId}{x y:Operand}{k:IntKind}{a b:Int}{pos:String}{af:Array Edge}{g:Option (Nat×Bool)}
theorem SQ(l:ops[i]?=some ⟨some d,.binOp .lss xt x y yt,ty,pos,af,g⟩)(j:CY ops f g=true)(V:ev f x=.int k a)(I:ev f y=.int k b)(c:a<b)(h:BN P ops Z K r S (upd f d (.bool true)) ds w):BN P ops Z K (.read i r) S f ds w:=JS l j V I (fun _=>h) (fun e=>absurd e U)
theorem PH(l:ops[i]?=some ⟨some d,.binOp .lss xt x y yt,ty,pos,af,g⟩)(j:CY ops f g=true)(V:ev f x=.int k a)(I:ev f y=.int k b)(c:b<=a)(h:BN P ops Z K r S (upd f d (.bool false)) ds w):BN P ops Z K (.read i r) S f ds w:=JS l j V I (fun e=>absurd e U) fun _=>h
theorem PG(l:ops[i]?=some ⟨some d,.binOp .gtr xt x y yt,ty,pos,af,g⟩)(j:CY ops f g=true)(V:ev f x=.int k a)(I:ev f y=.int k b)(c:b<a)(h:BN P ops Z K r S (upd f d (.bool true)) ds w):BN P ops Z K (.read i r) S f ds w:=M3 l j V I (fun _=>h) (fun e=>absurd e U)
theorem SP(l:ops[i]?=some ⟨some d,.binOp .gtr xt x y yt,ty,pos,af,g⟩)(j:CY ops f g=true)(V:ev f x=.int k a)(I:ev f y=.int k b)(c:a<=b)(h:BN P ops Z K r S (upd f d (.bool false)) ds w):BN P ops Z K (.read i r) S f ds w:=M3 l j V I (fun e=>absurd e U) fun _=>h
theorem YB(l:ops[i]?=some ⟨some d,.binOp .geq xt x y yt,ty,pos,af,g⟩)(j:CY ops f g=true)(V:ev f x=.int k a)(I:ev f y=.int k b)(c:b<=a)(h:BN P ops Z K r S (upd f d (.bool true)) ds w):BN P ops Z K (.read i r) S f ds w:=Sn l j V I (fun _=>h) (fun e=>absurd e U)
theorem SO(l:ops[i]?=some ⟨some d,.binOp .eql xt x y yt,ty,pos,af,g⟩)(j:CY ops f g=true)(V:ev f x=.int k a)(I:ev f y=.int k b)(c:a=b)(h:BN P ops Z K r S (upd f d (.bool true)) ds w):BN P ops Z K (.read i r) S f ds w:=M2 l j V I (fun _=>h) (fun e=>absurd c e)
theorem YA(l:ops[i]?=some ⟨some d,.binOp .eql xt x y yt,ty,pos,af,g⟩)(j:CY ops f g=true)(V:ev f x=.int k a)(I:ev f y=.int k b)(c:¬a=b)(h:BN P ops Z K r S (upd f d (.bool false)) ds w):BN P ops Z K (.read i r) S f ds w:=M2 l j V I (fun e=>absurd e c) fun _=>h
end
end Go.Proofs.YtjbocjodncbogaaGreatDoor
