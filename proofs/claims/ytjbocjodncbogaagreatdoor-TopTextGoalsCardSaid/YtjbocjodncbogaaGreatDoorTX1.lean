/- TopTextGoals, part 1 of 16: rules, lemmas, walks. Conditions: none. -/
import Derived.WalkKit
import Derived.ProofKit
import Derived.Scope
import Derived.Orders
import Derived.Deep.LoopGhost
import Derived.Sort.LoopGhostIn
import Derived.OrdersIn
import Derived.TacticsIn
import Derived.RangeFuncLeaves
import Derived.Laws.AppendOwn
import Derived.Laws.MakeOwn
import Derived.Laws.CopyRow
import Derived.Deep.Draws
import Derived.Laws.OwnMore
import Derived.Laws.CopyOwn
import Derived.KernelRfl
namespace Go.Proofs.YtjbocjodncbogaaGreatDoor
open Go.RowKit
set_option linter.unusedVariables false
abbrev LV:=List Value
abbrev LU:=List UInt8
abbrev iV(n:Int):Value:=.int .i64 n
abbrev sm(b:Nat):Option Addr:=some ⟨b,0,none⟩
theorem Ea{p:Prop}(h:p:=by first|exact Bo (by omega) (by omega)|exact CD (by omega) (by omega)|exact Bn (by omega) (by omega)):p:=h
theorem Eu{p:Prop}(h:p:=by intro y E;simp[txtC,subC]at E;rcases E with rfl|rfl|rfl|rfl|rfl|rfl<;>rfl):p:=h
theorem Eq{p:Prop}(h:p:=by show Value.int .i64 ((k:Int)+1)=_;rw[Int.natCast_add];rfl):p:=h
theorem Ez{p:Prop}(h:p:=by simp[execOp,V,E,eqGuard,binOp,Op.intArith,wrap_in G]):p:=h
theorem E0{p:Prop}(h:p:=by intro u A;simp at A;rcases A with rfl|rfl<;>rfl):p:=h
theorem Ev{p:Prop}(h:p:=by simp[execOp,V,E,eqGuard,binOp,Op.stringOp,g]):p:=h
theorem Ef{p:Prop}(h:p:=by simp[execOp,V,E,eqGuard,binOp,Op.intCmp,g]):p:=h
theorem EY{p:Prop}(h:p:=by first|rfl|omega|(simp only;omega)):p:=h
theorem Ec{p:Prop}(h:p:=by intro b S;simp[fresh]at S⊢;omega):p:=h
theorem El{p:Prop}(h:p:=by have:=p.size;have:=r.size;omega):p:=h
theorem E2{p:Prop}(h:p:=by rw[Array.length_toList,made_len]):p:=h
theorem Ew{p:Prop}(h:p:=by rw[h];exact Bool.false_ne_true):p:=h
theorem Ej{p:Prop}(h:p:=by intro b S;simp at S⊢;omega):p:=h
theorem Ex{p:Prop}(h:p:=by rw[List.length_take];omega):p:=h
theorem Ey{p:Prop}(h:p:=by rw[List.length_set];omega):p:=h
theorem Er{p:Prop}(h:p:=by have:=kB.size;omega):p:=h
theorem EW{p:Prop}(h:p:=by unfold maxLen;omega):p:=h
theorem Eg{p:Prop}(h:p:=by(try simp);omega):p:=h
theorem En{p:Prop}(h:p:=by show 0<5;omega):p:=h
theorem Et{p:Prop}(h:p:=by rw[<-e];exact S):p:=h
theorem Ei{p:Prop}(h:p:=by rw[made10];rfl):p:=h
theorem Ek{p:Prop}(h:p:=by rw[V];exact h):p:=h
theorem Em{p:Prop}(h:p:=by rw[made2];rfl):p:=h
theorem ES{p:Prop}(h:p:=by simp<;>omega):p:=h
theorem Ee{p:Prop}(h:p:=by simpa using a4):p:=h
theorem Ed{p:Prop}(h:p:=by simpa using h):p:=h
theorem Eo{p:Prop}(h:p:=by simpa using a):p:=h
theorem Ep{p:Prop}(h:p:=by simpa using I):p:=h
theorem Es{p:Prop}(h:p:=by simpa using H):p:=h
theorem EV{p:Prop}(h:p:=by simp[zero5]):p:=h
theorem EZ{p:Prop}(h:p:=by rw[Cv];rfl):p:=h
theorem EP{p:Prop}(h:p:=by simp;omega):p:=h
theorem EU{p:Prop}(h:p:=by simp[valT]):p:=h
theorem EX{p:Prop}(h:p:=by simp[insT]):p:=h
theorem EO{p:Prop}(h:p:=by kernel_rfl):p:=h
theorem ER{p:Prop}(h:p:=by assumption):p:=h
theorem Eb{p:Prop}(h:p:=by simp[T]):p:=h
theorem Eh{p:Prop}(h:p:=by cases h):p:=h
theorem ET{p:Prop}(h:p:=by decide):p:=h
theorem U{p:Prop}(h:p:=by omega):p:=h
theorem O{p:Prop}(h:p:=by simp):p:=h
theorem EQ{p:Prop}(h:p:=by rfl):p:=h
theorem E4{p:Prop}(h:p:=by
 refine wNl trivial ?_
 refine go ?_
 refine D_E rfl ?_
 have b:=r.own (n:=1) (size:=5) rfl EW (Nat.le_refl _)
 refine Ax (ok:=Af) (B:=w.heap.size) (n:=0) (xs:=[]) (v:=.slice none 0 0) rfl rfl (own_nil _ _ _) (Aa b fun _ _=>trivial) U rfl rfl (AV rfl) U U El (fun R m q=>?_)
 refine wNl trivial ?_
 have a:=r.E.trans q.E
 exact V R _ _ ag ⟨p.ext a,Q.E a O,j.E a O,q.own⟩):p:=h
theorem E5{p:Prop}(h:p:=by
 rw[hv]at K
 refine go ?_
 refine AF (glone_ok W B F (tkB (l,false) d) d a6 v nm U a3 b0 ht hd hd2 cW) rfl ?_
 rintro u w6⟨k6,a8,R,L8,c8,o8,T⟩
 rw[<-K]at a8 c8 o8 T
 refine go ?_
 exact Aj (R,L8) ag ⟨kW.trans k6 (fun x h X=>by simp at h;rcases h with rfl|rfl;simp;omega),a8,⟨c8,DI o8 U,T _,fun g r=>by have:=(An o8 r).1;omega⟩,zW.E k6 EP,by have:=k6.size;omega⟩):p:=h
theorem E6{p:Prop}(h:p:=by
 rw[t]
 refine go ?_
 refine AQ (L:=[B,C,j,s,r]) rfl rfl Z ?_
 refine AI (cs:=[B,C,j,s,r]) rfl rfl rfl F.one T EV (fun R d=>go ?_)
 exact AW rfl rfl rfl d.D.cells ⟨G.E d.E O,(F.unm d.E (fun y E D=>by rw[List.mem_singleton]at D;omega)).mono fun y E=>⟨by omega,E.2⟩⟩):p:=h
theorem E7{p:Prop}(h:p:=by
 have N:e.length=19:=(dtyR).len r
 refine AP (out:=e) rfl U (fill_one E2 N) (fun w4 m=>?_)
 obtain⟨L,oA,h⟩:=Q.ex
 have H:=(f.E.trans i).trans m.E
 have z3:=H.size
 have z4:=m.size
 have z5:=i.size
 have a1:((l.take k).map g).length=k:=by rw[List.length_map,List.length_take];omega
 have G:∀b,v.ownBlock=some b->w.heap.size<=b/\b<W.heap.size:=fun b S=>An oA S
 refine Ax (ok:=Af) (v:=v) rfl rfl (As oA H) (Aa (m.own (n:=1) (size:=19) U EW (Nat.le_refl _)) fun _ _=>trivial) U EQ U ((dtyR).one r) U U U (fun v8 w8 p=>?_)
 have z:∀y∈v.ownBlock.toList,w.heap.size<=y:=fun y E=>(An oA (Option.mem_toList.1 E)).1
 have s:=Acc.push oA h H ((dtyR).E ((dtyR).mono r (ok':=fun b=>Af b/\v.ownBlock≠some b) fun b S=>⟨trivial,fun e=>by have:=G b e;omega⟩) m.E (fun _ _=>by simp)) p
 refine go ?_
 have z8:=p.E.size
 refine⟨(k+1,v8),⟨rfl,ag,⟨by simp only;omega,(q.trans H).E p.E z,by omega,?_⟩⟩,by simp only;omega⟩
 simp only
 have a0:l.take (k+1)=l.take k++[x]:=by rw[List.take_add_one,V];rfl
 rw[a0,List.map_append]
 exact s):p:=h
theorem E8{p:Prop}(h:p:=by
 repeat refine nx rfl ?_
 (refine AJ (AX rfl (AG rfl (AB rfl ?_)))<;>refine AH rfl (Blk.cell ER EQ) ?_<;>refine BO EQ EQ ?_<;>refine Db (Ds rfl ?_))
 repeat refine nx rfl ?_
 exact Ab ⟨_,_,by unfold EI;rw[if_pos b],rfl,B.E⟩):p:=h
theorem E9{p:Prop}(h:p:=by
 refine go ?_
 refine Bg rfl rfl (fun T=>?_) (fun T=>absurd d T)
 refine go ?_
 exact AC rfl ⟨false,rfl,Z,fun h=>by cases h⟩):p:=h
theorem FA{p:Prop}(h:p:=by
 rintro u w2⟨k2,a7,f2⟩
 obtain⟨S,rfl,C,a1⟩:=f2.cells
 obtain⟨y0,y1,y2,y3,y4,rfl⟩:=Ak C
 refine AI (cs:=[y0,y1,y2,y3,y4]) rfl rfl rfl a1 (A.D.E k2 EP) EV (fun w9 D=>?_)
 refine go ?_
 exact AW rfl rfl rfl D.D.cells ⟨(A.E.any.trans k2 (fun _ h _=>h)).trans D.E (fun y E X=>by simp at E;omega),a7.E D.E EP,(f2.E D.E (fun y E t=>by simp at t;omega)).mono fun y E=>by omega⟩):p:=h
theorem FB{p:Prop}(h:p:=by
 exact Bl rfl ⟨1,1,true,rfl,rfl,fun _=>⟨by omega,by omega,fun n Z W=>by rw[T];simp[BX];omega⟩⟩):p:=h
theorem FC{p:Prop}(h:p:=by
 refine AU rfl rfl rfl m O (fun w4 u=>?_)
 have r:=u.D
 have B:∀g,(Value.slice j (ts.length+1) D).ownBlock=some g->g∉[s]:=fun g H=>by have:=(An I H).1;simp;omega
 have Q:=Ai I u.E B
 have c:Keep [s] d w4:=i.trans u.E fun x V _=>V
 refine wNl (⟨r.cell rfl,r.cell rfl⟩) ?_
 refine go ?_
 refine AU rfl rfl rfl r O (fun f A=>?_)
 have G:=A.D
 have R:=Ai Q A.E B
 have N:Keep [s] d f:=c.trans A.E fun x V _=>V
 refine go ?_
 have Z:f.ownsRow d.heap.size 170 3 (.slice j (ts.length+1) D) (ts++[Tok.mk k ((t.take n).drop a) a]).length (Dk (ts++[Tok.mk k ((t.take n).drop a) a])):=by
  have e:Dk (ts++[Tok.mk k ((t.take n).drop a) a])=Dk ts++tokC (Tok.mk k ((t.take n).drop a) a):=by simp[Dk]
  rw[e];simpa using R
 exact A1 rfl ⟨rfl,by omega,⟨N,hs,hl,h2,by simp;omega,_,G,Z⟩⟩):p:=h
theorem FD{p:Prop}(h:p:=by
 refine go ?_
 exact A1 rfl ⟨T.trans e (fun y E X=>by simp at E;rcases E with rfl|rfl;omega;simp),H.E e EP,.slice (some ⟨g,0,none⟩) 1 I,[[.int .i64 1,AL [],.int .i64 0,.int .i64 0,.slice none 0 0]],A,by simpa using K,fun ok=>FsAt.one (FAt.leaf _ _ _ [] 0 0) rfl⟩):p:=h
theorem FE{p:Prop}(h:p:=by
 refine go ?_
 exact A1 rfl ⟨T.trans e (fun y E X=>by simp at E;rcases E with rfl|rfl;omega;simp),H.E e EP,.slice (some ⟨g,0,none⟩) 1 I,[[.int .i64 2,AL [],.int .i64 0,.int .i64 0,.slice none 0 0]],A,by simpa using K,fun ok=>FsAt.one (FAt.leaf _ _ _ [] 0 0) rfl⟩):p:=h
theorem FF{p:Prop}(h:p:=by
 rintro v z⟨rfl,Z,r,P,i⟩
 have d:=H.trans P
 rw[d]at G
 repeat refine nx rfl ?_
 exact⟨(n,Z,r),⟨rfl,⟨rfl,rfl,trivial⟩,⟨i,by have:=step_on l d;simp only;omega,G⟩⟩,Nat.lt_succ_self _⟩):p:=h
theorem FG{p:Prop}(h:p:=by
 exact AC rfl ⟨false,rfl,Z,fun h=>by cases h⟩):p:=h
theorem FH{p:Prop}(h:p:=by
 have b0:(1+S-1)*(f.bound+1)=S*(f.bound+1):=by rw[show 1+S-1=S by omega]
 by_cases t:f.op=13
 ·obtain⟨m1,m2⟩:=s (Or.inl t)
  have m3:=P (Or.inl t)
  refine go ?_
  refine W_min rfl rfl (go ?_)
  exact BP rfl ⟨by rw[V,xtNb (Or.inl t),<-l,<-i];exact tup2 EY EY,B⟩
 refine go ?_
 by_cases Z:f.op=14
 ·obtain⟨m1,m2⟩:=s (Or.inr Z)
  have m3:=P (Or.inr Z)
  refine go ?_
  refine W_min rfl rfl (go ?_)
  exact BP rfl ⟨by rw[V,xtNb (Or.inr Z),<-l,<-i];exact tup2 EY EY,B⟩
 refine go ?_
 refine W_min rfl rfl (go ?_)
 exact BP rfl ⟨by rw[V,xtNe g U U,<-l,<-i];exact tup2 EY EY,B⟩):p:=h
theorem FJ{p:Prop}(h:p:=by
 rintro u6 w6⟨s,I⟩
 refine go ?_
 refine BE rfl rfl (I) (j.E (q.trans s) O) rfl (fun P X p C i T S=>go ?_)
 exact AW rfl rfl C S.cells ⟨(r.trans (q.trans s)).E i EP,_,FAt.ret (I) p i⟩):p:=h
theorem FK{p:Prop}(h:p:=by
 refine go ?_
 exact Aj () ag rfl):p:=h
theorem FM{p:Prop}(h:p:=by
 have a:=p.D
 replace M:=M.E p.E EP
 replace R:=R.E p.E EP
 replace j:=j.E p.E EP
 replace z:=z.E p.E EP
 replace k:=k.trans p.E O
 clear L p
 refine wNl (⟨j.cell rfl,j.cell rfl,z.cells⟩) ?_
 refine D_E rfl ?_
 refine AU rfl rfl rfl R O (fun E p=>?_)
 have Z:=p.D
 replace M:=M.E p.E EP
 replace a:=a.E p.E EP
 replace j:=j.E p.E EP
 replace z:=z.E p.E EP
 replace k:=k.trans p.E O
 refine wNl (⟨j.cell rfl,j.cell rfl,z.cells⟩) ?_
 refine go ?_
 exact A1 rfl ⟨k,M,a,Z⟩):p:=h
theorem FN{p:Prop}(h:p:=by
 rw[hv]
 refine go ?_
 refine AU (v:=.int .i64 (1-v)) rfl rfl rfl cW O (fun w6 p6=>go ?_)
 exact Aj (.slice none 0 0,[]) ag ⟨kW.trans p6.E (fun x h X=>by simp at h;omega),a3.E p6.E EP,Bld.start p6.D,zW.E p6.E EP,by have:=p6.size;omega⟩):p:=h
theorem FO{p:Prop}(h:p:=by
 rintro v z⟨rfl,_,k⟩
 have m:=numT_len (n:=f.bound) U
 refine AA ⟨Ext z,fun _ e=>k.trans e,Ext.refl _,?_⟩
 (apply D_R rfl rfl;(intro W a;(refine EB rfl rfl Eg ?_);exact AA ⟨rfl,rfl,rfl⟩))
 (apply D_R rfl rfl;(intro W a;(refine EB rfl rfl Eg ?_);exact AA ⟨rfl,rfl,rfl⟩))
 ((refine D_R rfl rfl (fun W a=>AO (BC rfl dz)) ?_)<;>refine Bc ?_)
 repeat refine nx rfl ?_
 exact AC rfl ⟨by rw[G];rfl,(Z.trans M).trans k,fun h=>absurd h I⟩):p:=h
theorem FP{p:Prop}(h:p:=by
 rintro V z⟨e,q,P,rfl,i⟩
 have d:=H.trans P
 rw[d]at G
 repeat refine nx rfl ?_
 exact Ab ⟨e,q,G.symm,rfl,A _ i⟩):p:=h
theorem FQ{p:Prop}(h:p:=by
 exact Ext.refl _):p:=h
theorem FR{p:Prop}(h:p:=by
 rw[decide_eq_false q,Bool.false_and]
 (refine AJ (AS rfl (BC rfl (Cz rfl ?_)))<;>(refine C6 rfl rfl (fun T=>?_) (fun T=>?_)<;>try omega)<;>refine AE rfl (Ah rfl (Ah rfl (Ah rfl ?_))))
 refine Ah rfl (Ah rfl (Ah rfl (Ah rfl (Ah rfl (Ah rfl (Ah rfl (Ah rfl (Ah rfl (Ah rfl (Ah rfl (Ah rfl (Ah rfl (Ad rfl (AE rfl (AO (AE rfl (AA ?_)))))))))))))))))
 exact Aj () ⟨rfl,rfl,rfl,rfl,by simp[upd,Nat.beq],trivial⟩ ⟨A.E,k⟩):p:=h
theorem F1{p:Prop}(h:p:=by
 exact Bl rfl ⟨2,2,true,rfl,rfl,fun _=>⟨by omega,by omega,fun n Z W=>by rw[T];simp[BX];omega⟩⟩):p:=h
theorem FT{p:Prop}(h:p:=by
 refine go ?_
 exact AC rfl ⟨false,rfl,Ext.refl _,fun h=>by cases h⟩):p:=h
theorem FU{p:Prop}(h:p:=by
 exact D0 e rfl c (fun W=>by simp[execOp,V,E,eqGuard,binOp,Op.intCmp,T]) (j T)):p:=h
theorem FW{p:Prop}(h:p:=by
 refine go ?_
 exact AC rfl ⟨rfl,rfl⟩):p:=h
theorem FX{p:Prop}(h:p:=by
 exact⟨ReadL.big O (.inl rfl) (S G),by simp[sgT,Br,Cb,styL,List.lookup],fun _=>by omega⟩):p:=h
theorem FY{p:Prop}(h:p:=by
 rintro u f⟨e,N⟩
 obtain⟨q,rfl,C,i⟩:=N.cells
 obtain⟨m,p,x,z,g,rfl⟩:=Ak C
 have h:=A.size
 refine AI (cs:=[m,p,x,z,g]) rfl rfl rfl i (A.D.E e O) EV (fun d s=>go ?_)
 exact AW rfl rfl rfl s.D.cells ⟨(A.E.trans e).E s.E mSx,(N.unm s.E (fun y E c=>by rw[List.mem_singleton]at c;omega)).mono fun y E=>⟨by omega,E.2⟩⟩):p:=h
theorem FZ{p:Prop}(h:p:=by
 exact⟨⟨fun _=>by simp only;omega,fun _=>rfl⟩,fun h=>by cases h⟩):p:=h
theorem Fa{p:Prop}(h:p:=by
 refine go ?_
 refine AF (ints_ok _ _ _) rfl ?_
 rintro _ w5⟨F,rfl,h5c,rfl⟩
 refine go ?_
 exact Aj F ag ⟨R,m,l,by have:=q.1 Z;constructor<;>intro h<;>simp_all<;>omega⟩):p:=h
theorem Fb{p:Prop}(h:p:=by
 refine congrArg (Value.int .i64) ?_
 rw[o]
 simp only
 omega):p:=h
theorem Fc{p:Prop}(h:p:=by
 rw[if_pos rfl]
 refine go ?_
 refine AU (v:=.bool true) rfl rfl rfl E O (fun S A=>go ?_)
 refine Cm ((A.E.block _ (Array.getElem?_eq_some_iff.1 M).1 EP).trans M) fun Z c R=>?_
 exact BF (A7 rfl ((A.D.E c EP).cell (o:=0) rfl) ⟨rfl,(m.E A.E (fun x V=>by simp at V;omega)).E c (fun x V=>by simp at V;omega)⟩)):p:=h
theorem Fd{p:Prop}(h:p:=by
 (refine AJ (BC rfl (BC rfl ?_))<;>refine Bg rfl rfl (fun T=>?_) (fun T=>?_)<;>refine AA ?_)
 case refine_2=>exact absurd a ER
 repeat refine nx rfl ?_
 refine AJ (AO (AE rfl ?_))
 repeat refine nx rfl ?_
 exact AC rfl ⟨by rw[DN,decide_eq_true (List.mem_of_getElem? (a▸E):s∈keysL)];simp[upd,Nat.beq],rfl⟩):p:=h
theorem Fe{p:Prop}(h:p:=by
 rw[if_pos rfl]
 refine go ?_
 refine AI (cs:=zero5) rfl rfl rfl (AV rfl) ((A).D.E k2 EP) EV (fun w9 D=>?_)
 refine go ?_
 have z9:=(A).size
 exact AW rfl rfl rfl D.D.cells ⟨((A).E.any.trans k2 (fun _ h _=>h)).trans D.E (fun x h X=>by simp at h;omega),(a7).E D.E EP,FAt.leaf _ _ 0 [] 0 0⟩):p:=h
theorem Ff{p:Prop}(h:p:=by
 exact Keep.refl _ _):p:=h
theorem Fg{p:Prop}(h:p:=by
 have hv:D3 z v false=v:=by simp[D3]
 rw[hv]
 refine go ?_
 exact Aj (.slice none 0 0,[]) ag ⟨kW,a3,Bld.start cW,zW,lW⟩):p:=h
theorem Fh{p:Prop}(h:p:=by
 refine go ?_
 exact AC rfl ⟨rfl,Z⟩):p:=h
theorem Fi{p:Prop}(h:p:=by
 exact(j.E c.E (fun y E=>by have:=G _ (Option.mem_toList.1 E);omega)).E t.E (fun y E=>by simp at E;omega)):p:=h
theorem Fj{p:Prop}(h:p:=by
 exact D0 e rfl c (fun W=>by simp[execOp,V,E,eqGuard,binOp,Op.intCmp,T]) (h U)):p:=h
theorem Fk{p:Prop}(h:p:=by
 refine go ?_
 exact AC rfl ⟨rfl,Ext.refl _⟩):p:=h
theorem Fm{p:Prop}(h:p:=by
 refine congrArg (Value.int .i64) ?_
 omega):p:=h
theorem Fo{p:Prop}(h:p:=by
 intro i e c
 have:=congrArg (fun l=>l[i]?) s
 simp only[List.getElem?_map,c,Option.map_some]at this
 obtain⟨p,y,r⟩:=Option.map_eq_some_iff.1 this.symm
 exact⟨p,y,(congrArg Prod.fst r).symm,(congrArg Prod.snd r).symm⟩):p:=h
theorem Fp{p:Prop}(h:p:=by
 refine AA ⟨_,fun _ e=>e,Q.any.trans t.E (fun _ h _=>h),?_⟩
 refine go ?_
 exact AW rfl rfl rfl t.D.cells ⟨(s.trans Q).E t.E O,((T.ext g).E t.E (fun y E hm=>by simp at hm;omega)).mono fun y E=>by omega⟩):p:=h
theorem Fq{p:Prop}(h:p:=by
 exact AC rfl ⟨false,rfl,r,fun h=>by cases h⟩):p:=h
theorem Fs{p:Prop}(h:p:=by
 obtain rfl:k=10:=by omega
 refine go ?_
 have b:s∉keysL:=I
 exact AC rfl ⟨by rw[DN,g,decide_eq_false b,decide_eq_true (show 1<=s.length by omega),decide_eq_true (show s.length<=12 by omega)];rfl,rfl⟩):p:=h
theorem Ft{p:Prop}(h:p:=by
 refine go ?_
 have hS:=Aa (ok:=fresh w) I (fun g m=>(j g m).1)
 obtain⟨sa,sc,rfl,_⟩:=id hS
 refine go ?_
 have Q:=t _ (q.done B)
 simp only[prepL,List.append_nil]at Q
 exact AC rfl ⟨k,l,F,Q,R.st,L,I,p⟩):p:=h
theorem Fu{p:Prop}(h:p:=by
 exact Bl rfl ⟨0,0,true,rfl,rfl,fun _=>⟨by omega,by omega,fun n Z W=>by rw[T];simp[BX];omega⟩⟩):p:=h
theorem Fv{p:Prop}(h:p:=by
 rintro v N⟨rfl,M⟩
 refine go ?_
 exact A1 rfl ⟨rfl,M⟩):p:=h
theorem Fw{p:Prop}(h:p:=by
 have:=P h
 have h1:=Int.mul_nonneg (show 0<=1+S-1 by omega) (show 0<=f.bound+1 by omega)
 have h2:=Int.mul_le_mul (show 1+S-1<=1000 by omega) (show f.bound+1<=10 by omega) U U
 omega):p:=h
theorem Fx{p:Prop}(h:p:=by
 exact(z.E l Ej).mono (fun b S=>by simp only[fresh]at S⊢;omega)):p:=h
theorem Fy{p:Prop}(h:p:=by
 refine go ?_
 refine AI (cs:=zero5) rfl rfl rfl (AV rfl) q EV (fun m i=>go ?_)
 exact BB rfl rfl rfl i.D.cells ⟨_,2,rfl,C.E i.E EP,⟨_,FAt.leaf _ _ 0 [] 0 0⟩,fun h=>absurd h ET⟩):p:=h
theorem Fz{p:Prop}(h:p:=by
 obtain rfl:k=l.length:=by omega
 rw[List.take_length]at Q
 refine go ?_
 exact AC rfl ⟨q,Q.sl⟩):p:=h
theorem F0{p:Prop}(h:p:=by
 have e1:(L++[c]).flatten=L.flatten++c:=by simp
 simp only
 rw[e1,List.length_append]
 exact o7):p:=h
theorem F9{p:Prop}(h:p:=by
 refine go ?_
 exact AC rfl ⟨rfl,Z.trans e⟩):p:=h
theorem GA{p:Prop}(h:p:=by
 refine D6 (out:=keysL.map AL) rfl U rfl EO (fun Q A=>go ?_)
 exact AC rfl ⟨⟨_,_,rfl,by decide,by decide,(fun h=>by cases h),.inr ⟨_,_,rfl,trivial,A.D.cells⟩⟩,A.E⟩):p:=h
theorem GB{p:Prop}(h:p:=by
 refine go ?_
 exact AW rfl rfl rfl d.D.cells ⟨((G.trans M).trans A).E d.E O,(f6.unm d.E (fun y E D=>by rw[List.mem_singleton]at D;omega)).mono fun y E=>⟨by omega,E.2⟩⟩):p:=h
theorem GC{p:Prop}(h:p:=by
 simp only[tkR,BG,List.map_append,List.append_assoc,List.map_cons,List.map_nil,List.cons_append,List.nil_append]at this⊢
 exact run_yes rfl (Run.call this (Run.call Z (Run.ret _ _)))):p:=h
theorem GD{p:Prop}(h:p:=by
 rintro ch f⟨A,l,C,rfl⟩
 refine go ?_
 exact Ab ⟨k.trans A O,l,t _ (q.err1 B C),rfl⟩):p:=h
theorem GE{p:Prop}(h:p:=by
 exact AC rfl ⟨by rw[e];rfl,Z.trans M,fun h=>absurd h I⟩):p:=h
theorem GG{p:Prop}(h:p:=by
 refine W_assert_nil (z:=.agg #[.int .i64 0,.int .i64 0]) rfl EO (go ?_)
 refine A2 (cs:=[.int .i64 0,.int .i64 0]) rfl rfl EQ (AV rfl) (fun N W=>go ?_)
 exact A1 rfl W.E):p:=h
theorem GH{p:Prop}(h:p:=by
 refine go ?_
 exact AC rfl ⟨by rw[S];rfl,Z⟩):p:=h
theorem GI{p:Prop}(h:p:=by
 simp only
 rw[valsC_succ]
 exact Ai c.own t.E (fun g a=>by have:=f g a;simp;omega)):p:=h
theorem GJ{p:Prop}(h:p:=by
 have:(n+1)*size=(G.toList.take (n*size)++cs).length:=by rw[List.length_append,t,o,Nat.succ_mul]
 rw[this,<-List.append_assoc]
 exact List.take_left):p:=h
theorem GL{p:Prop}(h:p:=by
 obtain⟨i,m,e,h⟩:=DM h
 obtain⟨_,d,c,h⟩:=DM h
 obtain⟨s,Q,u,h⟩:=DM h
 have:=e.le;have:=c.le;have:=name_inv u;have:=h.le
 omega):p:=h
theorem GM{p:Prop}(h:p:=by
 simp only
 rw[a9,<-List.append_assoc,<-b7]
 exact(sV.snoc fV C).E kE (fun y E t=>by simp at t;rcases t with rfl|rfl;exact E.2 rfl;exact E.1.2 rfl)):p:=h
theorem GN{p:Prop}(h:p:=by
 refine go ?_
 refine AI (cs:=zero5) rfl rfl rfl (AV rfl) R EV (fun B i=>go ?_)
 exact AW rfl rfl rfl i.D.cells ⟨I.E i.E EP,FAt.leaf _ _ 0 [] 0 0⟩):p:=h
theorem GO{p:Prop}(h:p:=by
 rw[if_neg O]
 refine go ?_
 refine Cm M fun Z c R=>?_
 exact BF (A7 rfl ((E.E c EP).cell (o:=0) rfl) ⟨rfl,m.E c (fun x V=>by simp at V;omega)⟩)):p:=h
theorem GQ{p:Prop}(h:p:=by
 refine go ?_
 exact Aj c ag ⟨R,m,l,by constructor<;>intro h<;>simp_all⟩):p:=h
theorem GR{p:Prop}(h:p:=by
 refine go ?_
 refine AU (v:=.bool false) rfl rfl rfl (S.E e O) O (fun D c=>go ?_)
 exact⟨rfl,(e).any.trans c.E (fun _ h _=>h),c.D⟩):p:=h
theorem GS{p:Prop}(h:p:=by
 obtain⟨a,b⟩:=q
 have D:x≠a:=fun e=>h (a,b) O e.symm
 rw[List.lookup_cons,beq_false_of_ne D]
 exact ih fun p y=>h p (by simp[y])):p:=h
theorem GT{p:Prop}(h:p:=by
 refine go ?_
 refine AU (v:=.bool false) rfl rfl rfl (B.E g O) O (fun S A=>go ?_)
 exact⟨rfl,g.any.trans A.E (fun _ h _=>h),A.D⟩):p:=h
theorem GU{p:Prop}(h:p:=by
 refine go ?_
 refine W_min rfl rfl (go ?_)
 exact BP rfl ⟨by rw[V,xtNl (Or.inr (Or.inr (Or.inl a2))),<-l,<-i];exact tup2 EY EY,B⟩):p:=h
theorem GW{p:Prop}(h:p:=by
 refine go ?_
 refine W_min rfl rfl (go ?_)
 exact BP rfl ⟨by rw[V,xtNl (Or.inr (Or.inr (Or.inr a3))),<-l,<-i];exact tup2 EY EY,B⟩):p:=h
theorem GX{p:Prop}(h:p:=by
 refine go ?_
 refine W_min rfl rfl (go ?_)
 exact BP rfl ⟨by rw[V,xtNl (Or.inr (Or.inl a1)),<-l,<-i];exact tup2 EY EY,B⟩):p:=h
theorem GY{p:Prop}(h:p:=by
 refine go ?_
 exact AC rfl ⟨by rw[S];rfl,r⟩):p:=h
theorem GZ{p:Prop}(h:p:=by
 refine go ?_
 exact⟨k+1,⟨rfl,ag,⟨by omega,P,fun i y H E m=>absurd (a2.trans m) Bool.false_ne_true⟩⟩,by omega⟩):p:=h
theorem Ga{p:Prop}(h:p:=by
 have:=List.take_append_drop k f.args
 rw[List.drop_eq_getElem_cons R,(List.getElem?_eq_some_iff.1 l).2]at this
 exact this.symm):p:=h
theorem Gb{p:Prop}(h:p:=by
 refine congrArg (Value.int .i64) ?_
 show((l.length-1-k:Nat):Int)-1=(l.length:Int)-1-((k+1:Nat):Int)
 omega):p:=h
theorem Gc{p:Prop}(h:p:=by
 rintro ch d⟨rfl,rfl⟩
 refine go ?_
 exact b5 _ d (x::l) (Run.call r10 (Run.look (Run.fail _))) b8 ⟨_,Z,C⟩ rfl rfl rfl):p:=h
theorem Gd{p:Prop}(h:p:=by
 exact G i y (by have:=(List.getElem?_eq_some_iff.1 H).1;omega) H):p:=h
theorem Ge{p:Prop}(h:p:=by
 rintro ch k⟨j,l,r10,rfl⟩
 refine go ?_
 exact b5 _ k l (Run.callE r10) (j.mono O) ⟨_,f1.E j EP,rfl⟩ rfl rfl rfl):p:=h
theorem Gf{p:Prop}(h:p:=by
 subst A
 refine go ?_
 exact Aj () ag M):p:=h
theorem Gg{p:Prop}(h:p:=by
 refine go ?_
 refine W_min rfl rfl (go ?_)
 exact BP rfl ⟨by rw[V,xtNl (Or.inl a0),<-l,<-i];exact tup2 EY EY,B⟩):p:=h
theorem Gh{p:Prop}(h:p:=by
 have:p.1≠a:=fun e=>I.1 (List.mem_map.2 ⟨p,y,e⟩)
 rw[List.lookup_cons,beq_false_of_ne this]
 exact ih I.2 y):p:=h
theorem Gi{p:Prop}(h:p:=by
 refine go ?_
 exact AC rfl ⟨1,rfl,n,fun h=>absurd h ET⟩):p:=h
theorem Gj{p:Prop}(h:p:=by
 exact Bl rfl ⟨2, -1,true,rfl,rfl,fun _=>⟨by omega,by omega,fun n Z W=>by rw[T];simp[BX];omega⟩⟩):p:=h
theorem Gk{p:Prop}(h:p:=by
 intro V N M
 refine go ?_
 exact Ab M):p:=h
theorem Gl{p:Prop}(h:p:=by
 rw[T,List.cons_append,List.prefix_cons_inj,List.prefix_append_right_inj]
 exact a2.trans (List.prefix_append _ _)):p:=h
theorem Gm{p:Prop}(h:p:=by
 rw[if_neg (fun h=>h.elim (fun h=>by rw[hic]at h;cases h) a3)]at t
 refine go ?_
 exact Aj () ag ⟨rfl,t⟩):p:=h
theorem Gn{p:Prop}(h:p:=by
 simp only
 rw[List.take_add_one,l,List.map_append]
 exact hB):p:=h
theorem Gp{p:Prop}(h:p:=by
 refine go ?_
 refine W_min rfl rfl (go ?_)
 exact BP rfl ⟨by rw[V,xtN4 g,<-l,<-i];exact tup2 EY EY,B⟩):p:=h
theorem Gq{p:Prop}(h:p:=by
 exact⟨_,_,rfl⟩):p:=h
theorem Gr{p:Prop}(h:p:=by
 exact⟨S (ReadL.big O (.inl rfl) (S G)),by simp[sgT,Br,Cb,styL,List.lookup],fun _=>fol_blank _⟩):p:=h
theorem nlr{a b:Nat}(h:Nat.ble a b=true:=by rfl):a<=b:=Nat.le_of_ble_eq_true h
abbrev Fr:=Nat->Value
abbrev DS:=List Deferred
def upd(f:Fr)(i:Nat)(v:Value):Fr:=fun j=>bif Nat.beq j i then v else f j
def putF(f:Fr)(d:Option Nat)(v:Value):Fr:=match d with|some i=>upd f i v|none=>f
def ev(f:Fr):Operand->Value
 | .tmp t=>f t
 | .const v=>v
 | .global g=>.pointer (sm g)
 | .func g=>.func (.func g) #[] #[]
def evL(f:Fr):List Operand->LV
 | []=>[]
 |x::l=>ev f x::evL f l
def argF:LV->Fr
 | [],_=>undef
 |v::_,0=>v
 |_::l,i+1=>argF l i
def ov:List (Nat×Value)->Fr->Fr
 | [],f=>f
 |(i,v)::l,f=>upd (ov l f) i v
def agr:List (Nat×Value)->Fr->Prop
 | [],_=>True
 |(i,v)::l,f=>f i=v/\agr l f
theorem ov_of_agr{l:List (Nat×Value)}{f:Fr}(h:agr l f):ov l f=f:=by
 induction l with
 |nil=>rfl
 |cons p l ih=>
  obtain⟨i,v⟩:=p;obtain⟨Z,W⟩:=h
  funext j
  simp only[ov,upd,ih W];cases hj:Nat.beq j i with
  |true=>simp[Nat.eq_of_beq_eq_true hj,Z]
  |false=>rfl
def Ca(a:Act):Fr:=fun i=>a.tmps.getD i undef
theorem ev_toFr(a:Act):a.eval=ev (Ca a):=by funext x;cases x<;>rfl
theorem toFr_put{a:Act}{d:Nat}(v:Value)(h:d<a.tmps.size):Ca (a.put (some d) v)=upd (Ca a) d v:=by
 funext j
 simp only[Ca,Act.put,upd,Array.getD_eq_getD_getElem?];cases hj:Nat.beq j d with
 |true=>
  have:=Nat.eq_of_beq_eq_true hj;subst this;simp[h]
 |false=>
  have N:d≠j:=fun e=>by subst e;simp at hj
  simp[Array.getElem?_setIfInBounds_ne N]
def dOk(n:Nat):Option Nat->Bool
 |some d=>Nat.blt d n
 |none=>true
theorem toFr_putF{a:Act}{d:Option Nat}(v:Value)(h:dOk a.tmps.size d=true):Ca (a.put d v)=putF (Ca a) d v:=by
 cases d with
 |none=>rfl
 |some d=>exact toFr_put v (by simpa[dOk,Nat.blt_eq]using h)
theorem size_put(a:Act)(d:Option Nat)(v:Value):(a.put d v).tmps.size=a.tmps.size:=by
 cases d<;>simp[Act.put]
theorem defers_put(a:Act)(d:Option Nat)(v:Value):(a.put d v).defers=a.defers:=by
 cases d<;>rfl
def By(P:Program)(o:Oper)(f:Fr)(ds:DS)(w:World)(K:Value->DS->World->Prop)(Z:List PanicEntry->World->Prop):Prop:=
 match(execOp (ev f) o).run P w with
 | .ok (.value v) w'=>K v ds w'
 | .ok .skip w'=>K undef ds w'
 | .ok (.defer d) w'=>K undef (d::ds) w'
 | .ok (.enter g args) w'=>Calls P g args w' fun e L=>match e with| .returned v=>K v ds L| .panicked ch=>Z ch L| .outgrown=>False
 | .ok (.round l g tmps assign body) w'=>RoundIn Fence.wide 0 P l g tmps assign body w' fun e L=>match e with| .returned v=>K v ds L| .panicked ch=>Z ch L| .outgrown=>False
 | .halt (.panic v) w'=>Z [{v,recovered:=false}] w'
 |_=>False
def guardVal(c:Array Oper)(f:Fr)(j:Nat):Option Bool:=
 match(c[j]?).bind (·.dst)with
 |some t=>(match f t with| .bool b=>some b|_=>none)
 |none=>none
def Bh(c:Array Oper)(f:Fr)(g:Option (Nat×Bool)):Bool:=
 match g with
 |none=>true
 |some (j,want)=>guardVal c f j==some want
theorem yielded_toFr(c:Array Oper)(a:Act)(j:Nat):yielded c a.tmps j=guardVal c (Ca a) j:=by
 unfold yielded guardVal Ca;cases h:(c[j]?).bind (·.dst)with
 |none=>rfl
 |some t=>
  simp only[Option.bind_some,Array.getD_eq_getD_getElem?];cases ht:a.tmps[t]? with
  |none=>rfl
  |some v=>cases v<;>rfl
theorem wanted_toFr(c:Array Oper)(a:Act)(o:Oper):Region.wanted o (yielded c a.tmps)=Bh c (Ca a) o.guard:=by
 unfold Region.wanted Bh;cases o.guard with
 |none=>rfl
 |some p=>obtain⟨j,b⟩:=p;simp only[yielded_toFr]
def AT(P:Program)(c:Array Oper)(Z:Fr->DS->List PanicEntry->World->Prop)(K:Fr->DS->World->Prop):List Oper->Fr->DS->World->Prop
 | [],f,F,w=>K f F w
 |o::rest,f,F,w=>
  if Bh c f o.guard then By P o f F w (fun v F w=>AT P c Z K rest (putF f o.dst v) F w) (Z f F)
  else AT P c Z K rest (putF f o.dst undef) F w
structure Cf where
 n:Nat
 r:Option Nat
def rnd(r:Option Nat):Fence:={Fence.wide with round:=r}
abbrev DD:=Exit->Fr->DS->World->Prop
def B6(k:Fr->DS->World->Prop)(Q:DD):DD
 | .normal=>k
 |e=>Q e
def BK(id:Nat)(Q:DD):DD
 | .exit i=>if i=id then Q .normal else Q (.exit i)
 |e=>Q e
def Bz(Q:DD):DD
 | .goto _=>fun _ _ _=>False
 |e=>Q e
def liftQ(n:Nat)(Q:DD):Exit->Act->World->Prop:=fun e a w=>a.tmps.size=n/\Q e (Ca a) a.defers w
def WC(P:Program)(n:Cf):Code->DD->Fr->DS->World->Prop
 | .skip,Q=>Q .normal
 | .label _,Q=>Q .normal
 | .ret,Q=>Q .ret
 | .exit id,Q=>Q (.exit id)
 | .goto _,_=>fun _ _ _=>False
 | .refuse _,_=>fun _ _ _=>False
 | .seq a b,Q=>WC P n a (B6 (WC P n b Q) Q)
 | .block id c,Q=>WC P n c (BK id Q)
 | .scope c,Q=>WC P n c (Bz Q)
 | .cond c x y,Q=>fun f F w=>match ev f c with
  | .bool b=>if b then WC P n x Q f F w else WC P n y Q f F w
  |_=>False
 | .region id ops draw,Q=>fun f F w=>
  match draw with
  |false=>AT P ops (fun f F V w=>Q (.panic V) f F w) (Q .normal) ops.toList f F w
  |true=>∀a,a.tmps.size=n.n->Ca a=f->a.defers=F->(Code.region id ops true).wpIn (rnd n.r) 0 P (liftQ n.n Q) a w
 | .loop c,Q=>fun f F w=>∃(α:Type)(I:α->Fr->DS->World->Prop)(μ:α->Nat)(x:α),I x f F w/\
   ∀x f F w,I x f F w->WC P n c (B6 (fun l d X=>∃y,I y l d X/\μ y<μ x) Q) f F w
 | .rangeFunc g ps as body,Q=>fun f F w=>∀a,a.tmps.size=n.n->Ca a=f->a.defers=F->(Code.rangeFunc g ps as body).wpIn (rnd n.r) 0 P (liftQ n.n Q) a w
def isDefer:Op->Bool
 | .defer _=>true
 |_=>false
def opOk(n:Nat)(z:Bool)(o:Oper):Bool:=dOk n o.dst&&(!z|| !isDefer o.op)
def Co(n:Nat)(z:Bool):Code->Bool
 | .seq a b=>Co n z a&&Co n z b
 | .block _ c=>Co n z c
 | .scope c=> !z&&Co n z c
 | .cond _ x y=>Co n z x&&Co n z y
 | .region _ ops draw=>draw||ops.toList.all (opOk n z)
 | .loop c=>Co n z c
 |_=>true
theorem semAt_ok{r:Option Nat}{n:Nat}{o:Oper}(h:opOk n r.isSome o=true)(ρ:Operand->Value):Oper.semAt r ρ o=execOp ρ o:=by
 cases r with
 |none=>rfl
 |some l=>
  refine Oper.semAt_eq _ ρ o fun c T=>?_;simp[opOk,T,isDefer]at h
theorem uponIn_of{P:Program}{r:Option Nat}{n:Nat}{o:Oper}{a:Act}{w:World}{K:Fr->DS->World->Prop}{Q:DD}{K':Act->World->Prop}(I:a.tmps.size=n)(p:opOk n r.isSome o=true)
  (next:∀v ds w',K (putF (Ca a) o.dst v) ds w'->K' ({a with defers:=ds}.put o.dst v) w')
  (h:By P o (Ca a) a.defers w (fun v ds w=>K (putF (Ca a) o.dst v) ds w) (fun V w=>Q (.panic V) (Ca a) a.defers w)):o.wpIn (rnd r) 0 P a w K' (liftQ n Q):=by
 refine⟨fun _ _=>trivial,?_⟩;have c:(rnd r).round=r:=rfl;rw[c,semAt_ok p,ev_toFr];unfold By at h;revert h;generalize (execOp (ev (Ca a)) o).run P w=res;intro h;have X:(rnd r).depth.isSome=true->1<=0:=fun M=>by simp[rnd,Fence.wide]at M
 cases res with
 |halt x w'=>cases x<;>first|exact h.elim|exact⟨I,h⟩
 |ok m w'=>
  cases m with
  |value v=>exact next v a.defers w' h
  |skip=>exact next undef a.defers w' h
  |defer d=>exact next undef (d::a.defers) w' h
  |enter g args=>
   refine⟨X,?_⟩;have T:CallsIn Fence.wide (0-1) P g args w' _:=callsIn_wide.2 h;refine CallsIn.mono (F:=rnd r) T fun e L b=>?_;cases e with
   |returned v=>exact next v a.defers L b
   |panicked V=>exact⟨I,b⟩
   |outgrown=>exact b.elim
  |round l g tmps assign body=>
   refine⟨X,?_⟩;have T:RoundIn (rnd r) (0-1) P l g tmps assign body w' _:=h;refine RoundIn.mono T fun e L b=>?_;cases e with
   |returned v=>exact next v a.defers L b
   |panicked V=>exact⟨I,b⟩
   |outgrown=>exact b.elim
  |_=>exact h.elim
theorem next_of{n:Nat}{o:Oper}{a:Act}{K:Fr->DS->World->Prop}{K':Act->World->Prop}(I:a.tmps.size=n)(p:dOk n o.dst=true)
  (H:∀Z w',Z.tmps.size=n->K (Ca Z) Z.defers w'->K' Z w'):∀v ds w',K (putF (Ca a) o.dst v) ds w'->K' ({a with defers:=ds}.put o.dst v) w':=by
 intro v ds w' T;refine H _ w' (by rw[size_put];exact I) ?_;rw[defers_put];have e:Ca ({a with defers:=ds}.put o.dst v)=putF (Ca a) o.dst v:=toFr_putF (a:={a with defers:=ds}) (d:=o.dst) v (by rw[I];exact p);rw[e];exact T
theorem wpListIn_of_WOps{P:Program}{c:Array Oper}{n:Nat}{r:Option Nat}{Q:DD}:∀(l:List Oper)(a:Act)(w:World),a.tmps.size=n->l.all (opOk n r.isSome)=true->
  AT P c (fun f ds V w=>Q (.panic V) f ds w) (Q .normal) l (Ca a) a.defers w->wpListIn (rnd r) 0 P c (liftQ n Q) l a w
 | [],a,w,hn,_,h=>⟨hn,h⟩
 |o::rest,a,w,hn,hok,h=>by
  simp only[List.all_cons,Bool.and_eq_true]at hok;have C:dOk n o.dst=true:=by have:=hok.1;simp only[opOk,Bool.and_eq_true]at this;exact this.1
  have next:=next_of (n:=n) (o:=o) (a:=a) (K:=AT P c (fun f ds V w=>Q (.panic V) f ds w) (Q .normal) rest) (K':=wpListIn (rnd r) 0 P c (liftQ n Q) rest) hn C
   (fun Z X b W=>wpListIn_of_WOps rest Z X b hok.2 W)
  unfold wpListIn;unfold AT at h;rw[wanted_toFr];by_cases e:Bh c (Ca a) o.guard=true
  ·rw[if_pos e]at h;rw[if_pos e];exact uponIn_of hn hok.1 next h
  ·rw[if_neg e]at h;rw[if_neg e];exact⟨fun _ _=>trivial,next undef a.defers w h⟩
theorem lift_mono{n:Nat}{Q H:DD}(h:∀e f ds w,Q e f ds w->H e f ds w):∀e a w,liftQ n Q e a w->liftQ n H e a w:=
 fun e a w⟨h1,h2⟩=>⟨h1,h e _ _ w h2⟩
theorem CW{P:Program}{n:Cf}:∀(c:Code)(Q:DD)(a:Act)(w:World),a.tmps.size=n.n->Co n.n n.r.isSome c=true->
  WC P n c Q (Ca a) a.defers w->c.wpIn (rnd n.r) 0 P (liftQ n.n Q) a w
 | .skip,Q,a,w,hn,_,h=>wpIn_skip ⟨hn,h⟩
 | .label _,Q,a,w,hn,_,h=>wpIn_label ⟨hn,h⟩
 | .ret,Q,a,w,hn,_,h=>wpIn_ret ⟨hn,h⟩
 | .exit _,Q,a,w,hn,_,h=>wpIn_exit ⟨hn,h⟩
 | .goto _,_,_,_,_,_,h=>h.elim
 | .refuse _,_,_,_,_,_,h=>h.elim
 | .seq x y,Q,a,w,hn,hok,h=>by
  simp only[Co,Bool.and_eq_true]at hok;refine wpIn_seq (wpIn_mono (CW x _ a w hn hok.1 h) ?_);intro e a w K;obtain⟨Z,W⟩:=K;cases e with
  |normal=>exact CW y Q a w Z hok.2 W
  |_=>exact⟨Z,W⟩
 | .block id c,Q,a,w,hn,hok,h=>by
  refine wpIn_block (wpIn_mono (CW c _ a w hn hok h) ?_);intro e a w K;obtain⟨Z,W⟩:=K;cases e with
  |exit i=>
   simp only[Exit.inBlock];simp only[BK]at W;by_cases H:i=id
   ·rw[if_pos H]at W⊢;exact⟨Z,W⟩
   ·rw[if_neg H]at W⊢;exact⟨Z,W⟩
  |_=>exact⟨Z,W⟩
 | .scope c,Q,a,w,hn,hok,h=>by
  simp only[Co,Bool.and_eq_true,Bool.not_eq_true']at hok;obtain⟨j,r⟩:=n;cases r with
  |some l=>simp at hok
  |none=>
   refine wpIn_wide.2 (wp_scope_straight (wp_mono (wpIn_wide.1 (CW (n:=⟨j,none⟩) c _ a w hn hok.2 h)) ?_));intro e a w K;obtain⟨Z,W⟩:=K;cases e with
   |goto l=>exact W.elim
   |_=>exact⟨Z,W⟩
 | .cond c x y,Q,a,w,hn,hok,h=>by
  simp only[Co,Bool.and_eq_true]at hok;simp only[WC]at h;have g:=ev_toFr a;cases hc:ev (Ca a) c<;>simp only[hc]at h
  case bool b=>
   refine wpIn_cond (t:=b) (by rw[g];exact hc) ?_;cases b with
   |true=>exact CW x Q a w hn hok.1 h
   |false=>exact CW y Q a w hn hok.2 h
  all_goals exact h.elim
 | .region id ops draw,Q,a,w,hn,hok,h=>by
  cases draw with
  |false=>
   simp only[Co,Bool.false_or]at hok;exact wpIn_region_list (wpListIn_of_WOps ops.toList a w hn hok h)
  |true=>exact h a hn rfl rfl
 | .loop c,Q,a,w,hn,hok,h=>by
  obtain⟨α,I,μ,x,f,G⟩:=h;refine wpIn_loop_ghost (fun(m:Nat)a w=>∃x,μ x=m/\a.tmps.size=n.n/\I x (Ca a) a.defers w) (μ x) ⟨x,rfl,hn,f⟩ ?_;rintro m a w⟨x,rfl,Z,W⟩;refine wpIn_mono (CW c _ a w Z hok (G _ _ _ _ W)) ?_;intro e o X K;obtain⟨R,B⟩:=K;cases e with
  |normal=>obtain⟨y,d,k⟩:=B;exact⟨μ y,k,y,rfl,R,d⟩
  |_=>exact⟨R,B⟩
 | .rangeFunc _ _ _ _,Q,a,w,hn,_,h=>h a hn rfl rfl
def tupleOf:LV->Value
 | [v]=>v
 |l=>.tuple l.toArray
def Da(P:Program):List ResultVar->Fr->World->(LV->Prop)->Prop
 | [],_,_,k=>k []
 | .tmp t::r,f,w,k=>Da P r f w fun l=>k (f t::l)
 | .cell a T::r,f,w,k=>∃y v,f a=.pointer (some y)/\(loadVar T y).run P w=.ok v w/\Da P r f w fun l=>k (v::l)
theorem EG{P:Program}{w:World}{tmps:Array Value}{g:ResultVar->Sem Value}(Q:∀t,g (.tmp t)=pure (tmps.getD t undef))
  (L:∀a t,g (.cell a t)=(do loadVar t (<-asAddr (tmps.getD a undef)))):∀(o:List ResultVar)(k:LV->Prop),Da P o (fun i=>tmps.getD i undef) w k->
  ∃l,k l/\(o.mapM g).run P w=.ok l w
 | [],k,h=>⟨[],h,by simp⟩
 | .tmp t::r,k,h=>by
  obtain⟨l,Z,W⟩:=EG Q L r _ h;refine⟨_,Z,?_⟩;simp only[List.mapM_cons,Q,Sem.run_bind,Sem.run_pure,Result.andThen_ok,W]
 | .cell a T::r,k,h=>by
  obtain⟨y,v,b,c,d⟩:=h;obtain⟨l,Z,W⟩:=EG Q L r _ d;refine⟨_,Z,?_⟩;have C:tmps.getD a undef=.pointer (some y):=b;have G:asAddr (.pointer (some y))=pure y:=rfl;simp only[List.mapM_cons,L,C,G,Sem.run_bind,Sem.run_pure,Result.andThen_ok,c,W]
theorem run_results{P:Program}{fn:Func}{w:World}{tmps:Array Value}{k:LV->Prop}(h:Da P fn.results.toList (fun i=>tmps.getD i undef) w k):
  ∃l,k l/\(results fn tmps).run P w=.ok (tupleOf l) w:=by
 unfold results;rw[Array.mapM_eq_mapM_toList];have s:∀(x:Sem (LV)),(Functor.map List.toArray x:Sem (Array Value))=x >>= fun l=>pure l.toArray:=fun _=>rfl;rw[s];simp only[Sem.run_bind];obtain⟨l,Z,W⟩:=EG (g:=fun| .tmp t=>pure (tmps.getD t undef)| .cell a t=>do loadVar t (<-asAddr (tmps.getD a undef))) (fun _=>rfl) (fun _ _=>rfl) _ _ h;refine⟨l,Z,?_⟩;refine(congrArg (fun r=>Result.andThen (Result.andThen r _) _) W).trans ?_;simp only[Result.andThen_ok,Sem.run_pure]
 match l with
 | []=>rfl
 | [v]=>rfl
 |_::_::_=>rfl
def Cx(P:Program)(fn:Func)(R:Value->World->Prop)(Z:List PanicEntry->World->Prop):DD
 | .normal=>fun f F w=>F=[]/\Da P fn.results.toList f w fun l=>R (tupleOf l) w
 | .ret=>fun f F w=>F=[]/\Da P fn.results.toList f w fun l=>R (tupleOf l) w
 | .panic ch=>fun _ F w=>F=[]/\Z ch w
 |_=>fun _ _ _=>False
def FnP(P:Program)(g:FuncId)(args:LV)(w:World)(R:Value->World->Prop)(Z:List PanicEntry->World->Prop):Prop:=
 Calls P g args.toArray w fun e X=>match e with| .returned v=>R v X| .panicked ch=>Z ch X| .outgrown=>False
def Fn(P:Program)(g:FuncId)(args:LV)(w:World)(R:Value->World->Prop):Prop:=FnP P g args w R fun _ _=>False
theorem FnP.mono{P:Program}{g:FuncId}{args:LV}{w:World}{R F:Value->World->Prop}{Z E:List PanicEntry->World->Prop}
  (h:FnP P g args w R Z)(G:∀v w',R v w'->F v w')(o:∀V w',Z V w'->E V w'):FnP P g args w F E:=
 Calls.mono h fun e w' a=>by cases e with
  |returned v=>exact G v w' a
  |panicked V=>exact o V w' a
  |outgrown=>exact a
theorem Fn.mono{P:Program}{g:FuncId}{args:LV}{w:World}{R F:Value->World->Prop}
  (h:Fn P g args w R)(G:∀v w',R v w'->F v w'):Fn P g args w F:=FnP.mono h G fun _ _ h=>h
theorem argF_get:∀(l:LV)(i:Nat),argF l i=l.getD i undef
 | [],i=>by simp[argF]
 |_::_,0=>rfl
 |_::l,i+1=>by simp[argF,argF_get l i]
theorem toFr_args(l:LV)(k:Nat):Ca {tmps:=l.toArray++Array.replicate k undef,defers:=[]}=argF l:=by
 funext i
 rw[argF_get];simp only[Ca,Array.getD_eq_getD_getElem?,List.getD_eq_getElem?_getD,Array.getElem?_append];by_cases h:i<l.length
 ·simp[h]
 ·have e:l[i]?=none:=List.getElem?_eq_none U;rw[e];simp only[List.size_toArray,h,if_false];by_cases W:i-l.length<k
  ·simp[W]
  ·rw[Array.getElem?_eq_none EP]
def lv(P:Program)(fn:Func)(R:Value->World->Prop)(Z:List PanicEntry->World->Prop)(f:Fr):DS->FrameMode->World->Prop
 | [],.returning,w=>Da P fn.results.toList f w fun l=>R (tupleOf l) w
 | [],.panicking ch,w=>Z ch w
 | [],.run,_=>False
 |d::ds,u,w=>u≠ .run/\
  ((∃r X,d.target=.collected r/\(Instr.takeDeferred r).run P w=.ok [] X/\lv P fn R Z f ds u X)\/
   (∃D E g h,d.target=.fn D E/\(invoke d.target d.args).run P w=.ok (.enter g h) w/\
   CallsDIn Fence.wide 0 P g h u w fun
    | .returned _,u',X=>lv P fn R Z f ds (settle u') X
    | .panicked ch,u',X=>lv P fn R Z f ds (raised u' ch) X
    | .outgrown,_,_=>False))
def DZ(P:Program)(fn:Func)(R:Value->World->Prop)(Z:List PanicEntry->World->Prop):DD
 | .normal=>fun f F w=>lv P fn R Z f F .returning w
 | .ret=>fun f F w=>lv P fn R Z f F .returning w
 | .panic ch=>fun f F w=>lv P fn R Z f F (.panicking ch) w
 |_=>fun _ _ _=>False
def endR(R:Value->World->Prop)(Z:List PanicEntry->World->Prop):Ending->World->Prop
 | .returned v,w=>R v w
 | .panicked ch,w=>Z ch w
 | .outgrown,_=>False
theorem Cc{P:Program}{fn:Func}{R:Value->World->Prop}{Z:List PanicEntry->World->Prop}{tmps:Array Value}:∀(ds:DS)(u:FrameMode)(w:World),lv P fn R Z (fun i=>tmps.getD i undef) ds u w->
  LeavesInM Fence.wide 0 P fn tmps (endR R Z) ds u w
 | [],.returning,w,h=>by
  obtain⟨l,b,W⟩:=run_results h;exact⟨_,W,b⟩
 | [],.panicking ch,w,h=>h
 | [],.run,w,h=>h
 |d::ds,u,w,h=>by
  obtain⟨m,h⟩:=h;refine⟨m,?_⟩;rcases h with⟨r,X,b,W,f⟩|⟨k,E,g,j,b,W,f⟩
  ·exact .inl ⟨r,X,b,W,Cc ds u X f⟩
  ·refine .inr ⟨fun M=>by simp[Fence.wide]at M,k,E,g,j,b,W,fun _ _=>trivial,f.1,?_⟩;intro c q T G;obtain⟨e,a,X,D,z,B⟩:=f.2 c q T G;refine⟨e,a,X,D,?_,B⟩;cases e with
   |returned v=>exact Cc ds _ _ z
   |panicked ch=>exact Cc ds _ _ z
   |outgrown=>exact z.elim
theorem fnD_of_wc{P:Program}{g:FuncId}{fn:Func}{c:Code}{args:LV}{w:World}{R:Value->World->Prop}{Z:List PanicEntry->World->Prop}
  (f:P.funcs[g]?=some fn)(S:fn.body=some c){n:Nat}(I:fn.ntmps=n)(i:args.length<=n)(p:Co n false c=true)
  (h:WC P ⟨n,none⟩ c (DZ P fn R Z) (argF args) [] w):FnP P g args w R Z:=by
 have F:(args.toArray++Array.replicate (fn.ntmps-args.toArray.size) undef).size=n:=by simp[I];omega
 have T:=CW (P:=P) (n:=⟨n,none⟩) c (DZ P fn R Z) {tmps:=args.toArray++Array.replicate (fn.ntmps-args.toArray.size) undef,defers:=[]} w F p (by rw[toFr_args];exact h)
 have b:CallsIn Fence.wide 0 P g args.toArray w (endR R Z):=by
  refine callsIn_of_wp_marks f S trivial ?_;refine wpIn_mono T ?_;rintro e a X⟨_,K⟩;cases e with
  |normal=>exact Cc _ _ _ K
  |ret=>exact Cc _ _ _ K
  |panic ch=>exact Cc _ _ _ K
  |exit _=>exact K.elim
  |goto _=>exact K.elim
  |outgrown=>exact K.elim
 refine Calls.mono (callsIn_wide.1 b) fun e X d=>?_;cases e<;>exact d
theorem Az{P:Program}{g:FuncId}{fn:Func}{c:Code}{args:LV}{w:World}{R:Value->World->Prop}{Z:List PanicEntry->World->Prop}
  (f:P.funcs[g]?=some fn)(S:fn.body=some c){n:Nat}(I:fn.ntmps=n)(i:args.length<=n)(p:Co n false c=true)
  (h:WC P ⟨n,none⟩ c (Cx P fn R Z) (argF args) [] w):FnP P g args w R Z:=by
 have F:(args.toArray++Array.replicate (fn.ntmps-args.toArray.size) undef).size=n:=by simp[I];omega
 have T:=CW (P:=P) (n:=⟨n,none⟩) c (Cx P fn R Z) {tmps:=args.toArray++Array.replicate (fn.ntmps-args.toArray.size) undef,defers:=[]} w F p (by rw[toFr_args];exact h)
 have b:CallsIn Fence.wide 0 P g args.toArray w (endR R Z):=by
  refine callsIn_of_wp_marks f S trivial ?_;refine wpIn_mono T ?_;rintro e a X⟨_,K⟩;cases e with
  |normal=>obtain⟨C,G⟩:=K;simp only[bodyPostM,C];exact Cc [] .returning X G
  |ret=>obtain⟨C,G⟩:=K;simp only[bodyPostM,C];exact Cc [] .returning X G
  |panic ch=>obtain⟨C,G⟩:=K;simp only[bodyPostM,C];exact Cc (R:=R) (fn:=fn) (tmps:=a.tmps) [] (.panicking ch) X G
  |exit _=>exact K.elim
  |goto _=>exact K.elim
  |outgrown=>exact K.elim
 refine Calls.mono (callsIn_wide.1 b) fun e X d=>?_;cases e<;>exact d
attribute [irreducible] WC AT B6 BK Bz Cx DZ By
section
def Unm(w:World)(b:Nat):Prop:=∀(c:Array Value)(t:TypeId)(D:Nat×Nat),w.heap[b]?=some (.cells c t D)->D=(0,0)\/∀(i:Nat)(v:Value),c[i]?=some v->∃n,v=.int .u8 n
class MK (mk:outParam Prop):Prop where
 triv:True
structure Keep{mk:Prop}[MK mk](X:List Nat)(w w':World):Prop where
 os:w'.os=w.os
 tape:w'.tape=w.tape
 output:w'.output=w.output
 size:w.heap.size<=w'.heap.size
 block:∀b,b<w.heap.size->b∉X->w'.heap[b]?=w.heap[b]?
 mark:mk->∀b,(b<w.heap.size->Unm w b)->Unm w' b
 drawn:w.drawn<=w'.drawn
variable {mk:Prop}[MK mk]
abbrev Ext(w w':World):Prop:=Keep [] w w'
theorem Unm.out{w:World}{b:Nat}(h:w.heap.size<=b):Unm w b:=fun c t D e=>by rw[Array.getElem?_eq_none h]at e;cases e
theorem Unm.eq{w w':World}{b:Nat}(h:Unm w b)(e:w'.heap[b]?=w.heap[b]?):Unm w' b:=fun c t D n=>h c t D (e▸n)
theorem Unm.cells{w:World}{b:Nat}{c:Array Value}{t:TypeId}(h:w.heap[b]?=some (.cells c t (0,0))):Unm w b:=fun I o D e=>by rw[h]at e;cases e;exact .inl rfl
theorem mark_refl(w:World):∀b,(b<w.heap.size->Unm w b)->Unm w b:=fun b h=>by
 by_cases S:b<w.heap.size
 ·exact h S
 ·exact Unm.out U
theorem mark_heap{w w':World}(e:w'.heap=w.heap):∀b,(b<w.heap.size->Unm w b)->Unm w' b:=fun b h=>(mark_refl w b h).eq (by rw[e])
theorem mark_new{w w':World}(F:w'.heap.size<=w.heap.size+1)(a:∀k,k<w.heap.size->w'.heap[k]?=w.heap[k]?)(I:Unm w' w.heap.size):∀b,(b<w.heap.size->Unm w b)->Unm w' b:=fun b h=>by
 by_cases S:b<w.heap.size
 ·exact(h S).eq (a b S)
 ·by_cases P:b=w.heap.size
  ·rw[P];exact I
  ·exact Unm.out U
theorem mark_put{w w':World}{g:Nat}(F:w'.heap.size=w.heap.size)(a:∀k,k≠g->w'.heap[k]?=w.heap[k]?)(c:Unm w' g):∀b,(b<w.heap.size->Unm w b)->Unm w' b:=fun b h=>by
 by_cases P:b=g
 ·rw[P];exact c
 ·exact(mark_refl w b h).eq (a b P)
theorem mark_obj{w:World}{g:Nat}{o:Obj}(a:∀c t D,o≠ .cells c t D):∀b,(b<w.heap.size->Unm w b)->Unm {w with heap:=w.heap.setIfInBounds g o} b:=
 mark_put (g:=g) O (fun k L=>by simp[Ne.symm L]) fun c t D e=>by
  by_cases h:g<w.heap.size
  ·simp[h]at e;exact absurd e (a c t D)
  ·rw[Array.getElem?_eq_none EP]at e;cases e
theorem Keep.refl(X:List Nat)(w:World):Keep X w w:=⟨rfl,rfl,rfl,Nat.le_refl _,fun _ _ _=>rfl,fun _=>mark_refl w,Nat.le_refl _⟩
theorem Ext.refl(w:World):Ext w w:=Keep.refl [] w
theorem Keep.trans{X Y:List Nat}{a b c:World}(h:Keep X a b)(k:Keep Y b c)(F:∀x∈Y,x<a.heap.size->x∈X):Keep X a c:=
 ⟨k.os.trans h.os,k.tape.trans h.tape,k.output.trans h.output,Nat.le_trans h.size k.size,fun i H V=>
  (k.block i (Nat.lt_of_lt_of_le H h.size) fun E=>V (F i E H)).trans (h.block i H V),
  (fun m b S=>k.mark m b fun _=>h.mark m b S),Nat.le_trans h.drawn k.drawn⟩
theorem Keep.ext{X:List Nat}{a b c:World}(h:Keep X a b)(k:Ext b c):Keep X a c:=h.trans k (fun _ V=>by cases V)
theorem Keep.mono{X Y:List Nat}{a b:World}(h:Keep X a b)(n:∀x∈X,x∈Y):Keep Y a b:=
 ⟨h.os,h.tape,h.output,h.size,(fun i H V=>h.block i H fun s=>V (n i s)),h.mark,h.drawn⟩
theorem Ext.any{X:List Nat}{a b:World}(h:Ext a b):Keep X a b:=h.mono fun _ V=>by cases V
theorem Ext.E{Y:List Nat}{a b c:World}(h:Ext a b)(k:Keep Y b c)(F:∀x∈Y,a.heap.size<=x):Ext a c:=
 h.trans k fun x V d=>absurd (F x V) U
theorem Ext.trans{a b c:World}(h:Ext a b)(k:Ext b c):Ext a c:=Keep.ext h k
theorem Keep.of_grown{w w':World}{V:Option Nat}(h:w.grownBy w' V)(C:w.drawn<=w'.drawn)(s:mk->∀b,(b<w.heap.size->Unm w b)->Unm w' b):Keep V.toList w w':=
 ⟨h.os,h.tape,h.output,h.size,(fun k L a=>h.block k L fun e=>a (by rw[<-e];simp)),s,C⟩
theorem Keep.cell{X:List Nat}{w w':World}(h:Keep X w w'){b o:Nat}{v:Value}(T:w.cell? ⟨b,o,none⟩=some v)(S:b∉X):w'.cell? ⟨b,o,none⟩=some v:=by
 have x:=World.block_lt_of_cell? w _ T;exact(World.cell?_of_block (w:=w) (h.block b x S)).trans T
def Blk(w:World)(b:Nat)(T:TypeId)(L:LV):Prop:=w.heap[b]?=some (.cells L.toArray T (0,0))
theorem Blk.lt{w:World}{b:Nat}{T:TypeId}{L:LV}(h:Blk w b T L):b<w.heap.size:=(Array.getElem?_eq_some_iff.1 h).1
theorem Blk.E{X:List Nat}{w w':World}{b:Nat}{T:TypeId}{L:LV}(h:Blk w b T L)(k:Keep X w w')(S:b∉X):Blk w' b T L:=(k.block b h.lt S).trans h
theorem Blk.cell{w:World}{b:Nat}{T:TypeId}{L:LV}(h:Blk w b T L){o:Nat}{v:Value}(a:L[o]?=some v):w.cell? ⟨b,o,none⟩=some v:=by
 unfold Blk at h;simp[World.cell?,h,a]
theorem Blk.frozen{w:World}{b:Nat}{T:TypeId}{L:LV}(h:Blk w b T L)(o:Nat):w.frozen? ⟨b,o,none⟩=false:=by
 unfold Blk at h;simp[World.frozen?,h]
structure New(w w':World)(T:TypeId)(L:LV):Prop where
 E:Ext w w'
 size:w'.heap.size=w.heap.size+1
 D:Blk w' w.heap.size T L
theorem New.mk_alloc(w:World)(L:LV)(T:TypeId):New w (w.alloc (.cells L.toArray T)) T L:=
 ⟨⟨rfl,rfl,rfl,by simp,fun k a _=>heap_alloc_old w _ a,fun _=>mark_new O (fun k a=>heap_alloc_old w _ a) (Unm.cells (heap_alloc_new w _)),Nat.le_refl _⟩,by simp,heap_alloc_new w _⟩
structure Put(w w':World)(b:Nat)(T:TypeId)(L:LV):Prop where
 E:Keep [b] w w'
 size:w'.heap.size=w.heap.size
 D:Blk w' b T L
theorem Put.mk_setCell{w:World}{b:Nat}{T:TypeId}{L:LV}(h:Blk w b T L)(o:Nat)(v:Value):Put w (w.setCell ⟨b,o,none⟩ v) b T (L.set o v):=by
 unfold Blk at h
 have S:Blk (w.setCell ⟨b,o,none⟩ v) b T (L.set o v):=by
  simp only[Blk,World.setCell,Array.getElem?_modify,h];simp
 refine⟨⟨rfl,rfl,rfl,by simp[World.setCell],fun k _ a=>?_,fun _=>mark_put (g:=b) (by simp[World.setCell]) (fun k a=>?_) (Unm.cells S),Nat.le_refl _⟩,by simp[World.setCell],S⟩
 ·exact Below.heap_setCell w ⟨b,o,none⟩ v k Eo
 ·exact Below.heap_setCell w ⟨b,o,none⟩ v k Eo
def Cells(w:World)(b k:Nat)(cs:LV):Prop:=∀(i:Nat)(u:Value),cs[i]?=some u->w.cell? ⟨b,k+i,none⟩=some u
theorem Cells.E{X:List Nat}{w w':World}{b a:Nat}{cs:LV}(h:Cells w b a cs)(k:Keep X w w')(S:b∉X):Cells w' b a cs:=
 fun i u g=>k.cell (h i u g) S
theorem Blk.cells{w:World}{b:Nat}{T:TypeId}{L:LV}(h:Blk w b T L):Cells w b 0 L:=fun i u g=>by rw[Nat.zero_add];exact h.cell g
theorem Cells.part{w:World}{b a:Nat}{cs:LV}(h:Cells w b a cs)(k n:Nat):Cells w b (a+k) ((cs.drop k).take n):=by
 intro i u g;rw[List.getElem?_take]at g
 split at g
 ·rw[List.getElem?_drop]at g;rw[Nat.add_assoc];exact h (k+i) u g
 ·cases g
def adv(cap l size:Nat)(a:Option Addr):Option Addr:=if cap=l then a else a.map (·.add (l*size))
def Sl(ok:Nat->Prop)(w:World)(v:Value)(n:Nat)(cs:LV):Prop:=
 ∃a E,v=.slice a n E/\n<=E/\E<=9223372036854775807/\(a=none->E=0)/\
  (n=0\/∃b k,a=some ⟨b,k,none⟩/\ok b/\Cells w b k cs)
theorem Sl.E{ok:Nat->Prop}{X:List Nat}{w w':World}{v:Value}{n:Nat}{cs:LV}(h:Sl ok w v n cs)(k:Keep X w w')(c:∀b,ok b->b∉X):Sl ok w' v n cs:=by
 obtain⟨a,E,p,Z,W,R,B⟩:=h;refine⟨a,E,p,Z,W,R,B.imp id ?_⟩;rintro⟨b,d,D,S,T⟩;exact⟨b,d,D,S,T.E k (c b S)⟩
theorem Sl.ext{ok:Nat->Prop}{w w':World}{v:Value}{n:Nat}{cs:LV}(h:Sl ok w v n cs)(k:Ext w w'):Sl ok w' v n cs:=h.E k fun _ _=>by simp
theorem Sl.mono{ok ok':Nat->Prop}{w:World}{v:Value}{n:Nat}{cs:LV}(h:Sl ok w v n cs)(L:∀b,ok b->ok' b):Sl ok' w v n cs:=by
 obtain⟨a,E,p,Z,W,R,B⟩:=h;refine⟨a,E,p,Z,W,R,B.imp id ?_⟩;rintro⟨b,k,D,S,T⟩;exact⟨b,k,D,L b S,T⟩
theorem New.own{w w':World}{e size n B:Nat}{out:LV}(h:New w w' e out)(K:out.length=n*size)(I:n<=maxLen)(s:B<=w.heap.size):w'.ownsRow B e size (.slice (sm w.heap.size) n n) n out:=
 ⟨K,.inr ⟨w.heap.size,n,out.toArray,rfl,s,h.D,Nat.le_refl _,I,by simpa using K,by rw[<-K];simp⟩⟩
theorem DI{w:World}{B T e size n:Nat}{v:Value}{xs:LV}(h:w.ownsRow B e size v n xs)(s:T<=B):w.ownsRow T e size v n xs:=by
 refine⟨h.1,h.2.imp id ?_⟩;rintro⟨g,E,G,p,a,r⟩;exact⟨g,E,G,p,Nat.le_trans s a,r⟩
theorem Ai{X:List Nat}{w w':World}{B e size n:Nat}{v:Value}{xs:LV}(h:w.ownsRow B e size v n xs)(k:Keep X w w')(b:∀g,v.ownBlock=some g->g∉X):w'.ownsRow B e size v n xs:=by
 refine⟨h.1,h.2.imp id ?_⟩;rintro⟨g,E,G,rfl,a,M,r⟩;exact⟨g,E,G,rfl,a,(k.block g (Array.getElem?_eq_some_iff.1 M).1 (b g rfl)).trans M,r⟩
theorem As{w w':World}{B e size n:Nat}{v:Value}{xs:LV}(h:w.ownsRow B e size v n xs)(k:Ext w w'):w'.ownsRow B e size v n xs:=Ai h k fun _ _=>by simp
theorem Aa{w:World}{B e size n:Nat}{v:Value}{xs:LV}{ok:Nat->Prop}(h:w.ownsRow B e size v n xs)(p:∀g,v.ownBlock=some g->ok g):Sl ok w v n xs:=by
 obtain⟨K,d⟩:=h;rcases d with⟨rfl,rfl⟩|⟨g,E,G,rfl,S,b,I,m,C,c⟩
 ·exact⟨none,0,rfl,by omega,by omega,fun _=>rfl,.inl rfl⟩
 ·refine⟨_,E,rfl,I,by unfold maxLen at m;omega,(fun h=>by cases h),.inr ⟨g,0,rfl,p g rfl,?_⟩⟩;intro i u a;have x:i<n*size:=by rw[<-K];exact(List.getElem?_eq_some_iff.1 a).1
  rw[<-c,List.getElem?_take,if_pos x]at a;simp only[World.cell?,b,Nat.zero_add];simpa using a
def Af:Nat->Prop:=fun _=>True
def enc8(c:UInt8):Value:=.int .u8 (c.toNat:Int)
def DY(l:LU):LV:=l.map enc8
theorem cells8_append(l m:LU):DY (l++m)=DY l++DY m:=by simp[DY]
theorem cells8_get{l:LU}{i:Nat}(h:i<l.length):(DY l)[i]?=some (enc8 (l.getD i 0)):=by
 simp[DY,h]
end
section
variable {mk:Prop}[MK mk]
attribute [local semireducible] WC AT B6 BK Bz Cx DZ By
def aggD:TypeDesc->Bool
 | .struct _=>true
 | .array _ _=>true
 |_=>false
class D1 (P:Program) (T:TypeId):Prop where
 out:∃d,P.underlying T=some d/\aggD d=false
class AggT (P:Program) (T:TypeId) (size:outParam Nat):Prop where
 out:(∃d,P.underlying T=some d/\aggD d=true)/\∃i,P.info? T=some i/\i.size=size
class B8 (P:Program) (T:TypeId) (size:outParam Nat):Prop where
 out:∃i,P.info? T=some i/\i.size=size
class CP (P:Program) (T:TypeId) (L:outParam (LV)):Prop where
 out:∃i z,P.info? T=some i/\i.zero=some z/\z.cells=L.toArray
class SlT (P:Program) (T:TypeId) (e size bytes:outParam Nat) (z:outParam Value):Prop where
 und:P.underlying T=some (.slice e)
 out:∃i,P.info? e=some i/\i.zero=some z/\i.size=size/\i.bytes=bytes
class ArrT (P:Program) (T:TypeId) (len e size:outParam Nat):Prop where
 und:P.underlying T=some (.array len e)
 out:∃i,P.info? e=some i/\i.size=size
class Av (P:Program) (T:TypeId) (i:Nat) (off:outParam Nat) (ft:outParam TypeId):Prop where
 out:∃fs fld,P.underlying T=some (.struct fs)/\fs[i]?=some fld/\fld.offset=off/\fld.type=ft/\∃j,P.info? ft=some j/\j.size≠0
class StrT (P:Program) (T:TypeId):Prop where
 out:P.underlying T=some .string
class IntT (P:Program) (T:TypeId) (k:outParam IntKind):Prop where
 out:P.underlying T=some (.int k)
class AM (P:Program) (g:FuncId):Prop where
 out:∃fn,P.funcs[g]?=some fn/\¬fn.name= "runtime.NumGoroutine" /\¬fn.body=none
variable {P:Program}{all:Array Oper}{Z:Fr->DS->List PanicEntry->World->Prop}{K:Fr->DS->World->Prop}{rest:List Oper}{f:Fr}{ds:DS}{w:World}
 {d:Nat}{ty:TypeId}{pos:String}{af:Array Edge}
theorem AA(h:K f ds w):AT P all Z K [] f ds w:=h
theorem A0{o:Oper}{v:Value}{w':World}(g:o.guard=none)(G:(execOp (ev f) o).run P w=.ok (.value v) w')(h:AT P all Z K rest (putF f o.dst v) ds w'):AT P all Z K (o::rest) f ds w:=by
 unfold AT;rw[g];simp only[Bh,if_true,By,G];exact h
theorem W_skp{o:Oper}{w':World}(g:o.guard=none)(G:(execOp (ev f) o).run P w=.ok .skip w')(h:AT P all Z K rest (putF f o.dst undef) ds w'):AT P all Z K (o::rest) f ds w:=by
 unfold AT;rw[g];simp only[Bh,if_true,By,G];exact h
theorem AK{g:Option Nat}{op:Op}{j:Nat}{p:Bool}(i:guardVal all f j=some p)(h:AT P all Z K (⟨g,op,ty,pos,af,none⟩::rest) f ds w):AT P all Z K (⟨g,op,ty,pos,af,some (j,p)⟩::rest) f ds w:=by
 unfold AT at h⊢;simp only[Bh,i,beq_self_eq_true,if_true]at h⊢;exact h
theorem Ah{g:Option Nat}{op:Op}{j:Nat}{p:Bool}(i:(guardVal all f j==some p)=false)(h:AT P all Z K rest (putF f g undef) ds w):AT P all Z K (⟨g,op,ty,pos,af,some (j,p)⟩::rest) f ds w:=by
 unfold AT;have e:Bh all f (some (j,p))=false:=i;simp only[e,Bool.false_eq_true,if_false];exact h
theorem Cq{x:Operand}(h:AT P all Z K rest (upd f d (ev f x)) ds w):AT P all Z K (⟨some d,.move x,ty,pos,af,none⟩::rest) f ds w:=
 A0 rfl (by simp[execOp]) h
theorem W_pick_t{c x y:Operand}(g:ev f c=.bool true)(h:AT P all Z K rest (upd f d (ev f x)) ds w):AT P all Z K (⟨some d,.pick c x y,ty,pos,af,none⟩::rest) f ds w:=
 A0 rfl (by simp[execOp,g,asBool]) h
theorem W_pick_f{c x y:Operand}(g:ev f c=.bool false)(h:AT P all Z K rest (upd f d (ev f y)) ds w):AT P all Z K (⟨some d,.pick c x y,ty,pos,af,none⟩::rest) f ds w:=
 A0 rfl (by simp[execOp,g,asBool]) h
theorem run_zero{T:TypeId}{L:LV}[h:CP P T L](w:World):∃z,(zeroValue T).run P w=.ok z w/\z.cells=L.toArray:=by
 obtain⟨i,z,hi,o,g⟩:=h.out;exact⟨z,by simp[zeroValue,typeInfo,hi,o],g⟩
theorem AY{T:TypeId}{L:LV}[hT:CP P T L](h:∀w',New w w' T L->AT P all Z K rest (upd f d (.pointer (sm w.heap.size))) ds w'):
  AT P all Z K (⟨some d,.alloc T,ty,pos,af,none⟩::rest) f ds w:=by
 obtain⟨z,o,g⟩:=run_zero (P:=P) (T:=T) w;refine A0 (v:=.pointer (sm w.heap.size)) (w':=w.alloc (.cells L.toArray T)) rfl ?_ (h _ (New.mk_alloc w L T));simp[execOp,Instr.alloc,o,newVar,newRow,newObj,g,Sem.run]
theorem A3{T:TypeId}{x:Operand}{L:LV}(V:(ev f x).cells=L.toArray)(h:∀w',New w w' T L->AT P all Z K rest (upd f d (.pointer (sm w.heap.size))) ds w'):
  AT P all Z K (⟨some d,.box T x,ty,pos,af,none⟩::rest) f ds w:=by
 refine A0 (v:=.pointer (sm w.heap.size)) (w':=w.alloc (.cells L.toArray T)) rfl ?_ (h _ (New.mk_alloc w L T));simp[execOp,Instr.box,newVar,newRow,newObj,V,Sem.run]
theorem AH{T:TypeId}{a:Operand}{b o:Nat}{v:Value}[hT:D1 P T](D:ev f a=.pointer (some ⟨b,o,none⟩))(i:w.cell? ⟨b,o,none⟩=some v)(h:AT P all Z K rest (upd f d v) ds w):
  AT P all Z K (⟨some d,.load T a,ty,pos,af,none⟩::rest) f ds w:=by
 obtain⟨F,g,W⟩:=hT.out;refine A0 (v:=v) rfl ?_ h
 have e:(isAgg T).run P w=.ok false w:=by
  simp only[isAgg,Sem.run_bind,run_underlying g,Result.andThen_ok];cases F<;>simp_all [aggD]
 simp only[execOp,D,Instr.loadAt,Instr.sureAddr,loadVar,Sem.run_bind,Sem.run_pure,Result.andThen_ok,e];simp[run_load,i]
theorem AQ{T:TypeId}{a:Operand}{b o n:Nat}{L:LV}[hT:AggT P T n](D:ev f a=.pointer (some ⟨b,o,none⟩))(q:L.length=n)(m:Cells w b o L)
  (h:AT P all Z K rest (upd f d (.agg L.toArray)) ds w):AT P all Z K (⟨some d,.load T a,ty,pos,af,none⟩::rest) f ds w:=by
 obtain⟨⟨F,g,W⟩,i,hi,r⟩:=hT.out;refine A0 (v:=.agg L.toArray) rfl ?_ h
 have e:(isAgg T).run P w=.ok true w:=by
  simp only[isAgg,Sem.run_bind,run_underlying g,Result.andThen_ok];cases F<;>simp_all [aggD]
 have G:=run_loadCells_list (P:=P) w ⟨b,o,none⟩ L (fun j v p=>by rw[Addr.add_lit];exact m j v p);rw[q,<-r]at G;simp only[execOp,D,Instr.loadAt,Instr.sureAddr,loadVar,Sem.run_bind,Sem.run_pure,Result.andThen_ok,e,if_true,sizeOf,typeInfo,program];simp[Sem.run,hi,G]
theorem AU{T A:TypeId}{a x:Operand}{b o:Nat}{v:Value}{L:LV}[hT:B8 P T 1](D:ev f a=.pointer (some ⟨b,o,none⟩))(V:ev f x=v)(g:v.oneCell'=true)
  (S:Blk w b A L)(q:o<L.length)(h:∀w',Put w w' b A (L.set o v)->AT P all Z K rest f ds w'):
  AT P all Z K (⟨none,.store T a x,ty,pos,af,none⟩::rest) f ds w:=by
 obtain⟨i,hi,F⟩:=hT.out;refine W_skp (w':=w.setCell ⟨b,o,none⟩ v) rfl ?_ (h _ (Put.mk_setCell S o v));have p:v.cells= #[v]:=by cases v<;>simp_all [Value.cells,Value.oneCell']
 have j:w.cell? ⟨b,o,none⟩=some L[o]:=S.cell (by simp[q]);have m:=S.frozen o;simp only[execOp,D,V,Instr.storeAt,Instr.sureAddr,storeVar,Sem.run_bind,Sem.run_pure,Result.andThen_ok,sizeOf,typeInfo,program];simp[Sem.run,hi,F,p,storeCells,run_store P w _ v .plain g,j,m,Addr.add]
def inR(k:IntKind)(n:Int):Prop:=k.min<=n/\n<=k.max
theorem wrap_in{k:IntKind}{n:Int}(h:inR k n):k.wrap n=n:=by
 obtain⟨g,W⟩:=h;cases k<;>simp[IntKind.min,IntKind.max,IntKind.signed,IntKind.bits]at g W<;>simp[IntKind.wrap,IntKind.signed,IntKind.bits]<;>omega
theorem Bo{n:Int}(g: -9223372036854775808<=n)(W:n<=9223372036854775807):inR .i64 n:=by
 simp only[inR,IntKind.min,IntKind.max,IntKind.signed,IntKind.bits];exact⟨by simpa using g,by simpa using W⟩
theorem CD{n:Int}(g:0<=n)(W:n<=255):inR .u8 n:=by
 simp only[inR,IntKind.min,IntKind.max,IntKind.signed,IntKind.bits];exact⟨by simpa using g,by simpa using W⟩
theorem Bn{n:Int}(g:0<=n)(W:n<=65535):inR .u16 n:=by
 simp only[inR,IntKind.min,IntKind.max,IntKind.signed,IntKind.bits];exact⟨by simpa using g,by simpa using W⟩
section
variable {x y:Operand}{xt yt:TypeId}{k:IntKind}{a b:Int}
theorem W_add(V:ev f x=.int k a)(E:ev f y=.int k b)(G:inR k (a+b))(h:AT P all Z K rest (upd f d (.int k (a+b))) ds w):
  AT P all Z K (⟨some d,.binOp .add xt x y yt,ty,pos,af,none⟩::rest) f ds w:=
 A0 rfl Ez h
theorem W_sub(V:ev f x=.int k a)(E:ev f y=.int k b)(G:inR k (a-b))(h:AT P all Z K rest (upd f d (.int k (a-b))) ds w):
  AT P all Z K (⟨some d,.binOp .sub xt x y yt,ty,pos,af,none⟩::rest) f ds w:=
 A0 rfl Ez h
theorem W_mul(V:ev f x=.int k a)(E:ev f y=.int k b)(G:inR k (a*b))(h:AT P all Z K rest (upd f d (.int k (a*b))) ds w):
  AT P all Z K (⟨some d,.binOp .mul xt x y yt,ty,pos,af,none⟩::rest) f ds w:=
 A0 rfl Ez h
theorem W_quo(V:ev f x=.int k a)(E:ev f y=.int k b)(D:0<=a)(S:0<b)(G:inR k a)(h:AT P all Z K rest (upd f d (.int k (a/b))) ds w):
  AT P all Z K (⟨some d,.binOp .quo xt x y yt,ty,pos,af,none⟩::rest) f ds w:=by
 have e:a.tdiv b=a/b:=Int.tdiv_eq_ediv_of_nonneg D;have i:a/b<=a:=Int.ediv_le_self b D;have g:0<=a/b:=Int.ediv_nonneg D U;have j:k.min<=0:=by cases k<;>decide
 have I:inR k (a/b):=⟨by omega,by have:=G.2;omega⟩;exact A0 rfl (by simp[execOp,V,E,eqGuard,binOp,Op.intDiv,show¬b=0 by omega,e,wrap_in I]) h
theorem W_rem(V:ev f x=.int k a)(E:ev f y=.int k b)(D:0<=a)(S:0<b)(h:AT P all Z K rest (upd f d (.int k (a%b))) ds w):
  AT P all Z K (⟨some d,.binOp .rem xt x y yt,ty,pos,af,none⟩::rest) f ds w:=by
 have e:a.tmod b=a%b:=Int.tmod_eq_emod_of_nonneg D;exact A0 rfl (by simp[execOp,V,E,eqGuard,binOp,Op.intDiv,show¬b=0 by omega,e]) h
theorem C6(V:ev f x=.int k a)(E:ev f y=.int k b)(i:a<b->AT P all Z K rest (upd f d (.bool true)) ds w)(h:b<=a->AT P all Z K rest (upd f d (.bool false)) ds w):
  AT P all Z K (⟨some d,.binOp .lss xt x y yt,ty,pos,af,none⟩::rest) f ds w:=by
 by_cases g:a<b
 ·exact A0 rfl Ef (i g)
 ·exact A0 rfl Ef (h U)
theorem Cp(V:ev f x=.int k a)(E:ev f y=.int k b)(i:a<=b->AT P all Z K rest (upd f d (.bool true)) ds w)(h:b<a->AT P all Z K rest (upd f d (.bool false)) ds w):
  AT P all Z K (⟨some d,.binOp .leq xt x y yt,ty,pos,af,none⟩::rest) f ds w:=by
 by_cases g:a<=b
 ·exact A0 rfl Ef (i g)
 ·exact A0 rfl Ef (h U)
theorem W_gtr(V:ev f x=.int k a)(E:ev f y=.int k b)(i:b<a->AT P all Z K rest (upd f d (.bool true)) ds w)(h:a<=b->AT P all Z K rest (upd f d (.bool false)) ds w):
  AT P all Z K (⟨some d,.binOp .gtr xt x y yt,ty,pos,af,none⟩::rest) f ds w:=by
 by_cases g:b<a
 ·exact A0 rfl Ef (i g)
 ·exact A0 rfl Ef (h U)
theorem W_geq(V:ev f x=.int k a)(E:ev f y=.int k b)(i:b<=a->AT P all Z K rest (upd f d (.bool true)) ds w)(h:a<b->AT P all Z K rest (upd f d (.bool false)) ds w):
  AT P all Z K (⟨some d,.binOp .geq xt x y yt,ty,pos,af,none⟩::rest) f ds w:=by
 by_cases g:b<=a
 ·exact A0 rfl Ef (i g)
 ·exact A0 rfl Ef (h U)
theorem Bf(V:ev f x=.int k a)(E:ev f y=.int k b)(i:a=b->AT P all Z K rest (upd f d (.bool true)) ds w)(h:a≠b->AT P all Z K rest (upd f d (.bool false)) ds w):
  AT P all Z K (⟨some d,.binOp .eql xt x y yt,ty,pos,af,none⟩::rest) f ds w:=by
 by_cases g:a=b
 ·exact A0 rfl Ef (i g)
 ·exact A0 rfl Ef (h g)
theorem W_neq(V:ev f x=.int k a)(E:ev f y=.int k b)(i:a≠b->AT P all Z K rest (upd f d (.bool true)) ds w)(h:a=b->AT P all Z K rest (upd f d (.bool false)) ds w):
  AT P all Z K (⟨some d,.binOp .neq xt x y yt,ty,pos,af,none⟩::rest) f ds w:=by
 by_cases g:a=b
 ·exact A0 rfl Ef (h g)
 ·exact A0 rfl Ef (i g)
theorem W_not{c:Bool}(V:ev f x=.bool c)(h:AT P all Z K rest (upd f d (.bool (!c))) ds w):
  AT P all Z K (⟨some d,.unOp .not xt x,ty,pos,af,none⟩::rest) f ds w:=
 A0 rfl (by simp[execOp,V,Op.unary]) h
theorem W_conv[hs:IntT P yt k]{k':IntKind}(V:ev f x=.int k' a)(G:inR k a)(h:AT P all Z K rest (upd f d (.int k a)) ds w)
  {L:TypeId}[hst:IntT P L k']:AT P all Z K (⟨some d,.convert L yt x,ty,pos,af,none⟩::rest) f ds w:=
 A0 rfl (by simp[execOp,V,convert,run_underlying hs.out,run_underlying hst.out,Conv.intToInt,wrap_in G]) h
end
abbrev AL(l:LU):Value:=.string ⟨l.toArray⟩
section
variable {x y:Operand}{xt yt:TypeId}{s t:LU}
theorem Bg(V:ev f x=AL s)(E:ev f y=AL t)(i:s=t->AT P all Z K rest (upd f d (.bool true)) ds w)(h:s≠t->AT P all Z K rest (upd f d (.bool false)) ds w):
  AT P all Z K (⟨some d,.binOp .eql xt x y yt,ty,pos,af,none⟩::rest) f ds w:=by
 by_cases g:s=t
 ·exact A0 rfl Ev (i g)
 ·exact A0 rfl Ev (h g)
theorem W_sneq(V:ev f x=AL s)(E:ev f y=AL t)(i:s≠t->AT P all Z K rest (upd f d (.bool true)) ds w)(h:s=t->AT P all Z K rest (upd f d (.bool false)) ds w):
  AT P all Z K (⟨some d,.binOp .neq xt x y yt,ty,pos,af,none⟩::rest) f ds w:=by
 by_cases g:s=t
 ·exact A0 rfl Ev (h g)
 ·exact A0 rfl Ev (i g)
theorem EB(V:ev f x=AL s)(E:ev f y=AL t)(i:s.length+t.length<=9223372036854775807)(h:AT P all Z K rest (upd f d (AL (s++t))) ds w):
  AT P all Z K (⟨some d,.binOp .add xt x y yt,ty,pos,af,none⟩::rest) f ds w:=by
 refine A0 rfl ?_ h
 have e:(⟨s.toArray⟩++⟨t.toArray⟩:ByteArray)=⟨(s++t).toArray⟩:=by
  apply ByteArray.ext;simp
 have g:(⟨s.toArray⟩:ByteArray).size=s.length:=by simp[ByteArray.size]
 have W:(⟨t.toArray⟩:ByteArray).size=t.length:=by simp[ByteArray.size]
 simp[execOp,V,E,eqGuard,binOp,Op.stringOp,g,W,e];omega
theorem W_sindex{i:Operand}{k:IntKind}{j:Int}{c:UInt8}[hT:StrT P xt](V:ev f x=AL s)(hi:ev f i=.int k j)(g:0<=j)(m:s[j.toNat]?=some c)(h:AT P all Z K rest (upd f d (enc8 c)) ds w):
  AT P all Z K (⟨some d,.index xt x i,ty,pos,af,none⟩::rest) f ds w:=by
 refine A0 rfl ?_ h;obtain⟨p,o⟩:=List.getElem?_eq_some_iff.1 m
 have e:(⟨s.toArray⟩:ByteArray)[j.toNat]?=some c:=by
  simp only[getElem?_def,ByteArray.size];simp[p];exact o
 simp[execOp,V,hi,Instr.index,asIntOf,run_underlying hT.out,g,e,enc8]
end
theorem AB{T i g:Nat}{m:TypeId}{x:Operand}{b o:Nat}[hT:Av P T i g m](V:ev f x=.pointer (some ⟨b,o,none⟩))(h:AT P all Z K rest (upd f d (.pointer (some ⟨b,o+g,none⟩))) ds w):
  AT P all Z K (⟨some d,.fieldAddr T x i,ty,pos,af,none⟩::rest) f ds w:=by
 obtain⟨u,r,p,W,R,B,j,q,S⟩:=hT.out;refine A0 rfl ?_ h;simp only[execOp,V,Instr.fieldAt,Sem.run_bind,run_underlying p,Result.andThen_ok,W,Instr.sureAddr,Sem.run_pure,fieldPlace,sizeOf,typeInfo,program];simp[Sem.run,B,q,S,R,Addr.add_lit]
theorem Bt{T e size bytes:Nat}{z:Value}{x i:Operand}{b o n c:Nat}{k:IntKind}{j:Int}[hT:SlT P T e size bytes z](V:ev f x=.slice (some ⟨b,o,none⟩) n c)(hi:ev f i=.int k j)
  (g:0<=j)(m:j<n)(h:AT P all Z K rest (upd f d (.pointer (some ⟨b,o+j.toNat*size,none⟩))) ds w):
  AT P all Z K (⟨some d,.indexAddr T x i,ty,pos,af,none⟩::rest) f ds w:=by
 obtain⟨q,p,_,F,_⟩:=hT.out;refine A0 rfl ?_ h;simp only[execOp,V,hi,Instr.indexAt,asIntOf,Sem.run_bind,Sem.run_pure,Result.andThen_ok,run_underlying hT.und,sizeOf,typeInfo,program];simp[Sem.run,p,F,g,m,Addr.add_lit]
theorem EH{T g e size:Nat}{x i:Operand}{b o:Nat}{k:IntKind}{j:Int}[hT:ArrT P T g e size](V:ev f x=.pointer (some ⟨b,o,none⟩))(hi:ev f i=.int k j)
  (m:0<=j)(p:j<g)(h:AT P all Z K rest (upd f d (.pointer (some ⟨b,o+j.toNat*size,none⟩))) ds w):
  AT P all Z K (⟨some d,.indexAddr T x i,ty,pos,af,none⟩::rest) f ds w:=by
 obtain⟨q,r,F⟩:=hT.out;refine A0 rfl ?_ h;simp only[execOp,V,hi,Instr.indexAt,asIntOf,Sem.run_bind,Sem.run_pure,Result.andThen_ok,run_underlying hT.und,sizeOf,typeInfo,program,Instr.sureAddr];simp[Sem.run,r,F,m,p,Addr.add_lit]
theorem CG{T e size bytes:Nat}{z:Value}{x i:Operand}{b o n c k:Nat}{Q:IntKind}{j:Int}[hT:SlT P T e size bytes z](V:ev f x=.slice (some ⟨b,o,none⟩) n c)(hi:ev f i=.int Q j)
  (g:j=(k:Int))(m:k<n)(h:AT P all Z K rest (upd f d (.pointer (some ⟨b,o+k*size,none⟩))) ds w):
  AT P all Z K (⟨some d,.indexAddr T x i,ty,pos,af,none⟩::rest) f ds w:=by
 subst g;exact Bt V hi U U Ed
theorem W_idx1{T e bytes:Nat}{z:Value}{x i:Operand}{b o n c k:Nat}{Q:IntKind}{j:Int}[hT:SlT P T e 1 bytes z](V:ev f x=.slice (some ⟨b,o,none⟩) n c)(hi:ev f i=.int Q j)
  (m:j=(k:Int))(g:k<n)(h:AT P all Z K rest (upd f d (.pointer (some ⟨b,o+k,none⟩))) ds w):
  AT P all Z K (⟨some d,.indexAddr T x i,ty,pos,af,none⟩::rest) f ds w:=
 CG V hi m g Ed
theorem DU{x:Operand}{vs:LV}{i:Nat}{v:Value}(V:ev f x=.tuple vs.toArray)(hi:vs[i]?=some v)(h:AT P all Z K rest (upd f d v) ds w):
  AT P all Z K (⟨some d,.extract x i,ty,pos,af,none⟩::rest) f ds w:=
 A0 rfl (by simp[execOp,V,Instr.extract,hi]) h
theorem evL_map(f:Fr):∀l:List Operand,evL f l=l.map (ev f)
 | []=>rfl
 |_::l=>by simp[evL,evL_map f l]
theorem Ag{g:FuncId}{xs:List Operand}{j:Array TypeId}{vs:LV}{R:Value->World->Prop}{Y:List PanicEntry->World->Prop}[hg:AM P g]
  (q:FnP P g vs w R Y)(D:evL f xs=vs)(h:∀v w',R v w'->AT P all Z K rest (upd f d v) ds w')(o:∀V w',Y V w'->Z f ds V w'):
  AT P all Z K (⟨some d,.call ⟨.value (.func g),xs.toArray,j⟩,ty,pos,af,none⟩::rest) f ds w:=by
 obtain⟨r,m,W,p⟩:=hg.out
 have G:(execOp (ev f) ⟨some d,.call ⟨.value (.func g),xs.toArray,j⟩,ty,pos,af,none⟩).run P w=.ok (.enter g vs.toArray) w:=by
  rw[evL_map]at D;simp only[execOp,resolve,ev,Deferred.ofValue,Sem.run_bind,Sem.run_pure,Result.andThen_ok,invoke,callFunc,program];simp[Sem.run,m,W,p,<-D]
 unfold AT;simp only[Bh,if_true,By,G];refine Calls.mono q fun e w' i=>?_;cases e with
 |returned v=>exact h v w' i
 |panicked V=>exact o V w' i
 |outgrown=>exact i
theorem AF{g:FuncId}{xs:List Operand}{i:Array TypeId}{vs:LV}{R:Value->World->Prop}[hg:AM P g]
  (j:Fn P g vs w R)(D:evL f xs=vs)(h:∀v w',R v w'->AT P all Z K rest (upd f d v) ds w'):
  AT P all Z K (⟨some d,.call ⟨.value (.func g),xs.toArray,i⟩,ty,pos,af,none⟩::rest) f ds w:=
 Ag j D h fun _ _ h=>h.elim
theorem Bi{x:Operand}{T e size bytes:Nat}{z:Value}{a:Option Addr}{n c:Nat}[hT:SlT P T e size bytes z](V:ev f x=.slice a n c)(h:AT P all Z K rest (upd f d (iV (n:Int))) ds w):
  AT P all Z K (⟨some d,.call ⟨.builtin .len,#[x],#[T]⟩,ty,pos,af,none⟩::rest) f ds w:=by
 refine A0 (v:=iV (n:Int)) rfl ?_ h;simp[execOp,resolve,invoke,builtin,Builtin.len_,V,run_underlying hT.und,goInt]
theorem Cz{x:Operand}{T:TypeId}{s:LU}[hT:StrT P T](V:ev f x=AL s)(h:AT P all Z K rest (upd f d (iV (s.length:Int))) ds w):
  AT P all Z K (⟨some d,.call ⟨.builtin .len,#[x],#[T]⟩,ty,pos,af,none⟩::rest) f ds w:=by
 refine A0 (v:=iV (s.length:Int)) rfl ?_ h;have g:(⟨s.toArray⟩:ByteArray).size=s.length:=rfl;simp[execOp,resolve,invoke,builtin,Builtin.len_,V,run_underlying hT.out,goInt,g]
section
variable {T e size bytes:Nat}{z:Value}{x lo hi:Operand}{a:Option Addr}{n c:Nat}{k k':IntKind}{l h':Int}
theorem W_slice_lh[hT:SlT P T e size bytes z](V:ev f x=.slice a n c)(i:ev f lo=.int k l)(M:ev f hi=.int k' h')(g:0<=l)(m:l<=h')(W:h'<=c)
  (h:AT P all Z K rest (upd f d (.slice (adv c l.toNat size a) (h'.toNat-l.toNat) (c-l.toNat))) ds w):
  AT P all Z K (⟨some d,.slice T x (some lo) (some hi) none,ty,pos,af,none⟩::rest) f ds w:=by
 obtain⟨q,j,_,F,_⟩:=hT.out;refine A0 rfl ?_ h;simp only[execOp,V,i,M,Option.map_some,Option.map_none,Instr.sliceAt,Sem.run_bind,run_underlying hT.und,Result.andThen_ok,Instr.slice,Instr.sliceBounds,Instr.sliceBound,asIntOf,Sem.run_pure,sizeOf,typeInfo,program];simp[Sem.run,j,F,g,show(0:Int)<=h' by omega,W,adv];intro o;omega
theorem W_slice_l[hT:SlT P T e size bytes z](V:ev f x=.slice a n c)(j:ev f lo=.int k l)(g:0<=l)(i:l<=n)
  (h:AT P all Z K rest (upd f d (.slice (adv c l.toNat size a) (n-l.toNat) (c-l.toNat))) ds w):
  AT P all Z K (⟨some d,.slice T x (some lo) none none,ty,pos,af,none⟩::rest) f ds w:=by
 obtain⟨q,m,_,F,_⟩:=hT.out;refine A0 rfl ?_ h;simp only[execOp,V,j,Option.map_some,Option.map_none,Instr.sliceAt,Sem.run_bind,run_underlying hT.und,Result.andThen_ok,Instr.slice,Instr.sliceBounds,Instr.sliceBound,asIntOf,Sem.run_pure,sizeOf,typeInfo,program];simp[Sem.run,m,F,g,i,adv]
theorem W_slice_h[hT:SlT P T e size bytes z](V:ev f x=.slice a n c)(M:ev f hi=.int k' h')(g:0<=h')(W:h'<=c)
  (h:AT P all Z K rest (upd f d (.slice a h'.toNat c)) ds w):
  AT P all Z K (⟨some d,.slice T x none (some hi) none,ty,pos,af,none⟩::rest) f ds w:=by
 obtain⟨q,i,_,F,_⟩:=hT.out;refine A0 rfl ?_ h;simp only[execOp,V,M,Option.map_some,Option.map_none,Instr.sliceAt,Sem.run_bind,run_underlying hT.und,Result.andThen_ok,Instr.slice,Instr.sliceBounds,Instr.sliceBound,asIntOf,Sem.run_pure,sizeOf,typeInfo,program]
 have e:(if c=0 then a else a.map fun(x:Addr)=>x.add 0)=a:=by
  split
  ·rfl
  ·cases a with
   |none=>rfl
   |some a=>simp[Addr.add]
 simp[Sem.run,i,F,g,W,e]
theorem W_slice_arr{g:Nat}{b o:Nat}[hT:ArrT P T g e size](V:ev f x=.pointer (some ⟨b,o,none⟩))(h:AT P all Z K rest (upd f d (.slice (some ⟨b,o,none⟩) g g)) ds w):
  AT P all Z K (⟨some d,.slice T x none none none,ty,pos,af,none⟩::rest) f ds w:=by
 obtain⟨q,i,F⟩:=hT.out;refine A0 rfl ?_ h;simp only[execOp,V,Option.map_none,Instr.sliceAt,Sem.run_bind,run_underlying hT.und,Result.andThen_ok,Instr.sureAddr,Instr.sliceBounds,Sem.run_pure,sizeOf,typeInfo,program];simp[Sem.run,i,F,Addr.add_lit]
end
end
section
variable {mk:Prop}[MK mk]
attribute [local semireducible] WC AT B6 BK Bz Cx DZ By
variable {P:Program}{all:Array Oper}{Z:Fr->DS->List PanicEntry->World->Prop}{K:Fr->DS->World->Prop}{rest:List Oper}{f:Fr}{ds:DS}{w:World}
 {d:Nat}{ty:TypeId}{pos:String}{af:Array Edge}
def oneC(cs:LV):Prop:=∀u∈cs,u.oneCell'=true
structure Apd(w w':World)(B:Nat)(e size:Nat)(v v':Value)(n:Nat)(xs:LV):Prop where
 own:w'.ownsRow B e size v' n xs
 E:Keep v.ownBlock.toList w w'
 D:v'.ownBlock=v.ownBlock\/v'.ownBlock=some w.heap.size
 some:n≠0->v'.ownBlock≠none
theorem own_some{w:World}{B e size:Nat}{v:Value}{n:Nat}{xs:LV}(h:w.ownsRow B e size v n xs)(I:n≠0):v.ownBlock≠none:=by
 rcases h.2 with⟨_,a⟩|⟨g,_,_,rfl,_⟩
 ·exact absurd a I
 ·simp[Value.ownBlock]
theorem run_append_sl{T e size D:Nat}{z:Value}(l:SlT P T e size D z)(a9:0<size)(b0:z.cells.size=size)(t:TypeId){B:Nat}{v sv:Value}{n m:Nat}{xs cs:LV}{ok:Nat->Prop}
  (y:w.ownsRow B e size v n xs)(hs:Sl ok w sv m cs)(h:cs.length=m*size)(h1:oneC cs)(s:n+m<=maxLen)(S:(n+m)*D<=140737488355328)(hB:B<=w.heap.size):
  ∃E w',(Builtin.append_ #[T,T] t #[v,sv]).run P w=.ok E w'/\Apd w w' B e size v E (n+m) (xs++cs):=by
 obtain⟨i,H,W,p,N⟩:=l.out;obtain⟨a,q,rfl,b1,_,a8,a6⟩:=hs;cases a with
 |none=>
  have a5:=a8 rfl;subst a5;obtain rfl:m=0:=by omega
  obtain rfl:cs=[]:=List.eq_nil_of_length_eq_zero Ed;have G:=run_append_owned_none (P:=P) w B T t e i size l.und H v n xs y;exact⟨v,w,G,by simpa using y,Keep.refl _ _,.inl rfl,fun I=>own_some y U⟩
 |some ad=>
  have C:∀j u,cs[j]?=some u->w.cell? (ad.add j)=some u:=by
   intro j u r;rcases a6 with M|⟨b,b5,he,_,hc⟩
   ·subst M;have:cs=[]:=List.eq_nil_of_length_eq_zero Ed;rw[this]at r;simp at r
   ·cases he;rw[Addr.add_lit];exact hc j u r
  obtain⟨E,w',G,A,hg,b2⟩:=run_append_own (P:=P) w B T t e i z size D l.und H W p N b0 a9 v n xs y ad m q cs h C h1 s S hB;have a1:((n+m:Nat):Int)<=9223372036854775807:=by simp only[maxLen]at s;omega
  have a3:∀o c,o=Obj.cells c e (0,0)->∀b,(b<w.heap.size->Unm w b)->Unm (w.drew.alloc o) b:=fun o c A=>mark_new O (fun k L=>heap_alloc_old w.drew o L) (Unm.cells (c:=c) (t:=e) (by rw[<-A];exact heap_alloc_new w.drew o))
  have X:(∀b,(b<w.heap.size->Unm w b)->Unm w' b)/\(E.ownBlock=v.ownBlock\/E.ownBlock=some w.heap.size)/\w.drawn<=w'.drawn:=by
   rcases y.2 with⟨rfl,rfl⟩|⟨g,F,a4,rfl,_,a0,b3,_,a7,b4⟩
   ·by_cases M:m=0
    ·subst M;have I:cs=[]:=List.eq_nil_of_length_eq_zero Ed;subst I
     have V:(Builtin.append_ #[T,T] t #[.slice none 0 0,.slice (some ad) 0 q]).run P w=.ok (.slice none 0 0) w:=by
      simp[Builtin.append_,run_underlying l.und,sizeOf,typeInfo,H,Builtin.lenOf,Builtin.firstCells,loadCells,loadCellsFrom]
     rw[G]at V;cases V;exact⟨mark_refl w,.inl rfl,Nat.le_refl _⟩
    ·have V:=run_append_nil (P:=P) w T t e i z l.und H W ad m q cs (by rw[p];exact h) C U (by simpa using a1) (by rw[N];have:=S;simp only[Nat.zero_add]at this;omega);rw[G]at V;cases V;exact⟨a3 _ _ rfl,.inr rfl,Nat.le_succ _⟩
   ·by_cases a2:n+m<=F
    ·have V:=run_append_room (P:=P) w T t e i l.und H g n F a4 a0 ad m q cs (by rw[p];exact h) C h1 a2 (by rw[h,a7,p,<-Nat.add_mul];exact Nat.mul_le_mul_right _ a2);rw[G]at V;cases V;exact⟨mark_put (g:=g) (by simp[World.setRow]) (fun k L=>setRow_other w g k _ L) (Unm.cells (setRow_heap w g _ _ e _ a0)),.inl rfl,Nat.le_refl _⟩
    ·have V:=run_append_grow (P:=P) w T t e i z l.und H W ⟨g,0,none⟩ n F xs (by rw[p];exact y.1) (fun j u r=>y.cells (g:=g) rfl j u r) ad m q cs (by rw[p];exact h) C U a1 (by rw[N];exact growslice_fits U S);rw[G]at V;cases V;exact⟨a3 _ _ rfl,.inr rfl,Nat.le_succ _⟩
  exact⟨E,w',G,A,Keep.of_grown hg X.2.2 (fun _=>X.1),X.2.1,fun I=>own_some A I⟩
theorem Ax{T e size j:Nat}{z:Value}{s x:Operand}{B n m:Nat}{v sv:Value}{xs cs:LV}{ok:Nat->Prop}[hT:SlT P T e size j z](p:ev f s=v)(V:ev f x=sv)
  (y:w.ownsRow B e size v n xs)(F:Sl ok w sv m cs)(g:0<size)(i:z.cells.size=size)(c:cs.length=m*size)(a:oneC cs)(k:n+m<=9223372036854775807)(S:(n+m)*j<=140737488355328)(b:B<=w.heap.size)
  (h:∀E w',Apd w w' B e size v E (n+m) (xs++cs)->AT P all Z K rest (upd f d E) ds w'):
  AT P all Z K (⟨some d,.call ⟨.builtin .append,#[s,x],#[T,T]⟩,ty,pos,af,none⟩::rest) f ds w:=by
 obtain⟨E,w',G,D⟩:=run_append_sl (P:=P) hT g i ty y F c a EW S b;refine A0 (v:=E) (w':=w') rfl ?_ (h E w' D);simp[execOp,resolve,invoke,builtin,p,V,G]
theorem W_make{T e size j:Nat}{z:Value}{l c:Operand}{k E:IntKind}{n:Nat}{N M:Int}[hT:SlT P T e size j z](m:ev f l=.int k N)(g:ev f c=.int E M)(S:N=(n:Int))(A:M=(n:Int))(r:j*n<=281474976710656)(s:n<=maxLen)
  (h:∀w',New w w' e (madeCells z.cells (n*size)).toList->AT P all Z K rest (upd f d (.slice (sm w.heap.size) n n)) ds w'):
  AT P all Z K (⟨some d,.makeSlice T l c,ty,pos,af,none⟩::rest) f ds w:=by
 subst S;subst A;obtain⟨i,H,o,q,b⟩:=hT.out;have p:(n:Int)<=9223372036854775807:=by simp only[maxLen]at s;omega
 have a:(i.bytes:Int)*(n:Int)<=281474976710656:=by
  rw[b];have h:((j*n:Nat):Int)<=281474976710656:=by omega
  rwa [Int.natCast_mul]at h
 have G:=run_make (P:=P) w T e i z hT.und H o k E n n U (Int.le_refl _) a p;refine A0 (v:=.slice (sm w.heap.size) n n) (w':=w.alloc (.cells (madeCells z.cells (n*size)).toList.toArray e)) rfl ?_ (h _ (New.mk_alloc w _ e));simp[execOp,m,g,G,q]
theorem AI{T A n:Nat}{a x:Operand}{b o:Nat}{cs L:LV}[hT:B8 P T n](D:ev f a=.pointer (some ⟨b,o,none⟩))(V:ev f x=.agg cs.toArray)(I:cs.length=n)(j:oneC cs)
  (S:Blk w b A L)(l:o+n<=L.length)(h:∀w',Put w w' b A (splice L o cs)->AT P all Z K rest f ds w'):
  AT P all Z K (⟨none,.store T a x,ty,pos,af,none⟩::rest) f ds w:=by
 obtain⟨i,H,F⟩:=hT.out;have c:w.heap[b]?=some (.cells L.toArray A (0,0)):=S;have X:=run_storeCells_at P b o A cs 0 L.toArray w c EP j;simp only[Nat.add_zero]at X;refine W_skp (w':=w.setRow b (splice L o cs).toArray) rfl ?_ (h _ ⟨⟨rfl,rfl,rfl,by simp[World.setRow],fun k _ e=>setRow_other w b k _ (by simpa using e),fun _=>mark_put (g:=b) (by simp[World.setRow]) (fun k e=>setRow_other w b k _ e) (Unm.cells (setRow_heap w b _ _ A _ c)),Nat.le_refl _⟩,by simp[World.setRow],setRow_heap w b _ _ A _ c⟩);simp only[execOp,D,V,Instr.storeAt,Instr.sureAddr,storeVar,Sem.run_bind,Sem.run_pure,Result.andThen_ok,sizeOf,typeInfo,program,Value.cells];simp[Sem.run,H,F,I];rw[X];simp[splice]
class StT (P:Program) (T:TypeId) (places:outParam (List (Nat×Nat))) (zero:outParam (LV)):Prop where
 out:∃fs i z,P.underlying T=some (.struct fs)/\P.info? T=some i/\i.zero=some z/\z.cells=zero.toArray/\
  ∀w,(fs.mapM (m:=Sem) fun f=>do pure (f.offset,<-sizeOf f.type)).run P w=.ok places.toArray w
def fillL(a:Nat->Option (Nat×Nat))(A:LV):List (Nat×Value)->Option (LV)
 | []=>some A
 |(i,v)::rest=>
  match a i with
  |none=>none
  |some (off,size)=>if v.cells.size=size/\off+size<=A.length then fillL a (splice A off v.cells.toList) rest else none
theorem foldl_set(cs:LV):∀(k b:Nat)(A:Array Value),b+k+cs.length<=A.size->
  (cs.zipIdx k).foldl (fun(a:Array Value)(p:Value×Nat)=>a.setIfInBounds (b+p.2) p.1) A=(splice A.toList (b+k) cs).toArray:=by
 induction cs with
 |nil=>intro k b A _;simp[splice]
 |cons c cs ih=>
  intro k b A h;simp only[List.zipIdx_cons,List.foldl_cons];simp only[List.length_cons]at h;rw[ih (k+1) b _ EP]
  congr 1
  simp only[splice,Array.toList_setIfInBounds,List.length_cons];have e:b+(k+1)=b+k+1:=by omega
  rw[e,List.take_set,List.drop_set,if_pos U];rw[List.take_succ_eq_append_getElem EP];rw[List.set_append_right _ _ EP];have I:b+k-min (b+k) A.size=0:=by omega
  have g:b+k+1+cs.length=b+k+(cs.length+1):=by omega
  simp[I,g]
theorem fill_of_fillL(a:Nat->Option (Nat×Nat)):∀(parts:List (Nat×Value))(A out:LV),fillL a A parts=some out->Instr.fill a A.toArray parts=some out.toArray
 | [],A,out,h=>by simp only[fillL,Option.some.injEq]at h;subst h;rfl
 |(i,v)::rest,A,out,h=>by
  simp only[fillL]at h;simp only[Instr.fill];cases hp:a i with
  |none=>simp[hp]at h
  |some p=>
   obtain⟨k,F⟩:=p;simp only[hp]at h
   split at h
   ·rename_i hc;obtain⟨e,W⟩:=hc
    have b:(v.cells.size≠F||decide (k+v.cells.size>A.toArray.size))=false:=by
     simp[e];omega
    simp only[b,Bool.false_eq_true,if_false]
    have g:v.cells.zipIdx.foldl (fun cs(x:Value×Nat)=>match x with|(c,j)=>cs.setIfInBounds (k+j) c) A.toArray=(splice A k v.cells.toList).toArray:=by
     rw[<-Array.foldl_toList];have:=foldl_set v.cells.toList 0 k A.toArray EP;simpa using this
    rw[g];exact fill_of_fillL a rest _ _ h
   ·cases h
def evP(f:Fr):List (Nat×Operand)->List (Nat×Value)
 | []=>[]
 |(i,x)::l=>(i,ev f x)::evP f l
theorem evP_map(f:Fr):∀l:List (Nat×Operand),evP f l=l.map fun p=>(p.1,ev f p.2)
 | []=>rfl
 |(i,x)::l=>by simp[evP,evP_map f l]
theorem BO{T:TypeId}{parts:List (Nat×Operand)}{vs:List (Nat×Value)}{D:List (Nat×Nat)}{zero out:LV}[hT:StT P T D zero](p:evP f parts=vs)(a:fillL (fun i=>D[i]?) zero vs=some out)
  (h:AT P all Z K rest (upd f d (.agg out.toArray)) ds w):AT P all Z K (⟨some d,.build T parts.toArray,ty,pos,af,none⟩::rest) f ds w:=by
 obtain⟨k,i,z,b,W,c,B,g⟩:=hT.out;refine A0 rfl ?_ h;rw[evP_map]at p;have j:=fill_of_fillL _ _ _ _ a;have o:(zeroValue T).run P w=.ok z w:=by simp[zeroValue,typeInfo,W,c]
 have e:Array.map (fun(x:Nat×Operand)=>match x with|(i,x)=>(i,ev f x)) parts.toArray=vs.toArray:=by
  rw[<-p];simp
 simp only[execOp,e,Instr.build,Sem.run_bind,o,Result.andThen_ok,run_underlying b,B];rw[g w];simp only[Result.andThen_ok];have r:(fun i:Nat=>D.toArray[i]?)=fun i=>D[i]?:=by funext i;simp
 rw[r,j];simp
theorem W_buildArr{T l e size:Nat}{parts:List (Nat×Operand)}{vs:List (Nat×Value)}{zero out:LV}[hT:ArrT P T l e size][hZ:CP P T zero](p:evP f parts=vs)(a:fillL (fun i=>some (i*size,size)) zero vs=some out)
  (h:AT P all Z K rest (upd f d (.agg out.toArray)) ds w):AT P all Z K (⟨some d,.build T parts.toArray,ty,pos,af,none⟩::rest) f ds w:=by
 obtain⟨j,c,F⟩:=hT.out;obtain⟨z,o,s⟩:=run_zero (P:=P) (T:=T) w;refine A0 rfl ?_ h;rw[evP_map]at p;have b:=fill_of_fillL _ _ _ _ a
 have e:Array.map (fun(x:Nat×Operand)=>match x with|(i,x)=>(i,ev f x)) parts.toArray=vs.toArray:=by
  rw[<-p];simp
 simp only[execOp,e,Instr.build,Sem.run_bind,o,Result.andThen_ok,run_underlying hT.und,s,sizeOf,typeInfo,program];simp[Sem.run,c,F,b]
theorem AP{T e size k n:Nat}{z:Value}{parts:List (Nat×Operand)}{vs:List (Nat×Value)}{out:LV}[hT:SlT P T e size k z](p:evP f parts=vs)(I:n*size<=16777216)
  (a:fillL (fun i=>some (i*size,size)) (madeCells z.cells (n*size)).toList vs=some out)
  (h:∀w',New w w' e out->AT P all Z K rest (upd f d (.slice (sm w.heap.size) n n)) ds w'):AT P all Z K (⟨some d,.buildSlice T n parts.toArray,ty,pos,af,none⟩::rest) f ds w:=by
 obtain⟨i,H,o,g,E⟩:=hT.out;refine A0 (v:=.slice (sm w.heap.size) n n) (w':=w.alloc (.cells out.toArray e)) rfl ?_ (h _ (New.mk_alloc w _ e));rw[evP_map]at p;have b:=fill_of_fillL _ _ _ _ a
 have l:Array.map (fun(x:Nat×Operand)=>match x with|(i,x)=>(i,ev f x)) parts.toArray=vs.toArray:=by
  rw[<-p];simp
 have q:¬(16777216<n*size):=by omega
 have m:(madeCells z.cells (n*size)).toList.toArray=(Array.range (n*size)).map (fun j=>z.cells[j%z.cells.size]!):=by rw[Array.toArray_toList];rfl
 rw[m]at b;simp only[execOp,l,Instr.buildSlice,Sem.run_bind,run_underlying hT.und,Result.andThen_ok,sizeOf,typeInfo,program];by_cases c:n*size=0
 ·simp[c,Array.range_zero']at b;simp[Sem.run,H,g,c,Array.range_zero',b,newRow,newObj]
 ·simp[Sem.run,H,g,c,q,o,zeroValue,typeInfo,b,newRow,newObj]
theorem D6{T e j n:Nat}{z:Value}{parts:List (Nat×Operand)}{vs:List (Nat×Value)}{out:LV}[hT:SlT P T e 1 j z](o:z.cells= #[z])(I:n<=16777216)(p:evP f parts=vs)
  (a:fillL (fun i=>some (i,1)) (List.replicate n z) vs=some out)
  (h:∀w',New w w' e out->AT P all Z K rest (upd f d (.slice (sm w.heap.size) n n)) ds w'):AT P all Z K (⟨some d,.buildSlice T n parts.toArray,ty,pos,af,none⟩::rest) f ds w:=by
 refine AP p U ?_ h;rw[o,Nat.mul_one,toList_madeCells_one];have e:(fun i:Nat=>some (i*1,1))=fun i=>some (i,1):=by funext i;rw[Nat.mul_one]
 rw[e];exact a
theorem EC{g:FuncId}{B a:List Operand}{v1 v2:LV}(b:evL f B=v1)(W:evL f a=v2)(h:AT P all Z K rest (upd f d (.func (.func g) v1.toArray v2.toArray)) ds w):
  AT P all Z K (⟨some d,.makeFunc (.func g) B.toArray a.toArray,ty,pos,af,none⟩::rest) f ds w:=by
 refine A0 rfl ?_ h;rw[evL_map]at b W;simp[execOp,Instr.makeFunc,<-b,<-W]
theorem Cs{g:FuncId}{t:Nat}{xs:List Operand}{k:Array TypeId}{vs v1 v2:LV}{R:Value->World->Prop}{Y:List PanicEntry->World->Prop}[hg:AM P g]
  (i:f t=.func (.func g) v1.toArray v2.toArray)(T:FnP P g (v1++vs++v2) w R Y)(D:evL f xs=vs)(h:∀v w',R v w'->AT P all Z K rest (upd f d v) ds w')(o:∀V w',Y V w'->Z f ds V w'):
  AT P all Z K (⟨some d,.call ⟨.value (.tmp t),xs.toArray,k⟩,ty,pos,af,none⟩::rest) f ds w:=by
 obtain⟨fn,b,W,c⟩:=hg.out
 have G:(execOp (ev f) ⟨some d,.call ⟨.value (.tmp t),xs.toArray,k⟩,ty,pos,af,none⟩).run P w=.ok (.enter g (v1++vs++v2).toArray) w:=by
  rw[evL_map]at D;simp only[execOp,resolve,ev,i,Deferred.ofValue,Sem.run_bind,Sem.run_pure,Result.andThen_ok,invoke,callFunc,program];simp[Sem.run,b,W,c,<-D]
 unfold AT;simp only[Bh,if_true,By,G];refine Calls.mono T fun e w' a=>?_;cases e with
 |returned v=>exact h v w' a
 |panicked V=>exact o V w' a
 |outgrown=>exact a
theorem A9{g:FuncId}{t:Nat}{xs:List Operand}{k:Array TypeId}{vs v1 v2:LV}{R:Value->World->Prop}[hg:AM P g]
  (a:f t=.func (.func g) v1.toArray v2.toArray)(T:Fn P g (v1++vs++v2) w R)(D:evL f xs=vs)(h:∀v w',R v w'->AT P all Z K rest (upd f d v) ds w'):
  AT P all Z K (⟨some d,.call ⟨.value (.tmp t),xs.toArray,k⟩,ty,pos,af,none⟩::rest) f ds w:=
 Cs a T D h fun _ _ h=>h.elim
theorem AN{g:FuncId}{fn:Func}{c:Code}{args:LV}{R:Value->World->Prop}(a:P.funcs[g]?=some fn)(S:fn.body=some c){n:Nat}(I:fn.ntmps=n)(h:WC P ⟨n,none⟩ c (Cx P fn R fun _ _=>False) (argF args) [] w)(b:args.length<=n:=by exact Nat.le_of_ble_eq_true rfl)(p:Co n false c=true:=by kernel_rfl):Fn P g args w R:=Az a S I b p h
section
variable {fn:Func}{R:Value->World->Prop}{Y:List PanicEntry->World->Prop}{t u v:Nat}
theorem fin_ret0(G:fn.results.toList=[])(h:R (.tuple #[]) w):Cx P fn R Y .ret f [] w:=⟨rfl,by rw[G];exact h⟩
theorem A1(G:fn.results.toList=[])(h:R (.tuple #[]) w):Cx P fn R Y .normal f [] w:=⟨rfl,by rw[G];exact h⟩
theorem AC(G:fn.results.toList=[.tmp t])(h:R (f t) w):Cx P fn R Y .ret f [] w:=⟨rfl,by rw[G];exact h⟩
theorem BP(G:fn.results.toList=[.tmp t,.tmp u])(h:R (.tuple #[f t,f u]) w):Cx P fn R Y .ret f [] w:=⟨rfl,by rw[G];exact h⟩
theorem Bl(G:fn.results.toList=[.tmp t,.tmp u,.tmp v])(h:R (.tuple #[f t,f u,f v]) w):Cx P fn R Y .ret f [] w:=⟨rfl,by rw[G];exact h⟩
theorem D9{T n b o:Nat}{L:LV}(m:AggT P T n)(h:L.length=n)(c:Cells w b o L):(loadVar T ⟨b,o,none⟩).run P w=.ok (.agg L.toArray) w:=by
 obtain⟨⟨F,a,W⟩,i,H,k⟩:=m.out
 have e:(isAgg T).run P w=.ok true w:=by
  simp only[isAgg,Sem.run_bind,run_underlying a,Result.andThen_ok];cases F<;>simp_all [aggD]
 have G:=run_loadCells_list (P:=P) w ⟨b,o,none⟩ L (fun j v g=>by rw[Addr.add_lit];exact c j v g);rw[h,<-k]at G;simp only[loadVar,Sem.run_bind,Result.andThen_ok,e,if_true,sizeOf,typeInfo,program];simp[Sem.run,H,G]
theorem AW{T n b o:Nat}{L:LV}[hT:AggT P T n](G:fn.results.toList=[.cell t T])(D:f t=.pointer (some ⟨b,o,none⟩))(c:L.length=n)(a:Cells w b o L)(h:R (.agg L.toArray) w):Cx P fn R Y .ret f [] w:=
 ⟨rfl,by rw[G];exact⟨_,_,D,D9 hT c a,h⟩⟩
theorem BB{T n b o:Nat}{L:LV}[hT:AggT P T n](G:fn.results.toList=[.cell t T,.tmp u])(D:f t=.pointer (some ⟨b,o,none⟩))(c:L.length=n)(a:Cells w b o L)(h:R (.tuple #[.agg L.toArray,f u]) w):Cx P fn R Y .ret f [] w:=
 ⟨rfl,by rw[G];exact⟨_,_,D,D9 hT c a,h⟩⟩
end
variable {n:Cf}{Q:DD}
theorem C_seq{a b:Code}(h:WC P n a (B6 (WC P n b Q) Q) f ds w):WC P n (.seq a b) Q f ds w:=h
theorem C_block{id:Nat}{c:Code}(h:WC P n c (BK id Q) f ds w):WC P n (.block id c) Q f ds w:=h
theorem C_scope{c:Code}(h:WC P n c (Bz Q) f ds w):WC P n (.scope c) Q f ds w:=h
theorem AJ{id:Nat}{ops:List Oper}(h:AT P ops.toArray (fun f ds V w=>Q (.panic V) f ds w) (Q .normal) ops f ds w):WC P n (.region id ops.toArray false) Q f ds w:=h
theorem C_skip(h:Q .normal f ds w):WC P n .skip Q f ds w:=h
theorem C_label{l:Nat}(h:Q .normal f ds w):WC P n (.label l) Q f ds w:=h
theorem C_ret(h:Q .ret f ds w):WC P n .ret Q f ds w:=h
theorem C_exit{id:Nat}(h:Q (.exit id) f ds w):WC P n (.exit id) Q f ds w:=h
theorem C_cond_t{c:Operand}{x y:Code}(T:ev f c=.bool true)(h:WC P n x Q f ds w):WC P n (.cond c x y) Q f ds w:=by
 simp only[WC,T,if_true];exact h
theorem C_cond_f{c:Operand}{x y:Code}(T:ev f c=.bool false)(h:WC P n y Q f ds w):WC P n (.cond c x y) Q f ds w:=by
 simp only[WC,T,Bool.false_eq_true,if_false];exact h
theorem Q_then{k:Fr->DS->World->Prop}(h:k f ds w):B6 k Q .normal f ds w:=h
theorem Q_then_ret{k:Fr->DS->World->Prop}(h:Q .ret f ds w):B6 k Q .ret f ds w:=h
theorem Q_then_exit{k:Fr->DS->World->Prop}{i:Nat}(h:Q (.exit i) f ds w):B6 k Q (.exit i) f ds w:=h
theorem Q_then_panic{k:Fr->DS->World->Prop}{c:List PanicEntry}(h:Q (.panic c) f ds w):B6 k Q (.panic c) f ds w:=h
theorem Q_block{id:Nat}(h:Q .normal f ds w):BK id Q .normal f ds w:=h
theorem Q_block_ret{id:Nat}(h:Q .ret f ds w):BK id Q .ret f ds w:=h
theorem Q_block_panic{id:Nat}{c:List PanicEntry}(h:Q (.panic c) f ds w):BK id Q (.panic c) f ds w:=h
theorem Q_block_here{id:Nat}(h:Q .normal f ds w):BK id Q (.exit id) f ds w:=by simp only[BK,if_true];exact h
theorem Q_block_on{id i:Nat}(H:Nat.beq i id=false)(h:Q (.exit i) f ds w):BK id Q (.exit i) f ds w:=by
 have:¬i=id:=fun e=>by subst e;simp at H
 simp only[BK,if_neg this];exact h
theorem Ar{α:Type}(L:α->List (Nat×Value))(I:α->World->Prop)(μ:α->Nat)(a:α){c:Code}(e:agr (L a) f)(z:I a w)
  (G:∀x w l,I x w->WC P n c (B6 (fun r q i=>∃y,(q=ds/\agr (L y) r/\I y i)/\μ y<μ x) Q) (ov (L x) l) ds w):WC P n (.loop c) Q f ds w:=by
 refine⟨α,fun x f b w=>b=ds/\agr (L x) f/\I x w,μ,a,⟨rfl,e,z⟩,?_⟩;rintro x f b w⟨rfl,g,W⟩;have h:=G x w f W;rw[ov_of_agr g]at h;exact h
section
variable {x:Operand}
theorem AS{k:IntKind}{a:Int}(V:ev f x=.int k a)(h:AT P all Z K rest (upd f d (.int k a)) ds w):AT P all Z K (⟨some d,.move x,ty,pos,af,none⟩::rest) f ds w:=Cq Ek
theorem Ay{a:Option Addr}{l c:Nat}(V:ev f x=.slice a l c)(h:AT P all Z K rest (upd f d (.slice a l c)) ds w):AT P all Z K (⟨some d,.move x,ty,pos,af,none⟩::rest) f ds w:=Cq Ek
theorem AX{a:Option Addr}(V:ev f x=.pointer a)(h:AT P all Z K rest (upd f d (.pointer a)) ds w):AT P all Z K (⟨some d,.move x,ty,pos,af,none⟩::rest) f ds w:=Cq Ek
theorem AE{b:Bool}(V:ev f x=.bool b)(h:AT P all Z K rest (upd f d (.bool b)) ds w):AT P all Z K (⟨some d,.move x,ty,pos,af,none⟩::rest) f ds w:=Cq Ek
theorem BC{s:ByteArray}(V:ev f x=.string s)(h:AT P all Z K rest (upd f d (.string s)) ds w):AT P all Z K (⟨some d,.move x,ty,pos,af,none⟩::rest) f ds w:=Cq Ek
theorem M_tuple{c:Array Value}(V:ev f x=.tuple c)(h:AT P all Z K rest (upd f d (.tuple c)) ds w):AT P all Z K (⟨some d,.move x,ty,pos,af,none⟩::rest) f ds w:=Cq Ek
theorem M_agg{c:Array Value}(V:ev f x=.agg c)(h:AT P all Z K rest (upd f d (.agg c)) ds w):AT P all Z K (⟨some d,.move x,ty,pos,af,none⟩::rest) f ds w:=Cq Ek
theorem M_func{g:Go.Fn}{a b:Array Value}(V:ev f x=.func g a b)(h:AT P all Z K rest (upd f d (.func g a b)) ds w):AT P all Z K (⟨some d,.move x,ty,pos,af,none⟩::rest) f ds w:=Cq Ek
theorem M_map{r:Option Nat}(V:ev f x=.map r)(h:AT P all Z K rest (upd f d (.map r)) ds w):AT P all Z K (⟨some d,.move x,ty,pos,af,none⟩::rest) f ds w:=Cq Ek
theorem AO(h:AT P all Z K (⟨some d,.move x,ty,pos,af,none⟩::rest) f ds w):AT P all Z K (⟨some d,.assign x,ty,pos,af,none⟩::rest) f ds w:=h
theorem Ae{c y:Operand}(T:ev f c=.bool true)(h:AT P all Z K (⟨some d,.move x,ty,pos,af,none⟩::rest) f ds w):AT P all Z K (⟨some d,.pick c x y,ty,pos,af,none⟩::rest) f ds w:=
 W_pick_t T (by simpa[AT,Bh,By,execOp,putF]using h)
theorem Ad{c y:Operand}(T:ev f c=.bool false)(h:AT P all Z K (⟨some d,.move x,ty,pos,af,none⟩::rest) f ds w):AT P all Z K (⟨some d,.pick c y x,ty,pos,af,none⟩::rest) f ds w:=
 W_pick_f T (by simpa[AT,Bh,By,execOp,putF]using h)
end
end
section
variable {mk:Prop}[MK mk]
attribute [local semireducible] WC AT B6 BK Bz Cx DZ By
variable {P:Program}{ops:Array Oper}{n:Nat}{rr:Option Nat}{Q:Exit->Act->World->Prop}{S:World->Prop}
def SemOk(rr:Option Nat)(ops:Array Oper):Prop:=∀(j:Nat)(o:Oper),ops[j]?=some o->∀ρ,Oper.semAt rr ρ o=execOp ρ o
def YR(P:Program)(ops:Array Oper)(S:World->Prop)(o:Oper)(v:Value)(a:Act):Prop:=
 (Region.wanted o (yielded ops a.tmps)=true/\∀w,S w->(execOp a.eval o).run P w=.ok (.value v) w\/((execOp a.eval o).run P w=.ok .skip w/\v=undef)\/
  (∃g h c,(execOp a.eval o).run P w=.ok (.enter g h) c/\Calls P g h c (fun e X=>e=.returned v/\X=w))\/
  ∃l g C p body c,(execOp a.eval o).run P w=.ok (.round l g C p body) c/\RoundIn Fence.wide 0 P l g C p body c (fun e X=>e=.returned v/\X=w))\/
 (Region.wanted o (yielded ops a.tmps)=false/\v=undef)
theorem YR.same{o:Oper}{v:Value}{a c:Act}(E:YR P ops S o v a)(h:execOp c.eval o=execOp a.eval o)
  (e:Region.wanted o (yielded ops c.tmps)=Region.wanted o (yielded ops a.tmps)):YR P ops S o v c:=by
 unfold YR at*
 rw[h,e];exact E
theorem rnd_depth{rr:Option Nat}:(rnd rr).depth.isSome=true->1<=0:=fun M=>by simp[rnd,Fence.wide]at M
theorem YR.wpOp{i:Nat}{o:Oper}{v:Value}{a:Act}{w:World}(z:SemOk rr ops)(H:ops[i]?=some o)(E:YR P ops S o v a)(s:S w){K:Act->World->Prop}(h:K (a.put o.dst v) w):wpOpIn (rnd rr) 0 P ops Q i K a w:=by
 unfold Go.wpOpIn;simp only[H];rcases E with⟨j,A⟩|⟨j,rfl⟩
 ·simp only[j,if_true];refine⟨fun _ _=>trivial,?_⟩;have u:(rnd rr).round=rr:=rfl;rw[u,z i o H];rcases A w s with G|⟨G,rfl⟩|⟨g,q,m,G,T⟩|⟨l,g,C,p,body,m,G,T⟩
  ·rw[G];exact h
  ·rw[G];exact h
  ·rw[G];refine⟨rnd_depth,?_⟩;have T:CallsIn Fence.wide (0-1) P g q m _:=callsIn_wide.2 T;refine CallsIn.mono (F:=rnd rr) T fun e X c=>?_;obtain⟨rfl,rfl⟩:=c;exact h
  ·rw[G];have T:RoundIn (rnd rr) (0-1) P l g C p body m _:=T;refine⟨rnd_depth,RoundIn.mono T fun e X c=>?_⟩;obtain⟨rfl,rfl⟩:=c;exact h
 ·simp only[j,Bool.false_eq_true,if_false];exact⟨fun _ _=>trivial,h⟩
theorem wpOp_later{j:Nat}{p q:Oper}{v:Value}(X:SemOk rr ops)(T:ops[j]?=some q)(H:p.apart ops q=true)
  (N:∀cs b,p.op≠ .select cs b)(V:∀cs b,q.op≠ .select cs b)
  (z:∀c a w,Q (.panic c) (a.put p.dst v) w->Q (.panic c) a w){K:Act->World->Prop}{a:Act}{w:World}
  (E:YR P ops S p v a)(h:wpOpIn (rnd rr) 0 P ops Q j K (a.put p.dst v) w):
  wpOpIn (rnd rr) 0 P ops Q j (fun B w'=>YR P ops S p v B/\K (B.put p.dst v) w') a w:=by
 obtain⟨D,W,R⟩:=Oper.apart_spec H;have a1:∀(b:Act),YR P ops S p v b->∀u,YR P ops S p v (b.put q.dst u):=fun b A u=>A.same (execOp_put p N b q.dst u R) (wanted_put p b q.dst u R)
 have swap:∀(b:Act)(u:Value)w',YR P ops S p v b->K ((b.put p.dst v).put q.dst u) w'->YR P ops S p v (b.put q.dst u)/\K ((b.put q.dst u).put p.dst v) w':=fun b u w' A M=>
  ⟨a1 b A u,by rw[<-Act.put_comm b v u W];exact M⟩
 have a0:=wanted_put (ops:=ops) q a p.dst v D;have I:=execOp_put (ops:=ops) q V a p.dst v D;unfold wpOpIn at h⊢;simp only[T,a0]at h⊢;by_cases G:Region.wanted q (yielded ops a.tmps)=true
 ·simp only[G,if_true]at h⊢;refine⟨fun _ _=>trivial,?_⟩;have h:=h.2;have F:(rnd rr).round=rr:=rfl;rw[F,X j q T]at h⊢;rw[I]at h;revert h;generalize (execOp a.eval q).run P w=r;intro h;cases r with
  |halt x w'=>cases x<;>first|exact h.elim|exact z _ _ _ h
  |ok m w'=>
   cases m with
   |value u=>exact swap a u w' E h
   |skip=>exact swap a undef w' E h
   |defer d=>
    have C:YR P ops S p v {a with defers:=d::a.defers}:=E.same rfl rfl;refine swap _ undef w' C ?_;rw[<-Act.put_defers];exact h
   |enter g args=>
    refine⟨rnd_depth,CallsIn.mono h.2 fun e L s=>?_⟩;cases e with
    |returned u=>exact swap a u L E s
    |panicked c=>exact z _ _ _ s
    |outgrown=>exact s
   |row r args=>exact⟨h.1,RowsIn.mono h.2 (fun u L s=>swap a u L E s)⟩
   |round l g tmps assign body=>
    refine⟨rnd_depth,RoundIn.mono h.2 fun e L s=>?_⟩;cases e with
    |returned u=>exact swap a u L E s
    |panicked c=>exact z _ _ _ s
    |outgrown=>exact s
   |_=>exact h.elim
 ·simp only[G]at h⊢;exact⟨fun _ _=>trivial,swap a undef w E h.2⟩
def wpT(rr:Option Nat)(P:Program)(ops:Array Oper)(Q:Exit->Act->World->Prop)(S:World->Prop):Nat->Array Bool->Act->World->Prop
 |0,listed,a,w=>Region.ready .any ops listed=[]/\Q .normal a w
 |fuel+1,listed,a,w=>(Region.ready .any ops listed=[]->Q .normal a w)/\
  ∀i∈Region.ready .any ops listed,wpOpIn (rnd rr) 0 P ops Q i (fun c X=>S X/\wpT rr P ops Q S fuel (listed.setIfInBounds i true) c X) a w
theorem wpT_any:∀(X:Nat)(G:Array Bool)(a:Act)(w:World),wpT rr P ops Q S X G a w->wpAnyIn (rnd rr) 0 P .any ops Q X G a w
 |0,_,_,_,h=>h
 |X+1,_,_,_,h=>⟨h.1,fun i H=>wpOpIn_mono (fun c e T=>wpT_any X _ c e T.2) (h.2 i H)⟩
theorem wpT_mono{F:World->Prop}(c:∀w,F w->S w):∀(X:Nat)(G:Array Bool)(a:Act)(w:World),wpT rr P ops Q F X G a w->wpT rr P ops Q S X G a w
 |0,_,_,_,h=>h
 |X+1,_,_,_,h=>⟨h.1,fun i H=>wpOpIn_mono (fun j e T=>⟨c e T.1,wpT_mono c X _ j e T.2⟩) (h.2 i H)⟩
theorem wpT_first{i:Nat}{s:Oper}{v:Value}(z:SemOk rr ops)(u:ops[i]?=some s)(F:∀(j:Nat)(o:Oper)cs b,ops[j]?=some o->o.op≠ .select cs b)
  (hQ:∀c a w,Q (.panic c) (a.put s.dst v) w->Q (.panic c) a w):∀(X:Nat)(G:Array Bool)(a:Act)(w:World),
   (∀j q,ops[j]?=some q->j≠i->G.getD j true=false->(∀e∈q.after,Region.binds .any e=true->e.on≠i)->s.apart ops q=true)->
   i∈Region.ready .any ops G->YR P ops S s v a->S w->
   wpT rr P ops Q S X (G.setIfInBounds i true) (a.put s.dst v) w->wpT rr P ops Q S (X+1) G a w:=by
 intro X
 induction X with
 |zero=>
  intro G a w _ p E l H;refine⟨fun h=>(by rw[h]at p;cases p),fun j T=>?_⟩;by_cases C:j=i
  ·subst C;exact E.wpOp z u l ⟨l,H⟩
  ·have:=ready_mono T C;rw[H.1]at this;cases this
 |succ X ih=>
  intro G a w M p E l H;refine⟨fun h=>(by rw[h]at p;cases p),fun j T=>?_⟩;by_cases C:j=i
  ·subst C;exact E.wpOp z u l ⟨l,H⟩
  ·have V:=H.2 j (ready_mono T C);obtain⟨L,q,m,a0⟩:=mem_ready.1 T;have A:=(mem_ready.1 p).1
   have a4:∀e∈q.after,Region.binds .any e=true->e.on≠i:=by
    intro e he hb a1;have W:=a0 e he hb;rw[a1]at W;by_cases D:i<G.size
    ·simp[D]at A W;rw[A]at W;cases W
    ·simp[Array.getElem?_eq_none (Nat.le_of_not_lt D)]at W
   have W:=wpOp_later z m (M j q m C L a4) (fun cs b=>F i s cs b u) (fun cs b=>F j q cs b m) hQ E V;refine wpOpIn_mono (fun N w' R=>⟨R.2.1,?_⟩) W;refine ih (G.setIfInBounds j true) N w' ?_ (ready_mono p (Ne.symm C)) R.1 R.2.1 ?_
   ·intro k ok hk a2 I a3;refine M k ok hk a2 ?_ a3;by_cases B:j=k
    ·subst B;exact L
    ·rw[getD_set_ne true B]at I;exact I
   ·rw[Array.setIfInBounds_comm _ _ C];exact R.2.2
inductive DT where
 |done
 |stop
 |read (i:Nat) (t:DT)
 |alt (i:Nat) (t r:DT)
def DT.heads:DT->List Nat
 | .alt i _ r=>i::r.heads
 |_=>[]
def Dt(ops:Array Oper):DT->Nat->Array Bool->Bool->Bool
 | .done,n,listed,b=> !b&&Nat.beq n 0&&(Region.ready .any ops listed).isEmpty
 | .stop,_,_,b=>b
 | .read _ _,0,_,_=>false
 | .read i t,n+1,listed,b=> !b&&(Region.ready .any ops listed).contains i&&Region.free .any ops listed i&&Dt ops t n (listed.setIfInBounds i true) false
 | .alt _ _ _,0,_,_=>false
 | .alt i t r,n+1,listed,b=>(b||(Region.ready .any ops listed==(DT.alt i t r).heads))&&Dt ops t n (listed.setIfInBounds i true) false&&Dt ops r (n+1) listed true
def Cl(P:Program)(ops:Array Oper)(Z:Fr->DS->List PanicEntry->World->Prop)(K:Fr->DS->World->Prop):DT->(World->Prop)->Fr->DS->World->Prop
 | .done,_,f,ds,w=>K f ds w
 | .stop,_,_,_,_=>True
 | .read i r,S,f,ds,w=>∃o d v,ops[i]?=some o/\o.dst=some d/\
   (∀W,S W->AT P ops (fun _ _ _ _=>False) (fun l c X=>l=upd f d v/\c=ds/\X=W) [o] f ds W)/\Cl P ops Z K r S (upd f d v) ds w
 | .alt i t r,S,f,ds,w=>(∃o,ops[i]?=some o/\AT P ops Z (fun l c X=>∃F:World->Prop,(∀W,F W->S W)/\F X/\Cl P ops Z K t F l c X) [o] f ds w)/\Cl P ops Z K r S f ds w
theorem upd_inj{f:Fr}{d:Nat}{u v:Value}(h:upd f d u=upd f d v):u=v:=by
 have:=congrFun h d;simpa[upd]using this
theorem YR_of{o:Oper}{d:Nat}{v:Value}{a:Act}(C:o.dst=some d){A:World}(j:S A)
  (h:∀W,S W->AT P ops (fun _ _ _ _=>False) (fun E B w'=>E=upd (Ca a) d v/\B=a.defers/\w'=W) [o] (Ca a) a.defers W):YR P ops S o v a:=by
 unfold YR;rw[wanted_toFr];by_cases z:Bh ops (Ca a) o.guard=true
 ·refine .inl ⟨z,fun w G=>?_⟩;have p:=h w G;unfold AT at p;rw[if_pos z]at p;unfold By at p;rw[ev_toFr];revert p;generalize (execOp (ev (Ca a)) o).run P w=r;intro p;cases r with
  |halt x w'=>cases x<;>exact p.elim
  |ok m w'=>
   cases m with
   |value u=>
    obtain⟨q,_,I⟩:=p;simp only[C,putF]at q;rw[upd_inj q,I];exact .inl rfl
   |skip=>
    obtain⟨q,_,I⟩:=p;simp only[C,putF]at q;rw[<-upd_inj q,I];exact .inr (.inl ⟨rfl,rfl⟩)
   |defer d'=>
    obtain⟨_,D,_⟩:=p;exact absurd D O
   |enter g args=>
    refine .inr (.inr (.inl ⟨g,args,w',rfl,Calls.mono p fun e L s=>?_⟩));cases e with
    |returned u=>
     obtain⟨q,_,I⟩:=s;simp only[C,putF]at q;exact⟨by rw[upd_inj q],I⟩
    |panicked c=>exact s.elim
    |outgrown=>exact s.elim
   |round l g tmps assign body=>
    refine .inr (.inr (.inr ⟨l,g,tmps,assign,body,w',rfl,RoundIn.mono p fun e L s=>?_⟩));cases e with
    |returned u=>
     obtain⟨q,_,I⟩:=s;simp only[C,putF]at q;exact⟨by rw[upd_inj q],I⟩
    |panicked c=>exact s.elim
    |outgrown=>exact s.elim
   |_=>exact p.elim
 ·have G:Bh ops (Ca a) o.guard=false:=by simpa using z
  refine .inr ⟨G,?_⟩;have p:=h A j;unfold AT at p;rw[if_neg z]at p;obtain⟨q,_⟩:=p;simp only[C,putF]at q;exact(upd_inj q).symm
theorem wpOp_of_WOps{n:Nat}{Q:DD}{K:Fr->DS->World->Prop}{o:Oper}{i:Nat}(j:ops[i]?=some o){a:Act}{w:World}(I:a.tmps.size=n)(p:opOk n rr.isSome o=true)
  {K':Act->World->Prop}(H:∀c w',c.tmps.size=n->K (Ca c) c.defers w'->K' c w')
  (h:AT P ops (fun f ds V w=>Q (.panic V) f ds w) K [o] (Ca a) a.defers w):wpOpIn (rnd rr) 0 P ops (liftQ n Q) i K' a w:=by
 have C:dOk n o.dst=true:=by have:=p;simp only[opOk,Bool.and_eq_true]at this;exact this.1
 have next:=next_of (n:=n) (o:=o) (a:=a) (K:=K) (K':=K') I C H
 unfold wpOpIn;simp only[j,wanted_toFr];unfold AT at h;by_cases e:Bh ops (Ca a) o.guard=true
 ·simp only[e,if_true]at h⊢;exact uponIn_of (r:=rr) I p next h
 ·simp only[e]at h⊢;exact⟨fun _ _=>trivial,next undef a.defers w h⟩
theorem semOk_of{n:Nat}(p:ops.toList.all (opOk n rr.isSome)=true):SemOk rr ops:=fun j o ho ρ=>
 semAt_ok (n:=n) (List.all_eq_true.1 p o (by simpa using Array.mem_of_getElem? ho)) ρ
theorem D_sound{n:Nat}{Q:DD}(z:Region.noSelect ops=true)(p:ops.toList.all (opOk n rr.isSome)=true)(s:∀c f l ds w,Q (.panic c) f ds w->Q (.panic c) l ds w):
  ∀(A:DT)(X:Nat)(G:Array Bool)(b:Bool)(S:World->Prop)(a:Act)(w:World),Dt ops A X G b=true->a.tmps.size=n->S w->
   Cl P ops (fun f ds V w=>Q (.panic V) f ds w) (Q .normal) A S (Ca a) a.defers w->
   (b=false->wpT rr P ops (liftQ n Q) S X G a w)/\
   (∀k,X=k+1->∀j∈A.heads,wpOpIn (rnd rr) 0 P ops (liftQ n Q) j (fun e w'=>S w'/\wpT rr P ops (liftQ n Q) S k (G.setIfInBounds j true) e w') a w)
 | .done,X,G,b,S,a,w,hc,hn,hS,h=>by
  simp only[Dt,Bool.and_eq_true,List.isEmpty_iff,Bool.not_eq_true']at hc;obtain⟨⟨rfl,W⟩,R⟩:=hc;obtain rfl:=Nat.eq_of_beq_eq_true W;exact⟨fun _=>⟨R,hn,h⟩,fun _ _ j T=>by simp[DT.heads]at T⟩
 | .stop,X,G,b,S,a,w,hc,hn,hS,h=>by
  simp only[Dt]at hc;subst hc;exact⟨(fun h=>by cases h),fun _ _ j T=>by simp[DT.heads]at T⟩
 | .read i r,0,G,b,S,a,w,hc,hn,hS,h=>by simp[Dt]at hc
 | .read i r,X+1,G,b,S,a,w,hc,hn,hS,h=>by
  simp only[Dt,Bool.and_eq_true,Bool.not_eq_true']at hc;obtain⟨⟨⟨D,m⟩,W⟩,R⟩:=hc;obtain⟨o,d,v,q,C,hy,L⟩:=h;have B:opOk n rr.isSome o=true:=List.all_eq_true.1 p o (by simpa using Array.mem_of_getElem? q);have u:dOk n o.dst=true:=by have:=B;simp only[opOk,Bool.and_eq_true]at this;exact this.1
  have a0:d<a.tmps.size:=by rw[C]at u;simpa[dOk,Nat.blt_eq,hn]using u
  have a2:∀c(e:Act)(w':World),liftQ n Q (.panic c) (e.put o.dst v) w'->liftQ n Q (.panic c) e w':=fun c e w' I=>
   ⟨by simpa[size_put]using I.1,s c _ _ _ _ (by have:=I.2;rw[defers_put]at this;exact this)⟩
  refine⟨fun _=>wpT_first (semOk_of p) q (Region.noSelect_spec z) a2 X G a w (Region.free_spec q W) (by simpa using m) (YR_of C hS hy) hS ?_,fun _ _ j T=>by simp[DT.heads]at T⟩;refine(D_sound z p s r X _ false S (a.put o.dst v) w R (by rw[size_put];exact hn) hS ?_).1 rfl;rw[defers_put,C,toFr_put v a0];exact L
 | .alt i t r,0,G,b,S,a,w,hc,hn,hS,h=>by simp[Dt]at hc
 | .alt i t r,X+1,G,b,S,a,w,hc,hn,hS,h=>by
  simp only[Dt,Bool.and_eq_true]at hc;obtain⟨⟨m,W⟩,R⟩:=hc;obtain⟨⟨o,q,L⟩,a3⟩:=h;have u:opOk n rr.isSome o=true:=List.all_eq_true.1 p o (by simpa using Array.mem_of_getElem? q)
  have H:∀j∈(DT.alt i t r).heads,wpOpIn (rnd rr) 0 P ops (liftQ n Q) j (fun e w'=>S w'/\wpT rr P ops (liftQ n Q) S X (G.setIfInBounds j true) e w') a w:=by
   intro j T;simp only[DT.heads,List.mem_cons]at T;rcases T with rfl|T
   ·refine wpOp_of_WOps q hn u ?_ L;rintro e w' a1⟨M,F,E,C⟩;exact⟨F w' E,wpT_mono F _ _ _ _ ((D_sound z p s t X _ false M e w' W a1 E C).1 rfl)⟩
   ·exact(D_sound z p s r (X+1) G true S a w R hn hS a3).2 X rfl j T
  refine⟨fun N=>?_,fun k L j T=>?_⟩
  ·subst N;simp only[Bool.false_or,beq_iff_eq]at m;exact⟨fun D=>(by rw[D]at m;simp[DT.heads]at m),fun j T=>H j (by rw[<-m];exact T)⟩
  ·obtain rfl:X=k:=by omega
   exact H j T
theorem C_drawS{n:Cf}{Q:DD}{id:Nat}{l:List Oper}{f:Fr}{ds:DS}{w:World}(e:DT)(S:World->Prop)(s:P.follows .mixedOrders=true)
  (T:(Region.noSelect l.toArray&&(l.all (opOk n.n n.r.isSome))&&Dt l.toArray e l.length (Array.replicate l.length false) false)=true)
  (p:∀c f j ds w,Q (.panic c) f ds w->Q (.panic c) j ds w)(q:S {w with drawn:=w.drawn+1})
  (h:Cl P l.toArray (fun f ds V w=>Q (.panic V) f ds w) (Q .normal) e S f ds {w with drawn:=w.drawn+1}):WC P n (.region id l.toArray true) Q f ds w:=by
 simp only[Bool.and_eq_true]at T;obtain⟨⟨m,W⟩,R⟩:=T;rintro a I rfl rfl;refine wpIn_region_any s (wpT_any (S:=S) _ _ _ _ ?_);have:=(D_sound (P:=P) (rr:=n.r) (ops:=l.toArray) m (by simpa using W) p e _ _ false S a _ R I q h).1 rfl;simpa using this
section
variable {Z:Fr->DS->List PanicEntry->World->Prop}{K:Fr->DS->World->Prop}{r t:DT}{f:Fr}{ds:DS}{w:World}{i d:Nat}{o:Oper}{v:Value}
theorem Bc(h:K f ds w):Cl P ops Z K .done S f ds w:=h
theorem D_R(e:ops[i]?=some o)(C:o.dst=some d)(E:∀W,S W->AT P ops (fun _ _ _ _=>False) (fun l c w'=>l=upd f d v/\c=ds/\w'=W) [o] f ds W)
  (h:Cl P ops Z K r S (upd f d v) ds w):Cl P ops Z K (.read i r) S f ds w:=⟨o,d,v,e,C,E,h⟩
theorem D_E(e:ops[i]?=some o)(h:AT P ops Z (fun l c w'=>∃F:World->Prop,(∀W,F W->S W)/\F w'/\Cl P ops Z K t F l c w') [o] f ds w):
  Cl P ops Z K (.alt i t .stop) S f ds w:=⟨⟨o,e,h⟩,trivial⟩
theorem D_A(j:ops[i]?=some o)(h:AT P ops Z (fun l c w'=>∃F:World->Prop,(∀W,F W->S W)/\F w'/\Cl P ops Z K t F l c w') [o] f ds w)(e:Cl P ops Z K r S f ds w):
  Cl P ops Z K (.alt i t r) S f ds w:=⟨⟨o,j,h⟩,e⟩
theorem D0(e:ops[i]?=some o)(C:o.dst=some d)(c:Bh ops f o.guard=true)(G:∀W,(execOp (ev f) o).run P W=.ok (.value v) W)(h:Cl P ops Z K r S (upd f d v) ds w):Cl P ops Z K (.read i r) S f ds w:=by
 refine D_R e C (fun W _=>?_) h;unfold AT;rw[if_pos c];unfold By;rw[G W];exact⟨by rw[C];rfl,rfl,rfl⟩
theorem At{j:Nat}{p:Bool}(l:ops[i]?=some o)(C:o.dst=some d)(c:o.guard=some (j,p))(m:guardVal ops f j=some (!p))(h:Cl P ops Z K r S (upd f d undef) ds w):Cl P ops Z K (.read i r) S f ds w:=by
 refine D_R l C (fun W _=>?_) h;unfold AT;have e:Bh ops f o.guard=false:=by rw[c];simp only[Bh,m];cases p<;>rfl
 rw[e];exact⟨by rw[C];rfl,rfl,rfl⟩
section cmp
variable {xt yt ty:TypeId}{x y:Operand}{k:IntKind}{a b:Int}{pos:String}{af:Array Edge}{g:Option (Nat×Bool)}
theorem D5(e:ops[i]?=some ⟨some d,.binOp .lss xt x y yt,ty,pos,af,g⟩)(c:Bh ops f g=true)(V:ev f x=.int k a)(E:ev f y=.int k b)
  (j:a<b->Cl P ops Z K r S (upd f d (.bool true)) ds w)(h:b<=a->Cl P ops Z K r S (upd f d (.bool false)) ds w):Cl P ops Z K (.read i r) S f ds w:=by
 by_cases T:a<b
 ·exact FU
 ·exact Fj
theorem D_leq(e:ops[i]?=some ⟨some d,.binOp .leq xt x y yt,ty,pos,af,g⟩)(c:Bh ops f g=true)(V:ev f x=.int k a)(E:ev f y=.int k b)
  (j:a<=b->Cl P ops Z K r S (upd f d (.bool true)) ds w)(h:b<a->Cl P ops Z K r S (upd f d (.bool false)) ds w):Cl P ops Z K (.read i r) S f ds w:=by
 by_cases T:a<=b
 ·exact FU
 ·exact Fj
theorem D_gtr(e:ops[i]?=some ⟨some d,.binOp .gtr xt x y yt,ty,pos,af,g⟩)(c:Bh ops f g=true)(V:ev f x=.int k a)(E:ev f y=.int k b)
  (j:b<a->Cl P ops Z K r S (upd f d (.bool true)) ds w)(h:a<=b->Cl P ops Z K r S (upd f d (.bool false)) ds w):Cl P ops Z K (.read i r) S f ds w:=by
 by_cases T:b<a
 ·exact FU
 ·exact Fj
theorem D_geq(e:ops[i]?=some ⟨some d,.binOp .geq xt x y yt,ty,pos,af,g⟩)(c:Bh ops f g=true)(V:ev f x=.int k a)(E:ev f y=.int k b)
  (j:b<=a->Cl P ops Z K r S (upd f d (.bool true)) ds w)(h:a<b->Cl P ops Z K r S (upd f d (.bool false)) ds w):Cl P ops Z K (.read i r) S f ds w:=by
 by_cases T:b<=a
 ·exact FU
 ·exact Fj
theorem D_eql(e:ops[i]?=some ⟨some d,.binOp .eql xt x y yt,ty,pos,af,g⟩)(c:Bh ops f g=true)(V:ev f x=.int k a)(E:ev f y=.int k b)
  (j:a=b->Cl P ops Z K r S (upd f d (.bool true)) ds w)(h:a≠b->Cl P ops Z K r S (upd f d (.bool false)) ds w):Cl P ops Z K (.read i r) S f ds w:=by
 by_cases T:a=b
 ·exact FU
 ·exact D0 e rfl c (fun W=>by simp[execOp,V,E,eqGuard,binOp,Op.intCmp,T]) (h T)
theorem D_neq(e:ops[i]?=some ⟨some d,.binOp .neq xt x y yt,ty,pos,af,g⟩)(c:Bh ops f g=true)(V:ev f x=.int k a)(E:ev f y=.int k b)
  (j:a≠b->Cl P ops Z K r S (upd f d (.bool true)) ds w)(h:a=b->Cl P ops Z K r S (upd f d (.bool false)) ds w):Cl P ops Z K (.read i r) S f ds w:=by
 by_cases T:a=b
 ·exact D0 e rfl c (fun W=>by simp[execOp,V,E,eqGuard,binOp,Op.intCmp,T]) (h T)
 ·exact FU
theorem D_seql{s t:LU}(e:ops[i]?=some ⟨some d,.binOp .eql xt x y yt,ty,pos,af,g⟩)(c:Bh ops f g=true)(V:ev f x=AL s)(E:ev f y=AL t)
  (j:s=t->Cl P ops Z K r S (upd f d (.bool true)) ds w)(h:s≠t->Cl P ops Z K r S (upd f d (.bool false)) ds w):Cl P ops Z K (.read i r) S f ds w:=by
 by_cases T:s=t
 ·exact D0 e rfl c (fun W=>by simp[execOp,V,E,eqGuard,binOp,Op.stringOp,T]) (j T)
 ·exact D0 e rfl c (fun W=>by simp[execOp,V,E,eqGuard,binOp,Op.stringOp,T]) (h T)
theorem D_sneq{s t:LU}(e:ops[i]?=some ⟨some d,.binOp .neq xt x y yt,ty,pos,af,g⟩)(c:Bh ops f g=true)(V:ev f x=AL s)(E:ev f y=AL t)
  (j:s≠t->Cl P ops Z K r S (upd f d (.bool true)) ds w)(h:s=t->Cl P ops Z K r S (upd f d (.bool false)) ds w):Cl P ops Z K (.read i r) S f ds w:=by
 by_cases T:s=t
 ·exact D0 e rfl c (fun W=>by simp[execOp,V,E,eqGuard,binOp,Op.stringOp,T]) (h T)
 ·exact D0 e rfl c (fun W=>by simp[execOp,V,E,eqGuard,binOp,Op.stringOp,T]) (j T)
end cmp
end
theorem CQ{n:Cf}{Q:DD}{id:Nat}{l:List Oper}{f:Fr}{ds:DS}{w:World}(j:DT)(s:P.follows .mixedOrders=true)
  (T:(Region.noSelect l.toArray&&(l.all (opOk n.n n.r.isSome))&&Dt l.toArray j l.length (Array.replicate l.length false) false)=true)
  (p:∀c f m ds w,Q (.panic c) f ds w->Q (.panic c) m ds w)
  (h:∀e,Ext w e->e.heap=w.heap->∃S:World->Prop,S e/\Cl P l.toArray (fun f ds V w=>Q (.panic V) f ds w) (Q .normal) j S f ds e):WC P n (.region id l.toArray true) Q f ds w:=by
 obtain⟨S,q,C⟩:=h {w with drawn:=w.drawn+1} ⟨rfl,rfl,rfl,Nat.le_refl _,fun _ _ _=>rfl,fun _=>mark_heap rfl,Nat.le_succ _⟩ rfl;exact C_drawS j S s T p q C
theorem Ac{n:Cf}{Q:DD}{id:Nat}{l:List Oper}{f:Fr}{ds:DS}{w:World}(j:DT)(s:P.follows .mixedOrders=true)
  (T:(Region.noSelect l.toArray&&(l.all (opOk n.n n.r.isSome))&&Dt l.toArray j l.length (Array.replicate l.length false) false)=true)
  (h:∀c,Ext w c->c.heap=w.heap->∃S:World->Prop,S c/\Cl P l.toArray (fun _ _ _ _=>False) (Q .normal) j S f ds c):WC P n (.region id l.toArray true) Q f ds w:=by
 have:=CQ (P:=P) (n:=n) (Q:=fun e f ds w=>match e with| .normal=>Q .normal f ds w|_=>False) (id:=id) j s T (fun _ _ _ _ _ h=>h) h;rintro a I rfl rfl;refine wpIn_mono (this a I rfl rfl) ?_;intro e a w p;obtain⟨m,W⟩:=p;cases e with
 |normal=>exact⟨m,W⟩
 |_=>exact W.elim
theorem Be{fn:Func}{R:Value->World->Prop}{Y:List PanicEntry->World->Prop}:∀c f l ds w,Cx P fn R Y (.panic c) f ds w->Cx P fn R Y (.panic c) l ds w:=fun _ _ _ _ _ h=>h
theorem BI{k:Fr->DS->World->Prop}{Q:DD}(e:∀c f l ds w,Q (.panic c) f ds w->Q (.panic c) l ds w):∀c f l ds w,B6 k Q (.panic c) f ds w->B6 k Q (.panic c) l ds w:=e
theorem CM{id:Nat}{Q:DD}(e:∀c f l ds w,Q (.panic c) f ds w->Q (.panic c) l ds w):∀c f l ds w,BK id Q (.panic c) f ds w->BK id Q (.panic c) l ds w:=e
attribute [irreducible] Cl
def rd:Nat->Nat->DT->DT
 |_,0,t=>t
 |i,n+1,t=>.read i (rd (i+1) n t)
theorem dz{P:Program}{all:Array Oper}{Z:Fr->DS->List PanicEntry->World->Prop}{g:Fr}{ds:DS}{w:World}:AT P all Z (fun f' ds' w'=>f'=g/\ds'=ds/\w'=w) [] g ds w:=⟨rfl,rfl,rfl⟩
theorem wNl{P:Program}{ops:Array Oper}{Z:Fr->DS->List PanicEntry->World->Prop}{K:Fr->DS->World->Prop}{S:World->Prop}{f:Fr}{ds:DS}{w:World}{t:DT}(k:S w)(h:Cl P ops Z K t S f ds w):AT P ops Z (fun f' ds' w'=>∃S':World->Prop,(∀W,S' W->S W)/\S' w'/\Cl P ops Z K t S' f' ds' w') [] f ds w:=AA ⟨S,fun _ h=>h,k,h⟩
end
end Go.Proofs.YtjbocjodncbogaaGreatDoor
