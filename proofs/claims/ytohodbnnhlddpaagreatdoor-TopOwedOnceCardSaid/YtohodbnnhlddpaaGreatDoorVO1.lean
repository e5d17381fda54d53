/- TopOwedOnce, part 1 of 14: rules, lemmas, walks. Conditions: none. -/
import Derived.WalkKit
import Derived.ProofKit
import Derived.Scope
import Derived.Orders
import Derived.Deep.LoopGhost
import Derived.Sort.LoopGhostIn
import Derived.OrdersIn
import Derived.TacticsIn
import Derived.RangeFuncLeaves
import Derived.Laws.AppendOwn
import Derived.Laws.MakeOwn
import Derived.Laws.CopyRow
import Derived.Deep.Draws
import Derived.Laws.OwnMore
import Derived.Laws.CopyOwn
import Derived.KernelRfl
namespace Go.Proofs.YtohodbnnhlddpaaGreatDoor
open Go.RowKit
set_option linter.unusedVariables false
abbrev LV:=List Value
abbrev LU:=List UInt8
abbrev iV(n:Int):Value:=.int .i64 n
abbrev sm(b:Nat):Option Addr:=some ⟨b,0,none⟩
theorem D8{p:Prop}(h:p:=by first|exact CD (by omega) (by omega)|exact Cl (by omega) (by omega)|exact CB (by omega) (by omega)):p:=h
theorem EJ{p:Prop}(h:p:=by show Value.int .i64 ((k:Int)+1)=_;rw[Int.natCast_add];rfl):p:=h
theorem EV{p:Prop}(h:p:=by simp[execOp,i,F,eqGuard,binOp,Op.intArith,wrap_in g]):p:=h
theorem EW{p:Prop}(h:p:=by intro u E;simp at E;rcases E with rfl|rfl<;>rfl):p:=h
theorem ED{p:Prop}(h:p:=by simp[execOp,g,F,eqGuard,binOp,Op.intCmp,V]):p:=h
theorem EA{p:Prop}(h:p:=by intro b S;simp[fresh]at S⊢;omega):p:=h
theorem EK{p:Prop}(h:p:=by have:=S.size;have:=Z.size;omega):p:=h
theorem EF{p:Prop}(h:p:=by intro b S;simp at S⊢;omega):p:=h
theorem EQ{p:Prop}(h:p:=by rw[Array.length_toList,DJ]):p:=h
theorem EU{p:Prop}(h:p:=by rw[List.length_take];omega):p:=h
theorem ER{p:Prop}(h:p:=by have:=kB.size;omega):p:=h
theorem D3{p:Prop}(h:p:=by unfold maxLen;omega):p:=h
theorem D6{p:Prop}(h:p:=by simpa[Aq]using I):p:=h
theorem EM{p:Prop}(h:p:=by show 0<5;omega):p:=h
theorem EN{p:Prop}(h:p:=by rw[q.1];exact B):p:=h
theorem ET{p:Prop}(h:p:=by rw[<-e];exact S):p:=h
theorem EE{p:Prop}(h:p:=by rw[madeI1];rfl):p:=h
theorem EL{p:Prop}(h:p:=by rw[made10];rfl):p:=h
theorem EO{p:Prop}(h:p:=by simp[DM];omega):p:=h
theorem EG{p:Prop}(h:p:=by simp[opS,opP]):p:=h
theorem EH{p:Prop}(h:p:=by rw[T];exact h):p:=h
theorem Dy{p:Prop}(h:p:=by simp<;>omega):p:=h
theorem EB{p:Prop}(h:p:=by simpa using a4):p:=h
theorem EC{p:Prop}(h:p:=by simpa using h):p:=h
theorem EI{p:Prop}(h:p:=by simpa using A):p:=h
theorem EP{p:Prop}(h:p:=by simpa using t):p:=h
theorem ES{p:Prop}(h:p:=by simpa using C):p:=h
theorem D0{p:Prop}(h:p:=by simp[zero5]):p:=h
theorem D4{p:Prop}(h:p:=by rw[By];rfl):p:=h
theorem Dw{p:Prop}(h:p:=by simp;omega):p:=h
theorem Dv{p:Prop}(h:p:=by kernel_rfl):p:=h
theorem Dz{p:Prop}(h:p:=by assumption):p:=h
theorem D9{p:Prop}(h:p:=by simp[V]):p:=h
theorem D7{p:Prop}(h:p:=by decide):p:=h
theorem U{p:Prop}(h:p:=by omega):p:=h
theorem O{p:Prop}(h:p:=by simp):p:=h
theorem Dx{p:Prop}(h:p:=by rfl):p:=h
theorem EX{p:Prop}(h:p:=by
 refine wNl trivial ?_
 refine go ?_
 refine D_E rfl ?_
 have q:=Z.own (n:=1) (size:=5) rfl D3 (Nat.le_refl _)
 refine Ap (ok:=AV) (B:=w.heap.size) (n:=0) (xs:=[]) (v:=.slice none 0 0) rfl rfl (own_nil _ _ _) (Aa q fun _ _=>trivial) U rfl rfl (AW rfl) U U EK (fun a p f=>?_)
 refine wNl trivial ?_
 have c:=Z.E.trans f.E
 exact G a _ _ ag ⟨S.ext c,D.E c O,m.E c O,f.own⟩):p:=h
theorem EY{p:Prop}(h:p:=by
 ((apply D_R rfl rfl;(intro W c;refine AY rfl ?_;exact AA ⟨rfl,rfl,rfl⟩))<;>(refine C8 rfl rfl rfl rfl (fun t=>?_) (fun t=>?_)<;>try omega)<;>(apply D_R rfl rfl;(intro W c;refine AI rfl ?_;exact AA ⟨rfl,rfl,rfl⟩))<;>(apply D_R rfl rfl;(intro W c;(refine AN rfl ?_;refine Af rfl ?_);exact AA ⟨rfl,rfl,rfl⟩))<;>(apply D_R rfl rfl;(intro W c;(refine AN rfl ?_;refine AM rfl ?_);exact AA ⟨rfl,rfl,rfl⟩))<;>(apply D_R rfl rfl;(intro W c;(refine AN rfl ?_;refine AD rfl ?_);exact AA ⟨rfl,rfl,rfl⟩))<;>(apply D_R rfl rfl;(intro W c;(refine AN rfl ?_;refine AL rfl (g W c) ?_);exact AA ⟨rfl,rfl,rfl⟩))<;>(apply D_R rfl rfl;(intro W c;(refine AN rfl ?_;refine Av rfl ?_);exact AA ⟨rfl,rfl,rfl⟩))<;>(apply D_R rfl rfl;(intro W c;(refine AN rfl ?_;refine AY rfl ?_);exact AA ⟨rfl,rfl,rfl⟩))<;>(apply D_R rfl rfl;(intro W c;(refine AN rfl ?_;refine Cd rfl rfl rfl U ?_);exact AA ⟨rfl,rfl,rfl⟩))<;>(apply D_R rfl rfl;(intro W c;(refine AN rfl ?_;refine AD rfl ?_);exact AA ⟨rfl,rfl,rfl⟩))<;>(apply D_R rfl rfl;(intro W c;(refine AN rfl ?_;refine AL rfl (T W c) ?_);exact AA ⟨rfl,rfl,rfl⟩))<;>(refine D_geq rfl rfl rfl rfl (fun t=>?_) (fun t=>?_)<;>try omega)<;>(apply D_R rfl rfl;(intro W c;(refine Al rfl ?_;refine AI rfl ?_);exact AA ⟨rfl,rfl,rfl⟩))<;>refine Bq ?_)
 refine go ?_
 exact AB rfl ⟨by rw[decide_eq_false q];rfl,I⟩):p:=h
theorem EZ{p:Prop}(h:p:=by
 rw[hv]at hl
 refine go ?_
 refine AE (glone_ok W R A (tkB (l,false) d) d a6 v nm U a3 b0 ht hd b3 cW) rfl ?_
 rintro u w6⟨k6,a8,P,L8,c8,o8,K⟩
 rw[<-hl]at a8 c8 o8 K
 refine go ?_
 exact Ao (P,L8) ag ⟨kW.trans k6 (fun x h B=>by simp at h;rcases h with rfl|rfl;simp;omega),a8,⟨c8,Bl o8 U,K _,fun g t=>by have:=(Ad o8 t).1;omega⟩,zW.E k6 Dw,by have:=k6.size;omega⟩):p:=h
theorem Ea{p:Prop}(h:p:=by
 rw[t]
 refine go ?_
 refine AQ (L:=[T,R,z,A,B]) rfl rfl m ?_
 refine AH (cs:=[T,R,z,A,B]) rfl rfl rfl G.one d D0 (fun Z j=>go ?_)
 exact AU rfl rfl rfl j.D.cells ⟨K.E j.E O,(G.unm j.E (fun y F C=>by rw[List.mem_singleton]at C;omega)).mono fun y F=>⟨by omega,F.2⟩⟩):p:=h
theorem Eb{p:Prop}(h:p:=by
 repeat refine nx rfl ?_
 (refine AJ (Af rfl (AM rfl (AD rfl ?_)))<;>refine AL rfl (Blk.cell Dz Dx) ?_<;>refine Bv Dx Dx ?_<;>refine DZ (Dj rfl ?_))
 repeat refine nx rfl ?_
 exact Aj ⟨_,_,by unfold numM;rw[if_pos R],rfl,b.E⟩):p:=h
theorem Ec{p:Prop}(h:p:=by
 have H:e.length=19:=(dtyR).len s
 refine AP (out:=e) rfl U (fill_one EQ H) (fun w4 h=>?_)
 obtain⟨L,P,B⟩:=E.ex
 have f:=(N.E.trans p).trans h.E
 have z3:=f.size
 have z4:=h.size
 have z5:=p.size
 have a0:((l.take k).map g).length=k:=by rw[List.length_map,List.length_take];omega
 have X:∀b,v.ownBlock=some b->w.heap.size<=b/\b<W.heap.size:=fun b S=>Ad P S
 refine Ap (ok:=AV) (v:=v) rfl rfl (Ae P f) (Aa (h.own (n:=1) (size:=19) U D3 (Nat.le_refl _)) fun _ _=>trivial) U Dx U ((dtyR).one s) U U U (fun v8 w8 i=>?_)
 have A:∀y∈v.ownBlock.toList,w.heap.size<=y:=fun y hy=>(Ad P (Option.mem_toList.1 hy)).1
 have t:=Acc.push P B f ((dtyR).E ((dtyR).mono s (ok':=fun b=>AV b/\v.ownBlock≠some b) fun b S=>⟨trivial,fun e=>by have:=X b e;omega⟩) h.E (fun _ _=>by simp)) i
 refine go ?_
 have z8:=i.E.size
 refine⟨(k+1,v8),⟨rfl,ag,⟨by simp only;omega,(V.trans f).E i.E A,by omega,?_⟩⟩,by simp only;omega⟩
 simp only
 have Z:l.take (k+1)=l.take k++[x]:=by rw[List.take_add_one,T];rfl
 rw[Z,List.map_append]
 exact t):p:=h
theorem Ed{p:Prop}(h:p:=by
 refine D_E rfl ?_
 refine AR (v:=.int .i64 (i:Int)) rfl rfl rfl Z.D O (fun g a=>?_)
 refine AA ⟨Ext H,fun _ h=>h,Z.E.E a.E O,?_⟩
 refine go ?_
 have V:=(I.trans Z.E).E a.E (by have:=I.size;simp;omega)
 have q:Blk g H.heap.size 3 [.int .i64 (i:Int)]:=a.D
 have z:=X.ext V
 have y:=r.E V O
 have f:=z.b1.cell (o:=0) rfl
 refine go ?_
 refine AE (DN g t S xs m p B 208 [] [pt c1,pt H.heap.size,pt w.heap.size] (fun k=>tv (wdG S xs m p k nm=T)) [] (fun _ _=>True) z.ax O trivial (fun _ _ _=>trivial) (fun k W P e _=>?_)) rfl ?_
 ·obtain⟨x,d⟩:=gl (l:=xs) (k:=lixN m p k) (by rw[K];exact lixN_lt M k)
  have c:wdG S xs m p k nm=valS S x i:=by
   rw[<-N x];simp[wdG,List.getD,d]
  rw[c]
  exact(glis1_ok W c1 t S xs m p B H.heap.size w.heap.size b o i k x T P d D (z.b1.E e O) (q.E e O) (y.E e O) (z.ax.ext e) ((V.trans e).cell Q O)).mono fun u w' n=>⟨n.1,n.2,trivial⟩
 rintro u w5⟨n,A,_⟩
 refine go ?_
 exact AB rfl ⟨n,(E.E.trans V).trans A⟩):p:=h
theorem Ee{p:Prop}(h:p:=by
 refine go ?_
 refine Bn rfl rfl (fun V=>?_) (fun V=>absurd d V)
 refine go ?_
 exact AB rfl ⟨false,rfl,k,fun h=>by cases h⟩):p:=h
theorem Ef{p:Prop}(h:p:=by
 rintro u w2⟨k2,a7,f2⟩
 obtain⟨r,rfl,a0,a1⟩:=f2.cells
 obtain⟨y0,y1,y2,y3,y4,rfl⟩:=Ab a0
 refine AH (cs:=[y0,y1,y2,y3,y4]) rfl rfl rfl a1 (E.D.E k2 Dw) D0 (fun w9 q=>?_)
 refine go ?_
 exact AU rfl rfl rfl q.D.cells ⟨(E.E.any.trans k2 (fun _ h _=>h)).trans q.E (fun y F B=>by simp at F;omega),a7.E q.E Dw,(f2.E q.E (fun y F j=>by simp at j;omega)).mono fun y F=>by omega⟩):p:=h
theorem Eg{p:Prop}(h:p:=by
 exact BZ rfl ⟨1,1,true,rfl,rfl,fun _=>⟨by omega,by omega,fun n X W=>by rw[V];simp[Aq];omega⟩⟩):p:=h
theorem Eh{p:Prop}(h:p:=by
 refine AR rfl rfl rfl l O (fun w4 m=>?_)
 have p:=m.D
 have C:∀g,(Value.slice i (b.length+1) j).ownBlock=some g->g∉[s]:=fun g G=>by have:=(Ad q G).1;simp;omega
 have X:=Ac q m.E C
 have Q:Keep [s] c w4:=M.trans m.E fun x T _=>T
 refine wNl (⟨p.cell rfl,p.cell rfl⟩) ?_
 refine go ?_
 refine AR rfl rfl rfl p O (fun B r=>?_)
 have E:=r.D
 have H:=Ac X r.E C
 have V:Keep [s] c B:=Q.trans r.E fun x T _=>T
 refine go ?_
 have o6:B.ownsRow c.heap.size 217 3 (.slice i (b.length+1) j) (b++[Tok.mk k ((t.take n).drop a) a]).length (toksC (b++[Tok.mk k ((t.take n).drop a) a])):=by
  have e:toksC (b++[Tok.mk k ((t.take n).drop a) a])=toksC b++tokC (Tok.mk k ((t.take n).drop a) a):=by simp[toksC]
  rw[e];simpa using H
 exact BF rfl ⟨rfl,by omega,⟨V,hs,hl,h2,by simp;omega,_,E,o6⟩⟩):p:=h
theorem Ei{p:Prop}(h:p:=by
 refine go ?_
 exact BF rfl ⟨C.trans E (fun y F P=>by simp at F;rcases F with rfl|rfl;omega;simp),r.E E Dw,.slice (some ⟨g,0,none⟩) 1 z,[[.int .i64 1,AK [],.int .i64 0,.int .i64 0,.slice none 0 0]],j,by simpa using k,fun ok=>FsAt.one (FAt.leaf _ _ _ [] 0 0) rfl⟩):p:=h
theorem Ej{p:Prop}(h:p:=by
 refine go ?_
 exact BF rfl ⟨C.trans E (fun y F P=>by simp at F;rcases F with rfl|rfl;omega;simp),r.E E Dw,.slice (some ⟨g,0,none⟩) 1 z,[[.int .i64 2,AK [],.int .i64 0,.int .i64 0,.slice none 0 0]],j,by simpa using k,fun ok=>FsAt.one (FAt.leaf _ _ _ [] 0 0) rfl⟩):p:=h
theorem Ek{p:Prop}(h:p:=by
 rintro v o⟨rfl,X,r,F,B⟩
 have i:=d.trans F
 rw[i]at b
 repeat refine nx rfl ?_
 exact⟨(n,X,r),⟨rfl,⟨rfl,rfl,trivial⟩,⟨B,by have:=step_on j i;simp only;omega,b⟩⟩,Nat.lt_succ_self _⟩):p:=h
theorem El{p:Prop}(h:p:=by
 refine go ?_
 exact AB rfl ⟨rfl,rfl⟩):p:=h
theorem Em{p:Prop}(h:p:=by
 rintro u L⟨n,l,_⟩
 refine AA ⟨Ext L,fun _ e=>l.trans e,Ext.refl _,?_⟩
 refine go ?_
 exact AB rfl ⟨n,I.trans l⟩):p:=h
theorem En{p:Prop}(h:p:=by
 refine go ?_
 refine D_E rfl ?_
 refine Ak rfl ?_
 refine wNl o ?_
 refine go ?_
 refine D_E rfl ?_
 refine Ak rfl ?_
 refine wNl o ?_
 refine go ?_
 refine D_E rfl ?_
 refine Ak rfl ?_
 refine wNl o ?_
 refine go ?_
 refine D_E rfl ?_
 refine Ak rfl ?_
 refine wNl o ?_
 refine go ?_
 exact AB rfl ⟨rfl,q2⟩):p:=h
theorem Eo{p:Prop}(h:p:=by
 exact AB rfl ⟨false,rfl,k,fun h=>by cases h⟩):p:=h
theorem Ep{p:Prop}(h:p:=by
 rw[hv]
 refine go ?_
 refine AR (v:=.int .i64 (1-v)) rfl rfl rfl cW O (fun w6 p6=>go ?_)
 exact Ao (.slice none 0 0,[]) ag ⟨kW.trans p6.E (fun x h B=>by simp at h;omega),a3.E p6.E Dw,Bld.start p6.D,zW.E p6.E Dw,by have:=p6.size;omega⟩):p:=h
theorem Er{p:Prop}(h:p:=by
 rintro P o⟨e,q,F,rfl,B⟩
 have i:=d.trans F
 rw[i]at b
 repeat refine nx rfl ?_
 exact Aj ⟨e,q,b.symm,rfl,y _ B⟩):p:=h
theorem Es{p:Prop}(h:p:=by
 refine go ?_
 exact AB rfl ⟨false,rfl,Ext.refl _,fun h=>by cases h⟩):p:=h
theorem Et{p:Prop}(h:p:=by
 have hP:=Acc.push (R:=fmlR) P B G (c:=[s0,s1,s2,s3,s4]) (a:=DI x) ⟨rfl,(f6.ext n7.E).mono fun b S=>⟨by omega,fun e=>by have:=Ad P e;omega⟩⟩ a8
 refine go ?_
 refine⟨(k+1,v8),⟨rfl,ag,⟨by simp only;omega,(V.trans G).E a8.E (fun y F=>(Q y F).1),?_⟩⟩,by simp only;omega⟩
 simp only
 have b0:h.take (k+1)=h.take k++[x]:=by rw[List.take_add_one,T];rfl
 rw[b0,List.map_append]
 exact hP):p:=h
theorem Eu{p:Prop}(h:p:=by
 exact BZ rfl ⟨2,2,true,rfl,rfl,fun _=>⟨by omega,by omega,fun n X W=>by rw[V];simp[Aq];omega⟩⟩):p:=h
theorem Ev{p:Prop}(h:p:=by
 refine go ?_
 exact Ao true ⟨rfl,rfl,trivial⟩ ⟨l,m,fun _=>lo_of U⟩):p:=h
theorem Ew{p:Prop}(h:p:=by
 exact Ext.refl _):p:=h
theorem Ex{p:Prop}(h:p:=by
 exact Dd R rfl c (fun W=>by simp[execOp,T,F,eqGuard,binOp,Op.intCmp,V]) (h V)):p:=h
theorem Ey{p:Prop}(h:p:=by
 rintro u i⟨d,Z⟩
 obtain⟨r,rfl,x,o⟩:=Z.cells
 obtain⟨g,I,N,M,q,rfl⟩:=Ab x
 have c:=E.size
 refine AH (cs:=[g,I,N,M,q]) rfl rfl rfl o (E.D.E d O) D0 (fun K S=>go ?_)
 exact AU rfl rfl rfl S.D.cells ⟨(E.E.trans d).E S.E mSx,(Z.unm S.E (fun y F f=>by rw[List.mem_singleton]at f;omega)).mono fun y F=>⟨by omega,F.2⟩⟩):p:=h
theorem Ez{p:Prop}(h:p:=by
 rw[if_pos rfl]
 refine go ?_
 refine AR (v:=.bool true) rfl rfl rfl B O (fun e s=>go ?_)
 refine B0 ((s.E.block _ (Array.getElem?_eq_some_iff.1 g).1 Dw).trans g) fun X a Q=>?_
 exact BB (A9 rfl ((s.D.E a Dw).cell (o:=0) rfl) ⟨rfl,(n.E s.E (fun x T=>by simp at T;omega)).E a (fun x T=>by simp at T;omega)⟩)):p:=h
theorem E0{p:Prop}(h:p:=by
 (refine AJ (Cb rfl (Cb rfl ?_))<;>refine Bn rfl rfl (fun V=>?_) (fun V=>?_)<;>refine AA ?_)
 case refine_2=>exact absurd G Dz
 repeat refine nx rfl ?_
 refine AJ (AO (AI rfl ?_))
 repeat refine nx rfl ?_
 exact AB rfl ⟨by rw[C7,decide_eq_true (List.mem_of_getElem? (G▸F):s∈keysL)];simp[upd,Nat.beq],rfl⟩):p:=h
theorem E7{p:Prop}(h:p:=by
 exact AB rfl ⟨false,rfl,A,fun h=>by cases h⟩):p:=h
theorem E8{p:Prop}(h:p:=by
 refine go ?_
 exact AB rfl ⟨rfl,Ext.refl _⟩):p:=h
theorem E9{p:Prop}(h:p:=by
 rw[if_pos rfl]
 refine go ?_
 refine AH (cs:=zero5) rfl rfl rfl (AW rfl) ((E).D.E k2 Dw) D0 (fun w9 q=>?_)
 refine go ?_
 have z9:=(E).size
 exact AU rfl rfl rfl q.D.cells ⟨((E).E.any.trans k2 (fun _ h _=>h)).trans q.E (fun x h B=>by simp at h;omega),(a7).E q.E Dw,FAt.leaf _ _ 0 [] 0 0⟩):p:=h
theorem FA{p:Prop}(h:p:=by
 refine go ?_
 exact AB rfl ⟨rfl,f⟩):p:=h
theorem FB{p:Prop}(h:p:=by
 refine go ?_
 refine AR (v:=.bool false) rfl rfl rfl (S.E V O) O (fun e s=>go ?_)
 exact⟨rfl,V.any.trans s.E (fun _ h _=>h),s.D⟩):p:=h
theorem FC{p:Prop}(h:p:=by
 refine go ?_
 exact AB rfl ⟨false,rfl,E.E,fun h=>by cases h⟩):p:=h
theorem FD{p:Prop}(h:p:=by
 have hv:Cs N v false=v:=by simp[Cs]
 rw[hv]
 refine go ?_
 exact Ao (.slice none 0 0,[]) ag ⟨kW,a3,Bld.start cW,zW,lW⟩):p:=h
theorem FE{p:Prop}(h:p:=by
 refine go ?_
 refine D_E rfl ?_
 refine AP (out:=[G,M,N,P,i]) rfl U D4 (fun V2 q=>?_)
 refine wNl ((Ext.trans K q.E).any) ?_
 refine go ?_
 exact b3 (V.heap.size,G,M,N,P,i) _ _ ag ⟨K.trans q.E,q.D,(D.ext q.E).mono fun b S=>S⟩):p:=h
theorem FF{p:Prop}(h:p:=by
 exact(z.E c.E (fun y F=>by have:=a _ (Option.mem_toList.1 F);omega)).E d.E (fun y F=>by simp at F;omega)):p:=h
theorem FG{p:Prop}(h:p:=by
 exact Dd R rfl c (fun W=>by simp[execOp,T,F,eqGuard,binOp,Op.intCmp,V]) (e U)):p:=h
theorem FH{p:Prop}(h:p:=by
 intro i e F
 have:=congrArg (fun l=>l[i]?) y
 simp only[List.getElem?_map,F,Option.map_some]at this
 obtain⟨p,g,A⟩:=Option.map_eq_some_iff.1 this.symm
 exact⟨p,g,(congrArg Prod.fst A).symm,(congrArg Prod.snd A).symm⟩):p:=h
theorem FI{p:Prop}(h:p:=by
 refine AA ⟨_,fun _ e=>e,m.any.trans n.E (fun _ h _=>h),?_⟩
 refine go ?_
 exact AU rfl rfl rfl n.D.cells ⟨(j.trans m).E n.E O,((p.ext G).E n.E (fun y F T=>by simp at T;omega)).mono fun y F=>by omega⟩):p:=h
theorem FJ{p:Prop}(h:p:=by
 refine go ?_
 refine D_E rfl ?_
 refine Ak rfl ?_
 refine wNl a ?_
 refine go ?_
 refine D_E rfl ?_
 refine Ak rfl ?_
 refine wNl a ?_
 refine go ?_
 refine D_E rfl ?_
 refine Ak rfl ?_
 refine wNl a ?_
 refine go ?_
 exact AB rfl ⟨rfl,q3⟩):p:=h
theorem FK{p:Prop}(h:p:=by
 exact Keep.refl _ _):p:=h
theorem FM{p:Prop}(h:p:=by
 obtain rfl:k=10:=by omega
 refine go ?_
 have D:s∉keysL:=a
 exact AB rfl ⟨by rw[C7,b,decide_eq_false D,decide_eq_true (show 1<=s.length by omega),decide_eq_true (show s.length<=12 by omega)];rfl,rfl⟩):p:=h
theorem FN{p:Prop}(h:p:=by
 refine go ?_
 have hS:=Aa (ok:=fresh w) I (fun g t=>(Z g t).1)
 obtain⟨sa,sc,rfl,_⟩:=id hS
 refine go ?_
 have A:=o _ (M.done z)
 simp only[prepL,List.append_nil]at A
 exact AB rfl ⟨j,l,D,A,Q.st,L,I,q⟩):p:=h
theorem FO{p:Prop}(h:p:=by
 exact BZ rfl ⟨0,0,true,rfl,rfl,fun _=>⟨by omega,by omega,fun n X W=>by rw[V];simp[Aq];omega⟩⟩):p:=h
theorem FP{p:Prop}(h:p:=by
 rintro v L⟨rfl,x⟩
 refine go ?_
 exact BF rfl ⟨rfl,x⟩):p:=h
theorem FQ{p:Prop}(h:p:=by
 refine go ?_
 exact AB rfl ⟨false,rfl,E.E.trans V,fun h=>by cases h⟩):p:=h
theorem FR{p:Prop}(h:p:=by
 refine go ?_
 exact Ao () ag rfl):p:=h
theorem Ga{p:Prop}(h:p:=by
 obtain rfl:k=l.length:=by omega
 refine go ?_
 exact AB rfl ⟨by unfold fidxI;rw[fidx_miss e];rfl,V⟩):p:=h
theorem FT{p:Prop}(h:p:=by
 obtain rfl:k=l.length:=by omega
 rw[List.take_length]at E
 refine go ?_
 exact AB rfl ⟨V,E.sl⟩):p:=h
theorem FU{p:Prop}(h:p:=by
 have e1:(L++[c]).flatten=L.flatten++c:=by simp
 simp only
 rw[e1,List.length_append]
 exact o7):p:=h
theorem FW{p:Prop}(h:p:=by
 refine go ?_
 exact AB rfl ⟨_,rfl,E.E⟩):p:=h
theorem FX{p:Prop}(h:p:=by
 refine go ?_
 exact AB rfl ⟨rfl,e.E,d⟩):p:=h
theorem FY{p:Prop}(h:p:=by
 refine CT (out:=keysL.map AK) rfl U rfl Dv (fun R E=>go ?_)
 exact AB rfl ⟨⟨_,_,rfl,by decide,by decide,(fun h=>by cases h),.inr ⟨_,_,rfl,trivial,E.D.cells⟩⟩,E.E⟩):p:=h
theorem FZ{p:Prop}(h:p:=by
 refine go ?_
 exact AU rfl rfl rfl j.D.cells ⟨((K.trans I).trans D).E j.E O,(f6.unm j.E (fun y F C=>by rw[List.mem_singleton]at C;omega)).mono fun y F=>⟨by omega,F.2⟩⟩):p:=h
theorem Fa{p:Prop}(h:p:=by
 refine go ?_
 exact AB rfl ⟨rfl,E.E⟩):p:=h
theorem Fb{p:Prop}(h:p:=by
 exact(a4.ext d.E).trans f.E (fun x T B=>by have:=Z x (Option.mem_toList.1 T);omega)):p:=h
theorem Fc{p:Prop}(h:p:=by
 refine go ?_
 exact AB rfl ⟨false,rfl,E,fun h=>by cases h⟩):p:=h
theorem Fd{p:Prop}(h:p:=by
 obtain⟨i,H⟩:=List.getElem?_of_mem T
 exact e i x (List.getElem?_eq_some_iff.1 H).1 H):p:=h
theorem Fe{p:Prop}(h:p:=by
 refine go ?_
 exact AB rfl ⟨n,E.E.trans l⟩):p:=h
theorem Ff{p:Prop}(h:p:=by
 simp only
 rw[valsC_succ]
 exact Ac c.own d.E (fun g t=>by have:=A g t;simp;omega)):p:=h
theorem Fg{p:Prop}(h:p:=by
 exact((hN.E s.E (fun b S Z=>by rw[List.mem_singleton]at Z;omega)).E p9.E (fun b S Z=>by rw[List.mem_singleton]at Z;omega)).mono fun b S=>by omega):p:=h
theorem Fh{p:Prop}(h:p:=by
 refine go ?_
 exact Ao () ⟨rfl,rfl,rfl,rfl,trivial⟩ rfl):p:=h
theorem Fi{p:Prop}(h:p:=by
 have:(n+1)*size=(c.toList.take (n*size)++cs).length:=by rw[List.length_append,v,M,Nat.succ_mul]
 rw[this,<-List.append_assoc]
 exact List.take_left):p:=h
theorem Fj{p:Prop}(h:p:=by
 refine go ?_
 refine AH (cs:=zero5) rfl rfl rfl (AW rfl) F2 D0 (fun W9 p9=>go ?_)
 exact AU rfl rfl rfl p9.D.cells ⟨y2.E p9.E Dw,FAt.leaf _ _ 0 [] 0 0⟩):p:=h
theorem Fk{p:Prop}(h:p:=by
 obtain⟨h,l,e,hp⟩:=qa k a A
 have a6:=List.mem_of_getElem? A
 have:=Bi a6
 exact⟨h,l,e,ih W h _ a U (d.trans D) (hp.E D (fun _ _=>by simp))⟩):p:=h
theorem Fm{p:Prop}(h:p:=by
 simp only
 rw[a9,<-List.append_assoc,<-b8]
 exact(sV.snoc fV a0).E kE (fun y F j=>by simp at j;rcases j with rfl|rfl;exact F.2 rfl;exact F.1.2 rfl)):p:=h
theorem Fo{p:Prop}(h:p:=by
 obtain⟨i,R,Z,h⟩:=Cz h
 obtain⟨_,c,b,h⟩:=Cz h
 obtain⟨s,n,w,h⟩:=Cz h
 have:=Z.le;have:=b.le;have:=name_inv w;have:=h.le
 omega):p:=h
theorem Fp{p:Prop}(h:p:=by
 refine go ?_
 exact AB rfl ⟨by unfold fidxI;rw[fidx_hit T hp e];rfl,V.trans g⟩):p:=h
theorem Fq{p:Prop}(h:p:=by
 refine go ?_
 refine AH (cs:=zero5) rfl rfl rfl (AW rfl) p D0 (fun B n=>go ?_)
 exact AU rfl rfl rfl n.D.cells ⟨E.E n.E Dw,FAt.leaf _ _ 0 [] 0 0⟩):p:=h
theorem Fs{p:Prop}(h:p:=by
 rw[if_neg O]
 refine go ?_
 refine B0 g fun X a Q=>?_
 exact BB (A9 rfl ((B.E a Dw).cell (o:=0) rfl) ⟨rfl,n.E a (fun x T=>by simp at T;omega)⟩)):p:=h
theorem Ft{p:Prop}(h:p:=by
 refine go ?_
 exact AB rfl ⟨rfl,V⟩):p:=h
theorem Fu{p:Prop}(h:p:=by
 refine go ?_
 exact AB rfl ⟨congrArg Value.bool Z,f⟩):p:=h
theorem Fv{p:Prop}(h:p:=by
 refine go ?_
 refine AR (v:=.bool false) rfl rfl rfl (S.E c O) O (fun q n=>go ?_)
 exact⟨rfl,(c).any.trans n.E (fun _ h _=>h),n.D⟩):p:=h
theorem Fw{p:Prop}(h:p:=by
 obtain⟨a,b⟩:=q
 have I:x≠a:=fun e=>h (a,b) O e.symm
 rw[List.lookup_cons,beq_false_of_ne I]
 exact ih fun p v=>h p (by simp[v])):p:=h
theorem Fx{p:Prop}(h:p:=by
 rw[if_neg (fun h=>h.elim (fun h=>by rw[hic]at h;cases h) a3)]at t
 refine go ?_
 exact Ao () ⟨rfl,rfl,rfl,trivial⟩ ⟨rfl,t⟩):p:=h
theorem Fy{p:Prop}(h:p:=by
 exact(G.E t EF).mono (fun b S=>by simp only[fresh]at S⊢;omega)):p:=h
theorem Fz{p:Prop}(h:p:=by
 refine go ?_
 exact AB rfl ⟨false,rfl,r.trans I,fun h=>by cases h⟩):p:=h
theorem F0{p:Prop}(h:p:=by
 refine go ?_
 exact AB rfl ⟨by rw[S];rfl,A⟩):p:=h
theorem GA{p:Prop}(h:p:=by
 have:=List.take_append_drop k f.args
 rw[List.drop_eq_getElem_cons N,(List.getElem?_eq_some_iff.1 T).2]at this
 exact this.symm):p:=h
theorem GB{p:Prop}(h:p:=by
 repeat refine nx rfl ?_
 refine AJ (AO (AI rfl ?_))
 repeat refine nx rfl ?_
 exact AB rfl ⟨false,rfl,H,fun h=>by cases h⟩):p:=h
theorem GC{p:Prop}(h:p:=by
 rintro _ K⟨y,a,_,C⟩
 refine go ?_
 exact AB rfl ⟨y,d.E a Dw,fun g A=>by have:=C g A;have:=d.size;omega⟩):p:=h
theorem GD{p:Prop}(h:p:=by
 simp only
 rw[b0,b1,ha,if_neg Bool.false_ne_true,if_neg Bool.false_ne_true,List.append_nil]
 exact hTp.swap.E n.E O):p:=h
theorem GE{p:Prop}(h:p:=by
 have:p.1≠a:=fun e=>G.1 (List.mem_map.2 ⟨p,v,e⟩)
 rw[List.lookup_cons,beq_false_of_ne this]
 exact ih G.2 v):p:=h
theorem GG{p:Prop}(h:p:=by
 exact BZ rfl ⟨2, -1,true,rfl,rfl,fun _=>⟨by omega,by omega,fun n X W=>by rw[V];simp[Aq];omega⟩⟩):p:=h
theorem GH{p:Prop}(h:p:=by
 rw[E,List.cons_append,List.prefix_cons_inj,List.prefix_append_right_inj]
 exact a1.trans (List.prefix_append _ _)):p:=h
theorem GI{p:Prop}(h:p:=by
 refine go ?_
 exact⟨i+1,⟨rfl,ag,⟨by omega,D.E c.E Dw,l (by rw[q];rfl) rfl c⟩⟩,by omega⟩):p:=h
theorem GJ{p:Prop}(h:p:=by
 refine go ?_
 exact⟨i+1,⟨rfl,ag,⟨by omega,D.E c.E Dw,s (by rw[q];rfl) rfl c⟩⟩,by omega⟩):p:=h
theorem GL{p:Prop}(h:p:=by
 simp only
 rw[List.take_add_one,T,List.map_append]
 exact hB):p:=h
theorem nlr{a b:Nat}(h:Nat.ble a b=true:=by rfl):a<=b:=Nat.le_of_ble_eq_true h
abbrev Fr:=Nat->Value
abbrev DS:=List Deferred
def upd(f:Fr)(i:Nat)(v:Value):Fr:=fun j=>bif Nat.beq j i then v else f j
def putF(f:Fr)(d:Option Nat)(v:Value):Fr:=match d with|some i=>upd f i v|none=>f
def ev(f:Fr):Operand->Value
 | .tmp t=>f t
 | .const v=>v
 | .global g=>.pointer (sm g)
 | .func g=>.func (.func g) #[] #[]
def evL(f:Fr):List Operand->LV
 | []=>[]
 |x::l=>ev f x::evL f l
def argF:LV->Fr
 | [],_=>undef
 |v::_,0=>v
 |_::l,i+1=>argF l i
def ov:List (Nat×Value)->Fr->Fr
 | [],f=>f
 |(i,v)::l,f=>upd (ov l f) i v
def agr:List (Nat×Value)->Fr->Prop
 | [],_=>True
 |(i,v)::l,f=>f i=v/\agr l f
theorem ov_of_agr{l:List (Nat×Value)}{f:Fr}(h:agr l f):ov l f=f:=by
 induction l with
 |nil=>rfl
 |cons p l ih=>
  obtain⟨i,v⟩:=p;obtain⟨X,W⟩:=h
  funext j
  simp only[ov,upd,ih W];cases hj:Nat.beq j i with
  |true=>simp[Nat.eq_of_beq_eq_true hj,X]
  |false=>rfl
def CV(a:Act):Fr:=fun i=>a.tmps.getD i undef
theorem ev_toFr(a:Act):a.eval=ev (CV a):=by funext x;cases x<;>rfl
theorem toFr_put{a:Act}{d:Nat}(v:Value)(h:d<a.tmps.size):CV (a.put (some d) v)=upd (CV a) d v:=by
 funext j
 simp only[CV,Act.put,upd,Array.getD_eq_getD_getElem?];cases hj:Nat.beq j d with
 |true=>
  have:=Nat.eq_of_beq_eq_true hj;subst this;simp[h]
 |false=>
  have A:d≠j:=fun e=>by subst e;simp at hj
  simp[Array.getElem?_setIfInBounds_ne A]
def dOk(n:Nat):Option Nat->Bool
 |some d=>Nat.blt d n
 |none=>true
theorem toFr_putF{a:Act}{d:Option Nat}(v:Value)(h:dOk a.tmps.size d=true):CV (a.put d v)=putF (CV a) d v:=by
 cases d with
 |none=>rfl
 |some d=>exact toFr_put v (by simpa[dOk,Nat.blt_eq]using h)
theorem size_put(a:Act)(d:Option Nat)(v:Value):(a.put d v).tmps.size=a.tmps.size:=by
 cases d<;>simp[Act.put]
theorem defers_put(a:Act)(d:Option Nat)(v:Value):(a.put d v).defers=a.defers:=by
 cases d<;>rfl
def Be(P:Program)(o:Oper)(f:Fr)(ds:DS)(w:World)(K:Value->DS->World->Prop)(Z:List PanicEntry->World->Prop):Prop:=
 match(execOp (ev f) o).run P w with
 | .ok (.value v) w'=>K v ds w'
 | .ok .skip w'=>K undef ds w'
 | .ok (.defer d) w'=>K undef (d::ds) w'
 | .ok (.enter g args) w'=>Calls P g args w' fun e p=>match e with| .returned v=>K v ds p| .panicked ch=>Z ch p| .outgrown=>False
 | .ok (.round l g tmps assign body) w'=>RoundIn Fence.wide 0 P l g tmps assign body w' fun e p=>match e with| .returned v=>K v ds p| .panicked ch=>Z ch p| .outgrown=>False
 | .halt (.panic v) w'=>Z [{v,recovered:=false}] w'
 |_=>False
def guardVal(B:Array Oper)(f:Fr)(j:Nat):Option Bool:=
 match(B[j]?).bind (·.dst)with
 |some t=>(match f t with| .bool b=>some b|_=>none)
 |none=>none
def BH(B:Array Oper)(f:Fr)(g:Option (Nat×Bool)):Bool:=
 match g with
 |none=>true
 |some (j,want)=>guardVal B f j==some want
theorem yielded_toFr(B:Array Oper)(a:Act)(j:Nat):yielded B a.tmps j=guardVal B (CV a) j:=by
 unfold yielded guardVal CV;cases h:(B[j]?).bind (·.dst)with
 |none=>rfl
 |some t=>
  simp only[Option.bind_some,Array.getD_eq_getD_getElem?];cases ht:a.tmps[t]? with
  |none=>rfl
  |some v=>cases v<;>rfl
theorem wanted_toFr(B:Array Oper)(a:Act)(o:Oper):Region.wanted o (yielded B a.tmps)=BH B (CV a) o.guard:=by
 unfold Region.wanted BH;cases o.guard with
 |none=>rfl
 |some p=>obtain⟨j,L⟩:=p;simp only[yielded_toFr]
def AT(P:Program)(B:Array Oper)(Z:Fr->DS->List PanicEntry->World->Prop)(K:Fr->DS->World->Prop):List Oper->Fr->DS->World->Prop
 | [],f,j,w=>K f j w
 |o::rest,f,j,w=>
  if BH B f o.guard then Be P o f j w (fun v j w=>AT P B Z K rest (putF f o.dst v) j w) (Z f j)
  else AT P B Z K rest (putF f o.dst undef) j w
structure Cf where
 n:Nat
 r:Option Nat
def rnd(r:Option Nat):Fence:={Fence.wide with round:=r}
abbrev DY:=Exit->Fr->DS->World->Prop
def Bo(k:Fr->DS->World->Prop)(Q:DY):DY
 | .normal=>k
 |e=>Q e
def BI(id:Nat)(Q:DY):DY
 | .exit i=>if i=id then Q .normal else Q (.exit i)
 |e=>Q e
def Bj(Q:DY):DY
 | .goto _=>fun _ _ _=>False
 |e=>Q e
def liftQ(n:Nat)(Q:DY):Exit->Act->World->Prop:=fun e a w=>a.tmps.size=n/\Q e (CV a) a.defers w
def WC(P:Program)(n:Cf):Code->DY->Fr->DS->World->Prop
 | .skip,Q=>Q .normal
 | .label _,Q=>Q .normal
 | .ret,Q=>Q .ret
 | .exit id,Q=>Q (.exit id)
 | .goto _,_=>fun _ _ _=>False
 | .refuse _,_=>fun _ _ _=>False
 | .seq a b,Q=>WC P n a (Bo (WC P n b Q) Q)
 | .block id c,Q=>WC P n c (BI id Q)
 | .scope c,Q=>WC P n c (Bj Q)
 | .cond c x y,Q=>fun f j w=>match ev f c with
  | .bool b=>if b then WC P n x Q f j w else WC P n y Q f j w
  |_=>False
 | .region id ops draw,Q=>fun f j w=>
  match draw with
  |false=>AT P ops (fun f j m w=>Q (.panic m) f j w) (Q .normal) ops.toList f j w
  |true=>∀a,a.tmps.size=n.n->CV a=f->a.defers=j->(Code.region id ops true).wpIn (rnd n.r) 0 P (liftQ n.n Q) a w
 | .loop c,Q=>fun f j w=>∃(α:Type)(I:α->Fr->DS->World->Prop)(μ:α->Nat)(x:α),I x f j w/\
   ∀x f j w,I x f j w->WC P n c (Bo (fun W o Z=>∃y,I y W o Z/\μ y<μ x) Q) f j w
 | .rangeFunc g ps as body,Q=>fun f j w=>∀a,a.tmps.size=n.n->CV a=f->a.defers=j->(Code.rangeFunc g ps as body).wpIn (rnd n.r) 0 P (liftQ n.n Q) a w
def isDefer:Op->Bool
 | .defer _=>true
 |_=>false
def opOk(n:Nat)(K:Bool)(o:Oper):Bool:=dOk n o.dst&&(!K|| !isDefer o.op)
def CW(n:Nat)(K:Bool):Code->Bool
 | .seq a b=>CW n K a&&CW n K b
 | .block _ c=>CW n K c
 | .scope c=> !K&&CW n K c
 | .cond _ x y=>CW n K x&&CW n K y
 | .region _ ops draw=>draw||ops.toList.all (opOk n K)
 | .loop c=>CW n K c
 |_=>true
theorem semAt_ok{r:Option Nat}{n:Nat}{o:Oper}(h:opOk n r.isSome o=true)(ρ:Operand->Value):Oper.semAt r ρ o=execOp ρ o:=by
 cases r with
 |none=>rfl
 |some l=>
  refine Oper.semAt_eq _ ρ o fun c V=>?_;simp[opOk,V,isDefer]at h
theorem uponIn_of{P:Program}{r:Option Nat}{n:Nat}{o:Oper}{a:Act}{w:World}{K:Fr->DS->World->Prop}{Q:DY}{K':Act->World->Prop}(G:a.tmps.size=n)(c:opOk n r.isSome o=true)
  (next:∀v ds w',K (putF (CV a) o.dst v) ds w'->K' ({a with defers:=ds}.put o.dst v) w')
  (h:Be P o (CV a) a.defers w (fun v ds w=>K (putF (CV a) o.dst v) ds w) (fun f w=>Q (.panic f) (CV a) a.defers w)):o.wpIn (rnd r) 0 P a w K' (liftQ n Q):=by
 refine⟨fun _ _=>trivial,?_⟩;have D:(rnd r).round=r:=rfl;rw[D,semAt_ok c,ev_toFr];unfold Be at h;revert h;generalize (execOp (ev (CV a)) o).run P w=res;intro h;have q:(rnd r).depth.isSome=true->1<=0:=fun i=>by simp[rnd,Fence.wide]at i
 cases res with
 |halt x w'=>cases x<;>first|exact h.elim|exact⟨G,h⟩
 |ok m w'=>
  cases m with
  |value v=>exact next v a.defers w' h
  |skip=>exact next undef a.defers w' h
  |defer d=>exact next undef (d::a.defers) w' h
  |enter g args=>
   refine⟨q,?_⟩;have V:CallsIn Fence.wide (0-1) P g args w' _:=callsIn_wide.2 h;refine CallsIn.mono (F:=rnd r) V fun e p b=>?_;cases e with
   |returned v=>exact next v a.defers p b
   |panicked f=>exact⟨G,b⟩
   |outgrown=>exact b.elim
  |round l g tmps assign body=>
   refine⟨q,?_⟩;have V:RoundIn (rnd r) (0-1) P l g tmps assign body w' _:=h;refine RoundIn.mono V fun e p b=>?_;cases e with
   |returned v=>exact next v a.defers p b
   |panicked f=>exact⟨G,b⟩
   |outgrown=>exact b.elim
  |_=>exact h.elim
theorem next_of{n:Nat}{o:Oper}{a:Act}{K:Fr->DS->World->Prop}{K':Act->World->Prop}(G:a.tmps.size=n)(c:dOk n o.dst=true)
  (s:∀X w',X.tmps.size=n->K (CV X) X.defers w'->K' X w'):∀v ds w',K (putF (CV a) o.dst v) ds w'->K' ({a with defers:=ds}.put o.dst v) w':=by
 intro v ds w' w;refine s _ w' (by rw[size_put];exact G) ?_;rw[defers_put];have e:CV ({a with defers:=ds}.put o.dst v)=putF (CV a) o.dst v:=toFr_putF (a:={a with defers:=ds}) (d:=o.dst) v (by rw[G];exact c);rw[e];exact w
theorem wpListIn_of_WOps{P:Program}{B:Array Oper}{n:Nat}{r:Option Nat}{Q:DY}:∀(l:List Oper)(a:Act)(w:World),a.tmps.size=n->l.all (opOk n r.isSome)=true->
  AT P B (fun f ds m w=>Q (.panic m) f ds w) (Q .normal) l (CV a) a.defers w->wpListIn (rnd r) 0 P B (liftQ n Q) l a w
 | [],a,w,hn,_,h=>⟨hn,h⟩
 |o::rest,a,w,hn,hok,h=>by
  simp only[List.all_cons,Bool.and_eq_true]at hok;have C:dOk n o.dst=true:=by have:=hok.1;simp only[opOk,Bool.and_eq_true]at this;exact this.1
  have next:=next_of (n:=n) (o:=o) (a:=a) (K:=AT P B (fun f ds m w=>Q (.panic m) f ds w) (Q .normal) rest) (K':=wpListIn (rnd r) 0 P B (liftQ n Q) rest) hn C
   (fun X Z b W=>wpListIn_of_WOps rest X Z b hok.2 W)
  unfold wpListIn;unfold AT at h;rw[wanted_toFr];by_cases D:BH B (CV a) o.guard=true
  ·rw[if_pos D]at h;rw[if_pos D];exact uponIn_of hn hok.1 next h
  ·rw[if_neg D]at h;rw[if_neg D];exact⟨fun _ _=>trivial,next undef a.defers w h⟩
theorem lift_mono{n:Nat}{Q I:DY}(h:∀e f ds w,Q e f ds w->I e f ds w):∀e a w,liftQ n Q e a w->liftQ n I e a w:=
 fun e a w⟨h1,h2⟩=>⟨h1,h e _ _ w h2⟩
theorem CE{P:Program}{n:Cf}:∀(c:Code)(Q:DY)(a:Act)(w:World),a.tmps.size=n.n->CW n.n n.r.isSome c=true->
  WC P n c Q (CV a) a.defers w->c.wpIn (rnd n.r) 0 P (liftQ n.n Q) a w
 | .skip,Q,a,w,hn,_,h=>wpIn_skip ⟨hn,h⟩
 | .label _,Q,a,w,hn,_,h=>wpIn_label ⟨hn,h⟩
 | .ret,Q,a,w,hn,_,h=>wpIn_ret ⟨hn,h⟩
 | .exit _,Q,a,w,hn,_,h=>wpIn_exit ⟨hn,h⟩
 | .goto _,_,_,_,_,_,h=>h.elim
 | .refuse _,_,_,_,_,_,h=>h.elim
 | .seq x y,Q,a,w,hn,hok,h=>by
  simp only[CW,Bool.and_eq_true]at hok;refine wpIn_seq (wpIn_mono (CE x _ a w hn hok.1 h) ?_);intro e a w T;obtain⟨X,W⟩:=T;cases e with
  |normal=>exact CE y Q a w X hok.2 W
  |_=>exact⟨X,W⟩
 | .block id c,Q,a,w,hn,hok,h=>by
  refine wpIn_block (wpIn_mono (CE c _ a w hn hok h) ?_);intro e a w T;obtain⟨X,W⟩:=T;cases e with
  |exit i=>
   simp only[Exit.inBlock];simp only[BI]at W;by_cases H:i=id
   ·rw[if_pos H]at W⊢;exact⟨X,W⟩
   ·rw[if_neg H]at W⊢;exact⟨X,W⟩
  |_=>exact⟨X,W⟩
 | .scope c,Q,a,w,hn,hok,h=>by
  simp only[CW,Bool.and_eq_true,Bool.not_eq_true']at hok;obtain⟨p,r⟩:=n;cases r with
  |some l=>simp at hok
  |none=>
   refine wpIn_wide.2 (wp_scope_straight (wp_mono (wpIn_wide.1 (CE (n:=⟨p,none⟩) c _ a w hn hok.2 h)) ?_));intro e a w T;obtain⟨X,W⟩:=T;cases e with
   |goto l=>exact W.elim
   |_=>exact⟨X,W⟩
 | .cond c x y,Q,a,w,hn,hok,h=>by
  simp only[CW,Bool.and_eq_true]at hok;simp only[WC]at h;have F:=ev_toFr a;cases hc:ev (CV a) c<;>simp only[hc]at h
  case bool b=>
   refine wpIn_cond (t:=b) (by rw[F];exact hc) ?_;cases b with
   |true=>exact CE x Q a w hn hok.1 h
   |false=>exact CE y Q a w hn hok.2 h
  all_goals exact h.elim
 | .region id ops draw,Q,a,w,hn,hok,h=>by
  cases draw with
  |false=>
   simp only[CW,Bool.false_or]at hok;exact wpIn_region_list (wpListIn_of_WOps ops.toList a w hn hok h)
  |true=>exact h a hn rfl rfl
 | .loop c,Q,a,w,hn,hok,h=>by
  obtain⟨α,I,μ,x,s,f⟩:=h;refine wpIn_loop_ghost (fun(m:Nat)a w=>∃x,μ x=m/\a.tmps.size=n.n/\I x (CV a) a.defers w) (μ x) ⟨x,rfl,hn,s⟩ ?_;rintro m a w⟨x,rfl,X,W⟩;refine wpIn_mono (CE c _ a w X hok (f _ _ _ _ W)) ?_;intro e g Z T;obtain⟨d,z⟩:=T;cases e with
  |normal=>obtain⟨y,S,V⟩:=z;exact⟨μ y,V,y,rfl,d,S⟩
  |_=>exact⟨d,z⟩
 | .rangeFunc _ _ _ _,Q,a,w,hn,_,h=>h a hn rfl rfl
def tupleOf:LV->Value
 | [v]=>v
 |l=>.tuple l.toArray
def DG(P:Program):List ResultVar->Fr->World->(LV->Prop)->Prop
 | [],_,_,k=>k []
 | .tmp t::r,f,w,k=>DG P r f w fun l=>k (f t::l)
 | .cell a T::r,f,w,k=>∃H v,f a=.pointer (some H)/\(loadVar T H).run P w=.ok v w/\DG P r f w fun l=>k (v::l)
theorem Do{P:Program}{w:World}{tmps:Array Value}{g:ResultVar->Sem Value}(F:∀t,g (.tmp t)=pure (tmps.getD t undef))
  (c:∀a t,g (.cell a t)=(do loadVar t (<-asAddr (tmps.getD a undef)))):∀(n:List ResultVar)(k:LV->Prop),DG P n (fun i=>tmps.getD i undef) w k->
  ∃l,k l/\(n.mapM g).run P w=.ok l w
 | [],k,h=>⟨[],h,by simp⟩
 | .tmp t::r,k,h=>by
  obtain⟨l,X,W⟩:=Do F c r _ h;refine⟨_,X,?_⟩;simp only[List.mapM_cons,F,Sem.run_bind,Sem.run_pure,Result.andThen_ok,W]
 | .cell a T::r,k,h=>by
  obtain⟨H,v,b,A,e⟩:=h;obtain⟨l,X,W⟩:=Do F c r _ e;refine⟨_,X,?_⟩;have d:tmps.getD a undef=.pointer (some H):=b;have K:asAddr (.pointer (some H))=pure H:=rfl;simp only[List.mapM_cons,c,d,K,Sem.run_bind,Sem.run_pure,Result.andThen_ok,A,W]
theorem run_results{P:Program}{fn:Func}{w:World}{tmps:Array Value}{k:LV->Prop}(h:DG P fn.results.toList (fun i=>tmps.getD i undef) w k):
  ∃l,k l/\(results fn tmps).run P w=.ok (tupleOf l) w:=by
 unfold results;rw[Array.mapM_eq_mapM_toList];have y:∀(x:Sem (LV)),(Functor.map List.toArray x:Sem (Array Value))=x >>= fun l=>pure l.toArray:=fun _=>rfl;rw[y];simp only[Sem.run_bind];obtain⟨l,X,W⟩:=Do (g:=fun| .tmp t=>pure (tmps.getD t undef)| .cell a t=>do loadVar t (<-asAddr (tmps.getD a undef))) (fun _=>rfl) (fun _ _=>rfl) _ _ h;refine⟨l,X,?_⟩;refine(congrArg (fun r=>Result.andThen (Result.andThen r _) _) W).trans ?_;simp only[Result.andThen_ok,Sem.run_pure]
 match l with
 | []=>rfl
 | [v]=>rfl
 |_::_::_=>rfl
def Cw(P:Program)(fn:Func)(R:Value->World->Prop)(Z:List PanicEntry->World->Prop):DY
 | .normal=>fun f j w=>j=[]/\DG P fn.results.toList f w fun l=>R (tupleOf l) w
 | .ret=>fun f j w=>j=[]/\DG P fn.results.toList f w fun l=>R (tupleOf l) w
 | .panic ch=>fun _ j w=>j=[]/\Z ch w
 |_=>fun _ _ _=>False
def FnP(P:Program)(g:FuncId)(args:LV)(w:World)(R:Value->World->Prop)(Z:List PanicEntry->World->Prop):Prop:=
 Calls P g args.toArray w fun e a=>match e with| .returned v=>R v a| .panicked ch=>Z ch a| .outgrown=>False
def Fn(P:Program)(g:FuncId)(args:LV)(w:World)(R:Value->World->Prop):Prop:=FnP P g args w R fun _ _=>False
theorem FnP.mono{P:Program}{g:FuncId}{args:LV}{w:World}{R i:Value->World->Prop}{Z a:List PanicEntry->World->Prop}
  (h:FnP P g args w R Z)(x:∀v w',R v w'->i v w')(o:∀m w',Z m w'->a m w'):FnP P g args w i a:=
 Calls.mono h fun e w' F=>by cases e with
  |returned v=>exact x v w' F
  |panicked m=>exact o m w' F
  |outgrown=>exact F
theorem Fn.mono{P:Program}{g:FuncId}{args:LV}{w:World}{R i:Value->World->Prop}
  (h:Fn P g args w R)(x:∀v w',R v w'->i v w'):Fn P g args w i:=FnP.mono h x fun _ _ h=>h
theorem argF_get:∀(l:LV)(i:Nat),argF l i=l.getD i undef
 | [],i=>by simp[argF]
 |_::_,0=>rfl
 |_::l,i+1=>by simp[argF,argF_get l i]
theorem toFr_args(l:LV)(k:Nat):CV {tmps:=l.toArray++Array.replicate k undef,defers:=[]}=argF l:=by
 funext i
 rw[argF_get];simp only[CV,Array.getD_eq_getD_getElem?,List.getD_eq_getElem?_getD,Array.getElem?_append];by_cases h:i<l.length
 ·simp[h]
 ·have e:l[i]?=none:=List.getElem?_eq_none U;rw[e];simp only[List.size_toArray,h,if_false];by_cases W:i-l.length<k
  ·simp[W]
  ·rw[Array.getElem?_eq_none Dw]
def lv(P:Program)(fn:Func)(R:Value->World->Prop)(Z:List PanicEntry->World->Prop)(f:Fr):DS->FrameMode->World->Prop
 | [],.returning,w=>DG P fn.results.toList f w fun l=>R (tupleOf l) w
 | [],.panicking ch,w=>Z ch w
 | [],.run,_=>False
 |d::ds,u,w=>u≠ .run/\
  ((∃r a,d.target=.collected r/\(Instr.takeDeferred r).run P w=.ok [] a/\lv P fn R Z f ds u a)\/
   (∃G b g i,d.target=.fn G b/\(invoke d.target d.args).run P w=.ok (.enter g i) w/\
   CallsDIn Fence.wide 0 P g i u w fun
    | .returned _,u',a=>lv P fn R Z f ds (settle u') a
    | .panicked ch,u',a=>lv P fn R Z f ds (raised u' ch) a
    | .outgrown,_,_=>False))
def DV(P:Program)(fn:Func)(R:Value->World->Prop)(Z:List PanicEntry->World->Prop):DY
 | .normal=>fun f j w=>lv P fn R Z f j .returning w
 | .ret=>fun f j w=>lv P fn R Z f j .returning w
 | .panic ch=>fun f j w=>lv P fn R Z f j (.panicking ch) w
 |_=>fun _ _ _=>False
def endR(R:Value->World->Prop)(Z:List PanicEntry->World->Prop):Ending->World->Prop
 | .returned v,w=>R v w
 | .panicked ch,w=>Z ch w
 | .outgrown,_=>False
theorem CO{P:Program}{fn:Func}{R:Value->World->Prop}{Z:List PanicEntry->World->Prop}{tmps:Array Value}:∀(ds:DS)(u:FrameMode)(w:World),lv P fn R Z (fun i=>tmps.getD i undef) ds u w->
  LeavesInM Fence.wide 0 P fn tmps (endR R Z) ds u w
 | [],.returning,w,h=>by
  obtain⟨l,X,W⟩:=run_results h;exact⟨_,W,X⟩
 | [],.panicking ch,w,h=>h
 | [],.run,w,h=>h
 |d::ds,u,w,h=>by
  obtain⟨n,h⟩:=h;refine⟨n,?_⟩;rcases h with⟨r,a,X,W,Q⟩|⟨G,f,g,b,X,W,Q⟩
  ·exact .inl ⟨r,a,X,W,CO ds u a Q⟩
  ·refine .inr ⟨fun x=>by simp[Fence.wide]at x,G,f,g,b,X,W,fun _ _=>trivial,Q.1,?_⟩;intro c j V m;obtain⟨e,o,a,k,q,z⟩:=Q.2 c j V m;refine⟨e,o,a,k,?_,z⟩;cases e with
   |returned v=>exact CO ds _ _ q
   |panicked ch=>exact CO ds _ _ q
   |outgrown=>exact q.elim
theorem fnD_of_wc{P:Program}{g:FuncId}{fn:Func}{c:Code}{args:LV}{w:World}{R:Value->World->Prop}{Z:List PanicEntry->World->Prop}
  (K:P.funcs[g]?=some fn)(S:fn.body=some c){n:Nat}(G:fn.ntmps=n)(M:args.length<=n)(d:CW n false c=true)
  (h:WC P ⟨n,none⟩ c (DV P fn R Z) (argF args) [] w):FnP P g args w R Z:=by
 have D:(args.toArray++Array.replicate (fn.ntmps-args.toArray.size) undef).size=n:=by simp[G];omega
 have b:=CE (P:=P) (n:=⟨n,none⟩) c (DV P fn R Z) {tmps:=args.toArray++Array.replicate (fn.ntmps-args.toArray.size) undef,defers:=[]} w D d (by rw[toFr_args];exact h)
 have V:CallsIn Fence.wide 0 P g args.toArray w (endR R Z):=by
  refine callsIn_of_wp_marks K S trivial ?_;refine wpIn_mono b ?_;rintro e a f⟨_,T⟩;cases e with
  |normal=>exact CO _ _ _ T
  |ret=>exact CO _ _ _ T
  |panic ch=>exact CO _ _ _ T
  |exit _=>exact T.elim
  |goto _=>exact T.elim
  |outgrown=>exact T.elim
 refine Calls.mono (callsIn_wide.1 V) fun e f F=>?_;cases e<;>exact F
theorem A7{P:Program}{g:FuncId}{fn:Func}{c:Code}{args:LV}{w:World}{R:Value->World->Prop}{Z:List PanicEntry->World->Prop}
  (K:P.funcs[g]?=some fn)(S:fn.body=some c){n:Nat}(G:fn.ntmps=n)(M:args.length<=n)(f:CW n false c=true)
  (h:WC P ⟨n,none⟩ c (Cw P fn R Z) (argF args) [] w):FnP P g args w R Z:=by
 have D:(args.toArray++Array.replicate (fn.ntmps-args.toArray.size) undef).size=n:=by simp[G];omega
 have d:=CE (P:=P) (n:=⟨n,none⟩) c (Cw P fn R Z) {tmps:=args.toArray++Array.replicate (fn.ntmps-args.toArray.size) undef,defers:=[]} w D f (by rw[toFr_args];exact h)
 have V:CallsIn Fence.wide 0 P g args.toArray w (endR R Z):=by
  refine callsIn_of_wp_marks K S trivial ?_;refine wpIn_mono d ?_;rintro e a b⟨_,T⟩;cases e with
  |normal=>obtain⟨C,x⟩:=T;simp only[bodyPostM,C];exact CO [] .returning b x
  |ret=>obtain⟨C,x⟩:=T;simp only[bodyPostM,C];exact CO [] .returning b x
  |panic ch=>obtain⟨C,x⟩:=T;simp only[bodyPostM,C];exact CO (R:=R) (fn:=fn) (tmps:=a.tmps) [] (.panicking ch) b x
  |exit _=>exact T.elim
  |goto _=>exact T.elim
  |outgrown=>exact T.elim
 refine Calls.mono (callsIn_wide.1 V) fun e b F=>?_;cases e<;>exact F
attribute [irreducible] WC AT Bo BI Bj Cw DV Be
section
def Unm(w:World)(b:Nat):Prop:=∀(c:Array Value)(t:TypeId)(Z:Nat×Nat),w.heap[b]?=some (.cells c t Z)->Z=(0,0)\/∀(i:Nat)(v:Value),c[i]?=some v->∃n,v=.int .u8 n
class MK (mk:outParam Prop):Prop where
 triv:True
structure Keep{mk:Prop}[MK mk](X:List Nat)(w w':World):Prop where
 os:w'.os=w.os
 tape:w'.tape=w.tape
 output:w'.output=w.output
 size:w.heap.size<=w'.heap.size
 block:∀b,b<w.heap.size->b∉X->w'.heap[b]?=w.heap[b]?
 mark:mk->∀b,(b<w.heap.size->Unm w b)->Unm w' b
 drawn:w.drawn<=w'.drawn
variable {mk:Prop}[MK mk]
abbrev Ext(w w':World):Prop:=Keep [] w w'
theorem Unm.out{w:World}{b:Nat}(h:w.heap.size<=b):Unm w b:=fun c t Z e=>by rw[Array.getElem?_eq_none h]at e;cases e
theorem Unm.eq{w w':World}{b:Nat}(h:Unm w b)(e:w'.heap[b]?=w.heap[b]?):Unm w' b:=fun c t Z R=>h c t Z (e▸R)
theorem Unm.cells{w:World}{b:Nat}{c:Array Value}{t:TypeId}(h:w.heap[b]?=some (.cells c t (0,0))):Unm w b:=fun z I Z e=>by rw[h]at e;cases e;exact .inl rfl
theorem mark_refl(w:World):∀b,(b<w.heap.size->Unm w b)->Unm w b:=fun b h=>by
 by_cases S:b<w.heap.size
 ·exact h S
 ·exact Unm.out U
theorem mark_heap{w w':World}(e:w'.heap=w.heap):∀b,(b<w.heap.size->Unm w b)->Unm w' b:=fun b h=>(mark_refl w b h).eq (by rw[e])
theorem mark_new{w w':World}(D:w'.heap.size<=w.heap.size+1)(R:∀k,k<w.heap.size->w'.heap[k]?=w.heap[k]?)(G:Unm w' w.heap.size):∀b,(b<w.heap.size->Unm w b)->Unm w' b:=fun b h=>by
 by_cases S:b<w.heap.size
 ·exact(h S).eq (R b S)
 ·by_cases F:b=w.heap.size
  ·rw[F];exact G
  ·exact Unm.out U
theorem mark_put{w w':World}{g:Nat}(D:w'.heap.size=w.heap.size)(R:∀k,k≠g->w'.heap[k]?=w.heap[k]?)(t:Unm w' g):∀b,(b<w.heap.size->Unm w b)->Unm w' b:=fun b h=>by
 by_cases F:b=g
 ·rw[F];exact t
 ·exact(mark_refl w b h).eq (R b F)
theorem mark_obj{w:World}{g:Nat}{o:Obj}(R:∀c t Z,o≠ .cells c t Z):∀b,(b<w.heap.size->Unm w b)->Unm {w with heap:=w.heap.setIfInBounds g o} b:=
 mark_put (g:=g) O (fun k P=>by simp[Ne.symm P]) fun c t Z e=>by
  by_cases h:g<w.heap.size
  ·simp[h]at e;exact absurd e (R c t Z)
  ·rw[Array.getElem?_eq_none Dw]at e;cases e
theorem Keep.refl(X:List Nat)(w:World):Keep X w w:=⟨rfl,rfl,rfl,Nat.le_refl _,fun _ _ _=>rfl,fun _=>mark_refl w,Nat.le_refl _⟩
theorem Ext.refl(w:World):Ext w w:=Keep.refl [] w
theorem Keep.trans{X Y:List Nat}{a b c:World}(h:Keep X a b)(k:Keep Y b c)(n:∀x∈Y,x<a.heap.size->x∈X):Keep X a c:=
 ⟨k.os.trans h.os,k.tape.trans h.tape,k.output.trans h.output,Nat.le_trans h.size k.size,fun i H T=>
  (k.block i (Nat.lt_of_lt_of_le H h.size) fun F=>T (n i F H)).trans (h.block i H T),
  (fun m b S=>k.mark m b fun _=>h.mark m b S),Nat.le_trans h.drawn k.drawn⟩
theorem Keep.ext{X:List Nat}{a b c:World}(h:Keep X a b)(k:Ext b c):Keep X a c:=h.trans k (fun _ T=>by cases T)
theorem Keep.mono{X Y:List Nat}{a b:World}(h:Keep X a b)(F:∀x∈X,x∈Y):Keep Y a b:=
 ⟨h.os,h.tape,h.output,h.size,(fun i H T=>h.block i H fun y=>T (F i y)),h.mark,h.drawn⟩
theorem Ext.any{X:List Nat}{a b:World}(h:Ext a b):Keep X a b:=h.mono fun _ T=>by cases T
theorem Ext.E{Y:List Nat}{a b c:World}(h:Ext a b)(k:Keep Y b c)(n:∀x∈Y,a.heap.size<=x):Ext a c:=
 h.trans k fun x T B=>absurd (n x T) U
theorem Ext.trans{a b c:World}(h:Ext a b)(k:Ext b c):Ext a c:=Keep.ext h k
theorem Keep.of_grown{w w':World}{o:Option Nat}(h:w.grownBy w' o)(C:w.drawn<=w'.drawn)(y:mk->∀b,(b<w.heap.size->Unm w b)->Unm w' b):Keep o.toList w w':=
 ⟨h.os,h.tape,h.output,h.size,(fun k P T=>h.block k P fun e=>T (by rw[<-e];simp)),y,C⟩
theorem Keep.weak{m:Prop}[i:MK m][j:MK True]{X:List Nat}{w w':World}(h: @Keep True j X w w'): @Keep m i X w w':=@Keep.mk m i X w w' (@Keep.os True j X w w' h) (@Keep.tape True j X w w' h) (@Keep.output True j X w w' h) (@Keep.size True j X w w' h) (@Keep.block True j X w w' h) (fun _=>@Keep.mark True j X w w' h trivial) (@Keep.drawn True j X w w' h)
theorem Keep.fresh[j:MK True]{X:List Nat}{w w':World}(h: @Keep True j X w w'){b:Nat}(S:w.heap.size<=b):Unm w' b:=@Keep.mark True j X w w' h trivial b fun h=>absurd h U
theorem Keep.cell{X:List Nat}{w w':World}(h:Keep X w w'){b o:Nat}{v:Value}(V:w.cell? ⟨b,o,none⟩=some v)(S:b∉X):w'.cell? ⟨b,o,none⟩=some v:=by
 have B:=World.block_lt_of_cell? w _ V;exact(World.cell?_of_block (w:=w) (h.block b B S)).trans V
def Blk(w:World)(b:Nat)(T:TypeId)(L:LV):Prop:=w.heap[b]?=some (.cells L.toArray T (0,0))
theorem Blk.lt{w:World}{b:Nat}{T:TypeId}{L:LV}(h:Blk w b T L):b<w.heap.size:=(Array.getElem?_eq_some_iff.1 h).1
theorem Blk.E{X:List Nat}{w w':World}{b:Nat}{T:TypeId}{L:LV}(h:Blk w b T L)(k:Keep X w w')(S:b∉X):Blk w' b T L:=(k.block b h.lt S).trans h
theorem Blk.cell{w:World}{b:Nat}{T:TypeId}{L:LV}(h:Blk w b T L){o:Nat}{v:Value}(R:L[o]?=some v):w.cell? ⟨b,o,none⟩=some v:=by
 unfold Blk at h;simp[World.cell?,h,R]
theorem Blk.frozen{w:World}{b:Nat}{T:TypeId}{L:LV}(h:Blk w b T L)(o:Nat):w.frozen? ⟨b,o,none⟩=false:=by
 unfold Blk at h;simp[World.frozen?,h]
structure New(w w':World)(T:TypeId)(L:LV):Prop where
 E:Ext w w'
 size:w'.heap.size=w.heap.size+1
 D:Blk w' w.heap.size T L
theorem New.mk_alloc(w:World)(L:LV)(T:TypeId):New w (w.alloc (.cells L.toArray T)) T L:=
 ⟨⟨rfl,rfl,rfl,by simp,fun k P _=>heap_alloc_old w _ P,fun _=>mark_new O (fun k P=>heap_alloc_old w _ P) (Unm.cells (heap_alloc_new w _)),Nat.le_refl _⟩,by simp,heap_alloc_new w _⟩
structure Put(w w':World)(b:Nat)(T:TypeId)(L:LV):Prop where
 E:Keep [b] w w'
 size:w'.heap.size=w.heap.size
 D:Blk w' b T L
theorem Put.mk_setCell{w:World}{b:Nat}{T:TypeId}{L:LV}(h:Blk w b T L)(o:Nat)(v:Value):Put w (w.setCell ⟨b,o,none⟩ v) b T (L.set o v):=by
 unfold Blk at h
 have S:Blk (w.setCell ⟨b,o,none⟩ v) b T (L.set o v):=by
  simp only[Blk,World.setCell,Array.getElem?_modify,h];simp
 refine⟨⟨rfl,rfl,rfl,by simp[World.setCell],fun k _ P=>?_,fun _=>mark_put (g:=b) (by simp[World.setCell]) (fun k P=>?_) (Unm.cells S),Nat.le_refl _⟩,by simp[World.setCell],S⟩
 ·exact Below.heap_setCell w ⟨b,o,none⟩ v k (by simpa using P)
 ·exact Below.heap_setCell w ⟨b,o,none⟩ v k (by simpa using P)
def Cells(w:World)(b p:Nat)(cs:LV):Prop:=∀(i:Nat)(u:Value),cs[i]?=some u->w.cell? ⟨b,p+i,none⟩=some u
theorem Cells.E{X:List Nat}{w w':World}{b p:Nat}{cs:LV}(h:Cells w b p cs)(k:Keep X w w')(S:b∉X):Cells w' b p cs:=
 fun i u n=>k.cell (h i u n) S
theorem Blk.cells{w:World}{b:Nat}{T:TypeId}{L:LV}(h:Blk w b T L):Cells w b 0 L:=fun i u n=>by rw[Nat.zero_add];exact h.cell n
theorem Cells.part{w:World}{b p:Nat}{cs:LV}(h:Cells w b p cs)(k n:Nat):Cells w b (p+k) ((cs.drop k).take n):=by
 intro i u a;rw[List.getElem?_take]at a
 split at a
 ·rw[List.getElem?_drop]at a;rw[Nat.add_assoc];exact h (k+i) u a
 ·cases a
def adv(cap l size:Nat)(a:Option Addr):Option Addr:=if cap=l then a else a.map (·.add (l*size))
def Sl(ok:Nat->Prop)(w:World)(v:Value)(n:Nat)(cs:LV):Prop:=
 ∃a c,v=.slice a n c/\n<=c/\c<=9223372036854775807/\(a=none->c=0)/\
  (n=0\/∃b p,a=some ⟨b,p,none⟩/\ok b/\Cells w b p cs)
theorem Sl.E{ok:Nat->Prop}{X:List Nat}{w w':World}{v:Value}{n:Nat}{cs:LV}(h:Sl ok w v n cs)(k:Keep X w w')(e:∀b,ok b->b∉X):Sl ok w' v n cs:=by
 obtain⟨a,c,q,d,W,Q,z⟩:=h;refine⟨a,c,q,d,W,Q,z.imp id ?_⟩;rintro⟨b,p,I,S,V⟩;exact⟨b,p,I,S,V.E k (e b S)⟩
theorem Sl.ext{ok:Nat->Prop}{w w':World}{v:Value}{n:Nat}{cs:LV}(h:Sl ok w v n cs)(k:Ext w w'):Sl ok w' v n cs:=h.E k fun _ _=>by simp
theorem Sl.mono{ok ok':Nat->Prop}{w:World}{v:Value}{n:Nat}{cs:LV}(h:Sl ok w v n cs)(P:∀b,ok b->ok' b):Sl ok' w v n cs:=by
 obtain⟨a,c,q,X,W,Q,z⟩:=h;refine⟨a,c,q,X,W,Q,z.imp id ?_⟩;rintro⟨b,p,I,S,V⟩;exact⟨b,p,I,P b S,V⟩
theorem New.own{w w':World}{e size n B:Nat}{out:LV}(h:New w w' e out)(M:out.length=n*size)(G:n<=maxLen)(f:B<=w.heap.size):w'.ownsRow B e size (.slice (sm w.heap.size) n n) n out:=
 ⟨M,.inr ⟨w.heap.size,n,out.toArray,rfl,f,h.D,Nat.le_refl _,G,by simpa using M,by rw[<-M];simp⟩⟩
theorem Bl{w:World}{B a e size n:Nat}{v:Value}{xs:LV}(h:w.ownsRow B e size v n xs)(f:a<=B):w.ownsRow a e size v n xs:=by
 refine⟨h.1,h.2.imp id ?_⟩;rintro⟨g,c,b,q,t,r⟩;exact⟨g,c,b,q,Nat.le_trans f t,r⟩
theorem Ac{X:List Nat}{w w':World}{B e size n:Nat}{v:Value}{xs:LV}(h:w.ownsRow B e size v n xs)(k:Keep X w w')(W:∀g,v.ownBlock=some g->g∉X):w'.ownsRow B e size v n xs:=by
 refine⟨h.1,h.2.imp id ?_⟩;rintro⟨g,a,b,rfl,t,x,r⟩;exact⟨g,a,b,rfl,t,(k.block g (Array.getElem?_eq_some_iff.1 x).1 (W g rfl)).trans x,r⟩
theorem Ae{w w':World}{B e size n:Nat}{v:Value}{xs:LV}(h:w.ownsRow B e size v n xs)(k:Ext w w'):w'.ownsRow B e size v n xs:=Ac h k fun _ _=>by simp
theorem Aa{w:World}{B e size n:Nat}{v:Value}{xs:LV}{ok:Nat->Prop}(h:w.ownsRow B e size v n xs)(c:∀g,v.ownBlock=some g->ok g):Sl ok w v n xs:=by
 obtain⟨M,q⟩:=h;rcases q with⟨rfl,rfl⟩|⟨g,d,b,rfl,S,t,W,m,x,P⟩
 ·exact⟨none,0,rfl,by omega,by omega,fun _=>rfl,.inl rfl⟩
 ·refine⟨_,d,rfl,W,by unfold maxLen at m;omega,(fun h=>by cases h),.inr ⟨g,0,rfl,c g rfl,?_⟩⟩;intro i u a;have f:i<n*size:=by rw[<-M];exact(List.getElem?_eq_some_iff.1 a).1
  rw[<-P,List.getElem?_take,if_pos f]at a;simp only[World.cell?,t,Nat.zero_add];simpa using a
def AV:Nat->Prop:=fun _=>True
def enc8(c:UInt8):Value:=.int .u8 (c.toNat:Int)
def cells8(l:LU):LV:=l.map enc8
theorem cells8_get{l:LU}{i:Nat}(h:i<l.length):(cells8 l)[i]?=some (enc8 (l.getD i 0)):=by
 simp[cells8,h]
def BytesAt(ok:Nat->Prop)(w:World)(v:Value)(l:LU):Prop:=Sl ok w v l.length (cells8 l)
def LB(ok:Nat->Prop)(w:World)(v:Value)(m:List (LU)):Prop:=
 ∃R:LV,Sl ok w v m.length R/\R.length=m.length/\∀(i:Nat)(u:Value)(l:LU),R[i]?=some u->m[i]?=some l->BytesAt ok w u l
end
section
variable {mk:Prop}[MK mk]
attribute [local semireducible] WC AT Bo BI Bj Cw DV Be
def aggD:TypeDesc->Bool
 | .struct _=>true
 | .array _ _=>true
 |_=>false
class Ck (P:Program) (T:TypeId):Prop where
 out:∃d,P.underlying T=some d/\aggD d=false
class AggT (P:Program) (T:TypeId) (size:outParam Nat):Prop where
 out:(∃d,P.underlying T=some d/\aggD d=true)/\∃i,P.info? T=some i/\i.size=size
class BU (P:Program) (T:TypeId) (size:outParam Nat):Prop where
 out:∃i,P.info? T=some i/\i.size=size
class Bf (P:Program) (T:TypeId) (L:outParam (LV)):Prop where
 out:∃i z,P.info? T=some i/\i.zero=some z/\z.cells=L.toArray
class SlT (P:Program) (T:TypeId) (e size bytes:outParam Nat) (z:outParam Value):Prop where
 und:P.underlying T=some (.slice e)
 out:∃i,P.info? e=some i/\i.zero=some z/\i.size=size/\i.bytes=bytes
class ArrT (P:Program) (T:TypeId) (len e size:outParam Nat):Prop where
 und:P.underlying T=some (.array len e)
 out:∃i,P.info? e=some i/\i.size=size
class Ar (P:Program) (T:TypeId) (i:Nat) (off:outParam Nat) (ft:outParam TypeId):Prop where
 out:∃fs fld,P.underlying T=some (.struct fs)/\fs[i]?=some fld/\fld.offset=off/\fld.type=ft/\∃j,P.info? ft=some j/\j.size≠0
class StrT (P:Program) (T:TypeId):Prop where
 out:P.underlying T=some .string
class IntT (P:Program) (T:TypeId) (k:outParam IntKind):Prop where
 out:P.underlying T=some (.int k)
class AF (P:Program) (g:FuncId):Prop where
 out:∃fn,P.funcs[g]?=some fn/\¬fn.name= "runtime.NumGoroutine" /\¬fn.body=none
variable {P:Program}{all:Array Oper}{Z:Fr->DS->List PanicEntry->World->Prop}{K:Fr->DS->World->Prop}{rest:List Oper}{f:Fr}{ds:DS}{w:World}
 {d:Nat}{ty:TypeId}{pos:String}{af:Array Edge}
theorem AA(h:K f ds w):AT P all Z K [] f ds w:=h
theorem Aw{o:Oper}{v:Value}{w':World}(g:o.guard=none)(i:(execOp (ev f) o).run P w=.ok (.value v) w')(h:AT P all Z K rest (putF f o.dst v) ds w'):AT P all Z K (o::rest) f ds w:=by
 unfold AT;rw[g];simp only[BH,if_true,Be,i];exact h
theorem W_skp{o:Oper}{w':World}(g:o.guard=none)(i:(execOp (ev f) o).run P w=.ok .skip w')(h:AT P all Z K rest (putF f o.dst undef) ds w'):AT P all Z K (o::rest) f ds w:=by
 unfold AT;rw[g];simp only[BH,if_true,Be,i];exact h
theorem AN{q:Option Nat}{N:Op}{j:Nat}{L:Bool}(g:guardVal all f j=some L)(h:AT P all Z K (⟨q,N,ty,pos,af,none⟩::rest) f ds w):AT P all Z K (⟨q,N,ty,pos,af,some (j,L)⟩::rest) f ds w:=by
 unfold AT at h⊢;simp only[BH,g,beq_self_eq_true,if_true]at h⊢;exact h
theorem Ak{q:Option Nat}{N:Op}{j:Nat}{L:Bool}(g:(guardVal all f j==some L)=false)(h:AT P all Z K rest (putF f q undef) ds w):AT P all Z K (⟨q,N,ty,pos,af,some (j,L)⟩::rest) f ds w:=by
 unfold AT;have e:BH all f (some (j,L))=false:=g;simp only[e,Bool.false_eq_true,if_false];exact h
theorem W_move{x:Operand}(h:AT P all Z K rest (upd f d (ev f x)) ds w):AT P all Z K (⟨some d,.move x,ty,pos,af,none⟩::rest) f ds w:=
 Aw rfl (by simp[execOp]) h
theorem W_pick_t{c x y:Operand}(V:ev f c=.bool true)(h:AT P all Z K rest (upd f d (ev f x)) ds w):AT P all Z K (⟨some d,.pick c x y,ty,pos,af,none⟩::rest) f ds w:=
 Aw rfl (by simp[execOp,V,asBool]) h
theorem W_pick_f{c x y:Operand}(V:ev f c=.bool false)(h:AT P all Z K rest (upd f d (ev f y)) ds w):AT P all Z K (⟨some d,.pick c x y,ty,pos,af,none⟩::rest) f ds w:=
 Aw rfl (by simp[execOp,V,asBool]) h
theorem run_zero{T:TypeId}{L:LV}[h:Bf P T L](w:World):∃z,(zeroValue T).run P w=.ok z w/\z.cells=L.toArray:=by
 obtain⟨i,z,hi,o,V⟩:=h.out;exact⟨z,by simp[zeroValue,typeInfo,hi,o],V⟩
theorem AS{T:TypeId}{L:LV}[hT:Bf P T L](h:∀w',New w w' T L->AT P all Z K rest (upd f d (.pointer (sm w.heap.size))) ds w'):
  AT P all Z K (⟨some d,.alloc T,ty,pos,af,none⟩::rest) f ds w:=by
 obtain⟨z,o,V⟩:=run_zero (P:=P) (T:=T) w;refine Aw (v:=.pointer (sm w.heap.size)) (w':=w.alloc (.cells L.toArray T)) rfl ?_ (h _ (New.mk_alloc w L T));simp[execOp,Instr.alloc,o,newVar,newRow,newObj,V,Sem.run]
theorem Ai{T:TypeId}{x:Operand}{L:LV}(g:(ev f x).cells=L.toArray)(h:∀w',New w w' T L->AT P all Z K rest (upd f d (.pointer (sm w.heap.size))) ds w'):
  AT P all Z K (⟨some d,.box T x,ty,pos,af,none⟩::rest) f ds w:=by
 refine Aw (v:=.pointer (sm w.heap.size)) (w':=w.alloc (.cells L.toArray T)) rfl ?_ (h _ (New.mk_alloc w L T));simp[execOp,Instr.box,newVar,newRow,newObj,g,Sem.run]
theorem AL{T:TypeId}{a:Operand}{b o:Nat}{v:Value}[hT:Ck P T](I:ev f a=.pointer (some ⟨b,o,none⟩))(V:w.cell? ⟨b,o,none⟩=some v)(h:AT P all Z K rest (upd f d v) ds w):
  AT P all Z K (⟨some d,.load T a,ty,pos,af,none⟩::rest) f ds w:=by
 obtain⟨Q,X,W⟩:=hT.out;refine Aw (v:=v) rfl ?_ h
 have e:(isAgg T).run P w=.ok false w:=by
  simp only[isAgg,Sem.run_bind,run_underlying X,Result.andThen_ok];cases Q<;>simp_all [aggD]
 simp only[execOp,I,Instr.loadAt,Instr.sureAddr,loadVar,Sem.run_bind,Sem.run_pure,Result.andThen_ok,e];simp[run_load,V]
theorem AQ{T:TypeId}{a:Operand}{b o n:Nat}{L:LV}[hT:AggT P T n](I:ev f a=.pointer (some ⟨b,o,none⟩))(M:L.length=n)(V:Cells w b o L)
  (h:AT P all Z K rest (upd f d (.agg L.toArray)) ds w):AT P all Z K (⟨some d,.load T a,ty,pos,af,none⟩::rest) f ds w:=by
 obtain⟨⟨Q,X,W⟩,i,hi,D⟩:=hT.out;refine Aw (v:=.agg L.toArray) rfl ?_ h
 have e:(isAgg T).run P w=.ok true w:=by
  simp only[isAgg,Sem.run_bind,run_underlying X,Result.andThen_ok];cases Q<;>simp_all [aggD]
 have g:=run_loadCells_list (P:=P) w ⟨b,o,none⟩ L (fun j v m=>by rw[Addr.add_lit];exact V j v m);rw[M,<-D]at g;simp only[execOp,I,Instr.loadAt,Instr.sureAddr,loadVar,Sem.run_bind,Sem.run_pure,Result.andThen_ok,e,if_true,sizeOf,typeInfo,program];simp[Sem.run,hi,g]
theorem AR{T p:TypeId}{a x:Operand}{b o:Nat}{v:Value}{L:LV}[hT:BU P T 1](I:ev f a=.pointer (some ⟨b,o,none⟩))(j:ev f x=v)(X:v.oneCell'=true)
  (S:Blk w b p L)(R:o<L.length)(h:∀w',Put w w' b p (L.set o v)->AT P all Z K rest f ds w'):
  AT P all Z K (⟨none,.store T a x,ty,pos,af,none⟩::rest) f ds w:=by
 obtain⟨i,hi,D⟩:=hT.out;refine W_skp (w':=w.setCell ⟨b,o,none⟩ v) rfl ?_ (h _ (Put.mk_setCell S o v));have q:v.cells= #[v]:=by cases v<;>simp_all [Value.cells,Value.oneCell']
 have V:w.cell? ⟨b,o,none⟩=some L[o]:=S.cell (by simp[R]);have g:=S.frozen o;simp only[execOp,I,j,Instr.storeAt,Instr.sureAddr,storeVar,Sem.run_bind,Sem.run_pure,Result.andThen_ok,sizeOf,typeInfo,program];simp[Sem.run,hi,D,q,storeCells,run_store P w _ v .plain X,V,g,Addr.add]
def inR(k:IntKind)(n:Int):Prop:=k.min<=n/\n<=k.max
theorem wrap_in{k:IntKind}{n:Int}(h:inR k n):k.wrap n=n:=by
 obtain⟨X,W⟩:=h;cases k<;>simp[IntKind.min,IntKind.max,IntKind.signed,IntKind.bits]at X W<;>simp[IntKind.wrap,IntKind.signed,IntKind.bits]<;>omega
theorem CD{n:Int}(X: -9223372036854775808<=n)(W:n<=9223372036854775807):inR .i64 n:=by
 simp only[inR,IntKind.min,IntKind.max,IntKind.signed,IntKind.bits];exact⟨by simpa using X,by simpa using W⟩
theorem Cl{n:Int}(X:0<=n)(W:n<=255):inR .u8 n:=by
 simp only[inR,IntKind.min,IntKind.max,IntKind.signed,IntKind.bits];exact⟨by simpa using X,by simpa using W⟩
theorem CB{n:Int}(X:0<=n)(W:n<=65535):inR .u16 n:=by
 simp only[inR,IntKind.min,IntKind.max,IntKind.signed,IntKind.bits];exact⟨by simpa using X,by simpa using W⟩
section
variable {x y:Operand}{xt yt:TypeId}{k:IntKind}{a b:Int}
theorem W_add(i:ev f x=.int k a)(F:ev f y=.int k b)(g:inR k (a+b))(h:AT P all Z K rest (upd f d (.int k (a+b))) ds w):
  AT P all Z K (⟨some d,.binOp .add xt x y yt,ty,pos,af,none⟩::rest) f ds w:=
 Aw rfl EV h
theorem W_sub(i:ev f x=.int k a)(F:ev f y=.int k b)(g:inR k (a-b))(h:AT P all Z K rest (upd f d (.int k (a-b))) ds w):
  AT P all Z K (⟨some d,.binOp .sub xt x y yt,ty,pos,af,none⟩::rest) f ds w:=
 Aw rfl EV h
theorem W_mul(i:ev f x=.int k a)(F:ev f y=.int k b)(g:inR k (a*b))(h:AT P all Z K rest (upd f d (.int k (a*b))) ds w):
  AT P all Z K (⟨some d,.binOp .mul xt x y yt,ty,pos,af,none⟩::rest) f ds w:=
 Aw rfl EV h
theorem W_quo(i:ev f x=.int k a)(F:ev f y=.int k b)(I:0<=a)(S:0<b)(g:inR k a)(h:AT P all Z K rest (upd f d (.int k (a/b))) ds w):
  AT P all Z K (⟨some d,.binOp .quo xt x y yt,ty,pos,af,none⟩::rest) f ds w:=by
 have e:a.tdiv b=a/b:=Int.tdiv_eq_ediv_of_nonneg I;have X:a/b<=a:=Int.ediv_le_self b I;have j:0<=a/b:=Int.ediv_nonneg I U;have m:k.min<=0:=by cases k<;>decide
 have E:inR k (a/b):=⟨by omega,by have:=g.2;omega⟩;exact Aw rfl (by simp[execOp,i,F,eqGuard,binOp,Op.intDiv,show¬b=0 by omega,e,wrap_in E]) h
theorem W_rem(g:ev f x=.int k a)(F:ev f y=.int k b)(I:0<=a)(S:0<b)(h:AT P all Z K rest (upd f d (.int k (a%b))) ds w):
  AT P all Z K (⟨some d,.binOp .rem xt x y yt,ty,pos,af,none⟩::rest) f ds w:=by
 have e:a.tmod b=a%b:=Int.tmod_eq_emod_of_nonneg I;exact Aw rfl (by simp[execOp,g,F,eqGuard,binOp,Op.intDiv,show¬b=0 by omega,e]) h
theorem Dh(g:ev f x=.int k a)(F:ev f y=.int k b)(i:a<b->AT P all Z K rest (upd f d (.bool true)) ds w)(h:b<=a->AT P all Z K rest (upd f d (.bool false)) ds w):
  AT P all Z K (⟨some d,.binOp .lss xt x y yt,ty,pos,af,none⟩::rest) f ds w:=by
 by_cases V:a<b
 ·exact Aw rfl ED (i V)
 ·exact Aw rfl ED (h U)
theorem Cr(g:ev f x=.int k a)(F:ev f y=.int k b)(i:a<=b->AT P all Z K rest (upd f d (.bool true)) ds w)(h:b<a->AT P all Z K rest (upd f d (.bool false)) ds w):
  AT P all Z K (⟨some d,.binOp .leq xt x y yt,ty,pos,af,none⟩::rest) f ds w:=by
 by_cases V:a<=b
 ·exact Aw rfl ED (i V)
 ·exact Aw rfl ED (h U)
theorem W_gtr(g:ev f x=.int k a)(F:ev f y=.int k b)(i:b<a->AT P all Z K rest (upd f d (.bool true)) ds w)(h:a<=b->AT P all Z K rest (upd f d (.bool false)) ds w):
  AT P all Z K (⟨some d,.binOp .gtr xt x y yt,ty,pos,af,none⟩::rest) f ds w:=by
 by_cases V:b<a
 ·exact Aw rfl ED (i V)
 ·exact Aw rfl ED (h U)
theorem W_geq(g:ev f x=.int k a)(F:ev f y=.int k b)(i:b<=a->AT P all Z K rest (upd f d (.bool true)) ds w)(h:a<b->AT P all Z K rest (upd f d (.bool false)) ds w):
  AT P all Z K (⟨some d,.binOp .geq xt x y yt,ty,pos,af,none⟩::rest) f ds w:=by
 by_cases V:b<=a
 ·exact Aw rfl ED (i V)
 ·exact Aw rfl ED (h U)
theorem Bm(g:ev f x=.int k a)(F:ev f y=.int k b)(i:a=b->AT P all Z K rest (upd f d (.bool true)) ds w)(h:a≠b->AT P all Z K rest (upd f d (.bool false)) ds w):
  AT P all Z K (⟨some d,.binOp .eql xt x y yt,ty,pos,af,none⟩::rest) f ds w:=by
 by_cases V:a=b
 ·exact Aw rfl ED (i V)
 ·exact Aw rfl ED (h V)
theorem W_neq(g:ev f x=.int k a)(F:ev f y=.int k b)(i:a≠b->AT P all Z K rest (upd f d (.bool true)) ds w)(h:a=b->AT P all Z K rest (upd f d (.bool false)) ds w):
  AT P all Z K (⟨some d,.binOp .neq xt x y yt,ty,pos,af,none⟩::rest) f ds w:=by
 by_cases V:a=b
 ·exact Aw rfl ED (h V)
 ·exact Aw rfl ED (i V)
theorem W_not{c:Bool}(g:ev f x=.bool c)(h:AT P all Z K rest (upd f d (.bool (!c))) ds w):
  AT P all Z K (⟨some d,.unOp .not xt x,ty,pos,af,none⟩::rest) f ds w:=
 Aw rfl (by simp[execOp,g,Op.unary]) h
theorem W_conv[hs:IntT P yt k]{k':IntKind}(i:ev f x=.int k' a)(g:inR k a)(h:AT P all Z K rest (upd f d (.int k a)) ds w)
  {D:TypeId}[hst:IntT P D k']:AT P all Z K (⟨some d,.convert D yt x,ty,pos,af,none⟩::rest) f ds w:=
 Aw rfl (by simp[execOp,i,convert,run_underlying hs.out,run_underlying hst.out,Conv.intToInt,wrap_in g]) h
end
abbrev AK(l:LU):Value:=.string ⟨l.toArray⟩
section
variable {x y:Operand}{xt yt:TypeId}{s t:LU}
theorem Bn(g:ev f x=AK s)(F:ev f y=AK t)(i:s=t->AT P all Z K rest (upd f d (.bool true)) ds w)(h:s≠t->AT P all Z K rest (upd f d (.bool false)) ds w):
  AT P all Z K (⟨some d,.binOp .eql xt x y yt,ty,pos,af,none⟩::rest) f ds w:=by
 by_cases V:s=t
 ·exact Aw rfl (by simp[execOp,g,F,eqGuard,binOp,Op.stringOp,V]) (i V)
 ·exact Aw rfl (by simp[execOp,g,F,eqGuard,binOp,Op.stringOp,V]) (h V)
theorem W_sindex{i:Operand}{k:IntKind}{j:Int}{c:UInt8}[hT:StrT P xt](o:ev f x=AK s)(hi:ev f i=.int k j)(g:0<=j)(V:s[j.toNat]?=some c)(h:AT P all Z K rest (upd f d (enc8 c)) ds w):
  AT P all Z K (⟨some d,.index xt x i,ty,pos,af,none⟩::rest) f ds w:=by
 refine Aw rfl ?_ h;obtain⟨B,m⟩:=List.getElem?_eq_some_iff.1 V
 have e:(⟨s.toArray⟩:ByteArray)[j.toNat]?=some c:=by
  simp only[getElem?_def,ByteArray.size];simp[B];exact m
 simp[execOp,o,hi,Instr.index,asIntOf,run_underlying hT.out,g,e,enc8]
end
theorem AD{T i p:Nat}{H:TypeId}{x:Operand}{b o:Nat}[hT:Ar P T i p H](r:ev f x=.pointer (some ⟨b,o,none⟩))(h:AT P all Z K rest (upd f d (.pointer (some ⟨b,o+p,none⟩))) ds w):
  AT P all Z K (⟨some d,.fieldAddr T x i,ty,pos,af,none⟩::rest) f ds w:=by
 obtain⟨u,G,X,W,Q,g,j,m,q⟩:=hT.out;refine Aw rfl ?_ h;simp only[execOp,r,Instr.fieldAt,Sem.run_bind,run_underlying X,Result.andThen_ok,W,Instr.sureAddr,Sem.run_pure,fieldPlace,sizeOf,typeInfo,program];simp[Sem.run,g,m,q,Q,Addr.add_lit]
theorem Bd{T e size bytes:Nat}{z:Value}{x i:Operand}{b o n c:Nat}{k:IntKind}{j:Int}[hT:SlT P T e size bytes z](p:ev f x=.slice (some ⟨b,o,none⟩) n c)(hi:ev f i=.int k j)
  (g:0<=j)(X:j<n)(h:AT P all Z K rest (upd f d (.pointer (some ⟨b,o+j.toNat*size,none⟩))) ds w):
  AT P all Z K (⟨some d,.indexAddr T x i,ty,pos,af,none⟩::rest) f ds w:=by
 obtain⟨q,m,_,D,_⟩:=hT.out;refine Aw rfl ?_ h;simp only[execOp,p,hi,Instr.indexAt,asIntOf,Sem.run_bind,Sem.run_pure,Result.andThen_ok,run_underlying hT.und,sizeOf,typeInfo,program];simp[Sem.run,m,D,g,X,Addr.add_lit]
theorem Dp{T g e size:Nat}{x i:Operand}{b o:Nat}{k:IntKind}{j:Int}[hT:ArrT P T g e size](r:ev f x=.pointer (some ⟨b,o,none⟩))(hi:ev f i=.int k j)
  (m:0<=j)(X:j<g)(h:AT P all Z K rest (upd f d (.pointer (some ⟨b,o+j.toNat*size,none⟩))) ds w):
  AT P all Z K (⟨some d,.indexAddr T x i,ty,pos,af,none⟩::rest) f ds w:=by
 obtain⟨q,p,D⟩:=hT.out;refine Aw rfl ?_ h;simp only[execOp,r,hi,Instr.indexAt,asIntOf,Sem.run_bind,Sem.run_pure,Result.andThen_ok,run_underlying hT.und,sizeOf,typeInfo,program,Instr.sureAddr];simp[Sem.run,p,D,m,X,Addr.add_lit]
theorem Cd{T e size bytes:Nat}{z:Value}{x i:Operand}{b o n c k:Nat}{u:IntKind}{j:Int}[hT:SlT P T e size bytes z](m:ev f x=.slice (some ⟨b,o,none⟩) n c)(hi:ev f i=.int u j)
  (g:j=(k:Int))(X:k<n)(h:AT P all Z K rest (upd f d (.pointer (some ⟨b,o+k*size,none⟩))) ds w):
  AT P all Z K (⟨some d,.indexAddr T x i,ty,pos,af,none⟩::rest) f ds w:=by
 subst g;exact Bd m hi U U EC
theorem W_idx1{T e bytes:Nat}{z:Value}{x i:Operand}{b o n c k:Nat}{u:IntKind}{j:Int}[hT:SlT P T e 1 bytes z](m:ev f x=.slice (some ⟨b,o,none⟩) n c)(hi:ev f i=.int u j)
  (g:j=(k:Int))(X:k<n)(h:AT P all Z K rest (upd f d (.pointer (some ⟨b,o+k,none⟩))) ds w):
  AT P all Z K (⟨some d,.indexAddr T x i,ty,pos,af,none⟩::rest) f ds w:=
 Cd m hi g X EC
theorem Du{x:Operand}{vs:LV}{i:Nat}{v:Value}(g:ev f x=.tuple vs.toArray)(hi:vs[i]?=some v)(h:AT P all Z K rest (upd f d v) ds w):
  AT P all Z K (⟨some d,.extract x i,ty,pos,af,none⟩::rest) f ds w:=
 Aw rfl (by simp[execOp,g,Instr.extract,hi]) h
theorem evL_map(f:Fr):∀l:List Operand,evL f l=l.map (ev f)
 | []=>rfl
 |_::l=>by simp[evL,evL_map f l]
theorem At{g:FuncId}{xs:List Operand}{B:Array TypeId}{vs:LV}{R:Value->World->Prop}{Y:List PanicEntry->World->Prop}[hg:AF P g]
  (V:FnP P g vs w R Y)(I:evL f xs=vs)(h:∀v w',R v w'->AT P all Z K rest (upd f d v) ds w')(o:∀m w',Y m w'->Z f ds m w'):
  AT P all Z K (⟨some d,.call ⟨.value (.func g),xs.toArray,B⟩,ty,pos,af,none⟩::rest) f ds w:=by
 obtain⟨j,X,W,Q⟩:=hg.out
 have i:(execOp (ev f) ⟨some d,.call ⟨.value (.func g),xs.toArray,B⟩,ty,pos,af,none⟩).run P w=.ok (.enter g vs.toArray) w:=by
  rw[evL_map]at I;simp only[execOp,resolve,ev,Deferred.ofValue,Sem.run_bind,Sem.run_pure,Result.andThen_ok,invoke,callFunc,program];simp[Sem.run,X,W,Q,<-I]
 unfold AT;simp only[BH,if_true,Be,i];refine Calls.mono V fun e w' F=>?_;cases e with
 |returned v=>exact h v w' F
 |panicked m=>exact o m w' F
 |outgrown=>exact F
theorem AE{g:FuncId}{xs:List Operand}{B:Array TypeId}{vs:LV}{R:Value->World->Prop}[hg:AF P g]
  (V:Fn P g vs w R)(I:evL f xs=vs)(h:∀v w',R v w'->AT P all Z K rest (upd f d v) ds w'):
  AT P all Z K (⟨some d,.call ⟨.value (.func g),xs.toArray,B⟩,ty,pos,af,none⟩::rest) f ds w:=
 At V I h fun _ _ h=>h.elim
theorem Bt{x:Operand}{T e size bytes:Nat}{z:Value}{a:Option Addr}{n c:Nat}[hT:SlT P T e size bytes z](g:ev f x=.slice a n c)(h:AT P all Z K rest (upd f d (iV (n:Int))) ds w):
  AT P all Z K (⟨some d,.call ⟨.builtin .len,#[x],#[T]⟩,ty,pos,af,none⟩::rest) f ds w:=by
 refine Aw (v:=iV (n:Int)) rfl ?_ h;simp[execOp,resolve,invoke,builtin,Builtin.len_,g,run_underlying hT.und,goInt]
theorem W_slen{x:Operand}{T:TypeId}{s:LU}[hT:StrT P T](g:ev f x=AK s)(h:AT P all Z K rest (upd f d (iV (s.length:Int))) ds w):
  AT P all Z K (⟨some d,.call ⟨.builtin .len,#[x],#[T]⟩,ty,pos,af,none⟩::rest) f ds w:=by
 refine Aw (v:=iV (s.length:Int)) rfl ?_ h;have X:(⟨s.toArray⟩:ByteArray).size=s.length:=rfl;simp[execOp,resolve,invoke,builtin,Builtin.len_,g,run_underlying hT.out,goInt,X]
section
variable {T e size bytes:Nat}{z:Value}{x lo hi:Operand}{a:Option Addr}{n c:Nat}{k k':IntKind}{l h':Int}
theorem W_slice_lh[hT:SlT P T e size bytes z](m:ev f x=.slice a n c)(M:ev f lo=.int k l)(i:ev f hi=.int k' h')(g:0<=l)(X:l<=h')(W:h'<=c)
  (h:AT P all Z K rest (upd f d (.slice (adv c l.toNat size a) (h'.toNat-l.toNat) (c-l.toNat))) ds w):
  AT P all Z K (⟨some d,.slice T x (some lo) (some hi) none,ty,pos,af,none⟩::rest) f ds w:=by
 obtain⟨q,j,_,D,_⟩:=hT.out;refine Aw rfl ?_ h;simp only[execOp,m,M,i,Option.map_some,Option.map_none,Instr.sliceAt,Sem.run_bind,run_underlying hT.und,Result.andThen_ok,Instr.slice,Instr.sliceBounds,Instr.sliceBound,asIntOf,Sem.run_pure,sizeOf,typeInfo,program];simp[Sem.run,j,D,g,show(0:Int)<=h' by omega,W,adv];intro o;omega
theorem W_slice_l[hT:SlT P T e size bytes z](j:ev f x=.slice a n c)(M:ev f lo=.int k l)(g:0<=l)(X:l<=n)
  (h:AT P all Z K rest (upd f d (.slice (adv c l.toNat size a) (n-l.toNat) (c-l.toNat))) ds w):
  AT P all Z K (⟨some d,.slice T x (some lo) none none,ty,pos,af,none⟩::rest) f ds w:=by
 obtain⟨q,i,_,D,_⟩:=hT.out;refine Aw rfl ?_ h;simp only[execOp,j,M,Option.map_some,Option.map_none,Instr.sliceAt,Sem.run_bind,run_underlying hT.und,Result.andThen_ok,Instr.slice,Instr.sliceBounds,Instr.sliceBound,asIntOf,Sem.run_pure,sizeOf,typeInfo,program];simp[Sem.run,i,D,g,X,adv]
theorem W_slice_h[hT:SlT P T e size bytes z](j:ev f x=.slice a n c)(g:ev f hi=.int k' h')(X:0<=h')(W:h'<=c)
  (h:AT P all Z K rest (upd f d (.slice a h'.toNat c)) ds w):
  AT P all Z K (⟨some d,.slice T x none (some hi) none,ty,pos,af,none⟩::rest) f ds w:=by
 obtain⟨q,i,_,D,_⟩:=hT.out;refine Aw rfl ?_ h;simp only[execOp,j,g,Option.map_some,Option.map_none,Instr.sliceAt,Sem.run_bind,run_underlying hT.und,Result.andThen_ok,Instr.slice,Instr.sliceBounds,Instr.sliceBound,asIntOf,Sem.run_pure,sizeOf,typeInfo,program]
 have e:(if c=0 then a else a.map fun(x:Addr)=>x.add 0)=a:=by
  split
  ·rfl
  ·cases a with
   |none=>rfl
   |some a=>simp[Addr.add]
 simp[Sem.run,i,D,X,W,e]
theorem W_slice_arr{g:Nat}{b o:Nat}[hT:ArrT P T g e size](j:ev f x=.pointer (some ⟨b,o,none⟩))(h:AT P all Z K rest (upd f d (.slice (some ⟨b,o,none⟩) g g)) ds w):
  AT P all Z K (⟨some d,.slice T x none none none,ty,pos,af,none⟩::rest) f ds w:=by
 obtain⟨q,i,D⟩:=hT.out;refine Aw rfl ?_ h;simp only[execOp,j,Option.map_none,Instr.sliceAt,Sem.run_bind,run_underlying hT.und,Result.andThen_ok,Instr.sureAddr,Instr.sliceBounds,Sem.run_pure,sizeOf,typeInfo,program];simp[Sem.run,i,D,Addr.add_lit]
end
end
section
variable {mk:Prop}[MK mk]
attribute [local semireducible] WC AT Bo BI Bj Cw DV Be
variable {P:Program}{all:Array Oper}{Z:Fr->DS->List PanicEntry->World->Prop}{K:Fr->DS->World->Prop}{rest:List Oper}{f:Fr}{ds:DS}{w:World}
 {d:Nat}{ty:TypeId}{pos:String}{af:Array Edge}
def oneC(cs:LV):Prop:=∀u∈cs,u.oneCell'=true
structure Apd(w w':World)(B:Nat)(e size:Nat)(v v':Value)(n:Nat)(xs:LV):Prop where
 own:w'.ownsRow B e size v' n xs
 E:Keep v.ownBlock.toList w w'
 D:v'.ownBlock=v.ownBlock\/v'.ownBlock=some w.heap.size
 some:n≠0->v'.ownBlock≠none
theorem own_some{w:World}{B e size:Nat}{v:Value}{n:Nat}{xs:LV}(h:w.ownsRow B e size v n xs)(G:n≠0):v.ownBlock≠none:=by
 rcases h.2 with⟨_,s⟩|⟨g,_,_,rfl,_⟩
 ·exact absurd s G
 ·simp[Value.ownBlock]
theorem run_append_sl{T e size F:Nat}{z:Value}(l:SlT P T e size F z)(b0:0<size)(b1:z.cells.size=size)(t:TypeId){B:Nat}{v sv:Value}{n m:Nat}{xs cs:LV}{ok:Nat->Prop}
  (p:w.ownsRow B e size v n xs)(hs:Sl ok w sv m cs)(M:cs.length=m*size)(X:oneC cs)(y:n+m<=maxLen)(S:(n+m)*F<=140737488355328)(hB:B<=w.heap.size):
  ∃A w',(Builtin.append_ #[T,T] t #[v,sv]).run P w=.ok A w'/\Apd w w' B e size v A (n+m) (xs++cs):=by
 obtain⟨i,H,W,r,N⟩:=l.out;obtain⟨a,C,rfl,b2,_,a9,a7⟩:=hs;cases a with
 |none=>
  have a6:=a9 rfl;subst a6;obtain rfl:m=0:=by omega
  obtain rfl:cs=[]:=List.eq_nil_of_length_eq_zero (by simpa using M);have q:=run_append_owned_none (P:=P) w B T t e i size l.und H v n xs p;exact⟨v,w,q,by simpa using p,Keep.refl _ _,.inl rfl,fun G=>own_some p U⟩
 |some ad=>
  have I:∀j u,cs[j]?=some u->w.cell? (ad.add j)=some u:=by
   intro j u D;rcases a7 with s|⟨b,b6,he,_,hc⟩
   ·subst s;have:cs=[]:=List.eq_nil_of_length_eq_zero (by simpa using M);rw[this]at D;simp at D
   ·cases he;rw[Addr.add_lit];exact hc j u D
  obtain⟨A,w',q,L,hg,b3⟩:=run_append_own (P:=P) w B T t e i z size F l.und H W r N b1 b0 v n xs p ad m C cs M I X y S hB;have a2:((n+m:Nat):Int)<=9223372036854775807:=by simp only[maxLen]at y;omega
  have a4:∀o c,o=Obj.cells c e (0,0)->∀b,(b<w.heap.size->Unm w b)->Unm (w.drew.alloc o) b:=fun o c L=>mark_new O (fun k V=>heap_alloc_old w.drew o V) (Unm.cells (c:=c) (t:=e) (by rw[<-L];exact heap_alloc_new w.drew o))
  have a0:(∀b,(b<w.heap.size->Unm w b)->Unm w' b)/\(A.ownBlock=v.ownBlock\/A.ownBlock=some w.heap.size)/\w.drawn<=w'.drawn:=by
   rcases p.2 with⟨rfl,rfl⟩|⟨g,E,a5,rfl,_,a1,b4,_,a8,b5⟩
   ·by_cases s:m=0
    ·subst s;have G:cs=[]:=List.eq_nil_of_length_eq_zero (by simpa using M);subst G
     have h:(Builtin.append_ #[T,T] t #[.slice none 0 0,.slice (some ad) 0 C]).run P w=.ok (.slice none 0 0) w:=by
      simp[Builtin.append_,run_underlying l.und,sizeOf,typeInfo,H,Builtin.lenOf,Builtin.firstCells,loadCells,loadCellsFrom]
     rw[q]at h;cases h;exact⟨mark_refl w,.inl rfl,Nat.le_refl _⟩
    ·have h:=run_append_nil (P:=P) w T t e i z l.und H W ad m C cs (by rw[r];exact M) I U (by simpa using a2) (by rw[N];have:=S;simp only[Nat.zero_add]at this;omega);rw[q]at h;cases h;exact⟨a4 _ _ rfl,.inr rfl,Nat.le_succ _⟩
   ·by_cases a3:n+m<=E
    ·have h:=run_append_room (P:=P) w T t e i l.und H g n E a5 a1 ad m C cs (by rw[r];exact M) I X a3 (by rw[M,a8,r,<-Nat.add_mul];exact Nat.mul_le_mul_right _ a3);rw[q]at h;cases h;exact⟨mark_put (g:=g) (by simp[World.setRow]) (fun k V=>setRow_other w g k _ V) (Unm.cells (setRow_heap w g _ _ e _ a1)),.inl rfl,Nat.le_refl _⟩
    ·have h:=run_append_grow (P:=P) w T t e i z l.und H W ⟨g,0,none⟩ n E xs (by rw[r];exact p.1) (fun j u D=>p.cells (g:=g) rfl j u D) ad m C cs (by rw[r];exact M) I U a2 (by rw[N];exact growslice_fits U S);rw[q]at h;cases h;exact⟨a4 _ _ rfl,.inr rfl,Nat.le_succ _⟩
  exact⟨A,w',q,L,Keep.of_grown hg a0.2.2 (fun _=>a0.1),a0.2.1,fun G=>own_some L G⟩
theorem Ap{T e size F:Nat}{z:Value}{s x:Operand}{B n m:Nat}{v sv:Value}{xs cs:LV}{ok:Nat->Prop}[hT:SlT P T e size F z](q:ev f s=v)(g:ev f x=sv)
  (b:w.ownsRow B e size v n xs)(D:Sl ok w sv m cs)(i:0<size)(A:z.cells.size=size)(M:cs.length=m*size)(X:oneC cs)(y:n+m<=9223372036854775807)(S:(n+m)*F<=140737488355328)(a:B<=w.heap.size)
  (h:∀o w',Apd w w' B e size v o (n+m) (xs++cs)->AT P all Z K rest (upd f d o) ds w'):
  AT P all Z K (⟨some d,.call ⟨.builtin .append,#[s,x],#[T,T]⟩,ty,pos,af,none⟩::rest) f ds w:=by
 obtain⟨o,w',c,I⟩:=run_append_sl (P:=P) hT i A ty b D M X D3 S a;refine Aw (v:=o) (w':=w') rfl ?_ (h o w' I);simp[execOp,resolve,invoke,builtin,q,g,c]
theorem W_make{T e size F:Nat}{z:Value}{l c:Operand}{k A:IntKind}{n:Nat}{N M:Int}[hT:SlT P T e size F z](j:ev f l=.int k N)(V:ev f c=.int A M)(b:N=(n:Int))(a:M=(n:Int))(S:F*n<=281474976710656)(y:n<=maxLen)
  (h:∀w',New w w' e (madeCells z.cells (n*size)).toList->AT P all Z K rest (upd f d (.slice (sm w.heap.size) n n)) ds w'):
  AT P all Z K (⟨some d,.makeSlice T l c,ty,pos,af,none⟩::rest) f ds w:=by
 subst b;subst a;obtain⟨i,H,o,m,E⟩:=hT.out;have p:(n:Int)<=9223372036854775807:=by simp only[maxLen]at y;omega
 have g:(i.bytes:Int)*(n:Int)<=281474976710656:=by
  rw[E];have h:((F*n:Nat):Int)<=281474976710656:=by omega
  rwa [Int.natCast_mul]at h
 have q:=run_make (P:=P) w T e i z hT.und H o k A n n U (Int.le_refl _) g p;refine Aw (v:=.slice (sm w.heap.size) n n) (w':=w.alloc (.cells (madeCells z.cells (n*size)).toList.toArray e)) rfl ?_ (h _ (New.mk_alloc w _ e));simp[execOp,j,V,q,m]
theorem AH{T p n:Nat}{a x:Operand}{b o:Nat}{cs L:LV}[hT:BU P T n](I:ev f a=.pointer (some ⟨b,o,none⟩))(l:ev f x=.agg cs.toArray)(G:cs.length=n)(X:oneC cs)
  (S:Blk w b p L)(m:o+n<=L.length)(h:∀w',Put w w' b p (splice L o cs)->AT P all Z K rest f ds w'):
  AT P all Z K (⟨none,.store T a x,ty,pos,af,none⟩::rest) f ds w:=by
 obtain⟨i,H,D⟩:=hT.out;have c:w.heap[b]?=some (.cells L.toArray p (0,0)):=S;have j:=run_storeCells_at P b o p cs 0 L.toArray w c Dw X;simp only[Nat.add_zero]at j;refine W_skp (w':=w.setRow b (splice L o cs).toArray) rfl ?_ (h _ ⟨⟨rfl,rfl,rfl,by simp[World.setRow],fun k _ e=>setRow_other w b k _ (by simpa using e),fun _=>mark_put (g:=b) (by simp[World.setRow]) (fun k e=>setRow_other w b k _ e) (Unm.cells (setRow_heap w b _ _ p _ c)),Nat.le_refl _⟩,by simp[World.setRow],setRow_heap w b _ _ p _ c⟩);simp only[execOp,I,l,Instr.storeAt,Instr.sureAddr,storeVar,Sem.run_bind,Sem.run_pure,Result.andThen_ok,sizeOf,typeInfo,program,Value.cells];simp[Sem.run,H,D,G];rw[j];simp[splice]
class StT (P:Program) (T:TypeId) (places:outParam (List (Nat×Nat))) (zero:outParam (LV)):Prop where
 out:∃fs i z,P.underlying T=some (.struct fs)/\P.info? T=some i/\i.zero=some z/\z.cells=zero.toArray/\
  ∀w,(fs.mapM (m:=Sem) fun f=>do pure (f.offset,<-sizeOf f.type)).run P w=.ok places.toArray w
def fillL(B:Nat->Option (Nat×Nat))(a:LV):List (Nat×Value)->Option (LV)
 | []=>some a
 |(i,v)::rest=>
  match B i with
  |none=>none
  |some (off,size)=>if v.cells.size=size/\off+size<=a.length then fillL B (splice a off v.cells.toList) rest else none
theorem foldl_set(cs:LV):∀(k b:Nat)(g:Array Value),b+k+cs.length<=g.size->
  (cs.zipIdx k).foldl (fun(a:Array Value)(p:Value×Nat)=>a.setIfInBounds (b+p.2) p.1) g=(splice g.toList (b+k) cs).toArray:=by
 induction cs with
 |nil=>intro k b g _;simp[splice]
 |cons c cs ih=>
  intro k b g h;simp only[List.zipIdx_cons,List.foldl_cons];simp only[List.length_cons]at h;rw[ih (k+1) b _ Dw]
  congr 1
  simp only[splice,Array.toList_setIfInBounds,List.length_cons];have e:b+(k+1)=b+k+1:=by omega
  rw[e,List.take_set,List.drop_set,if_pos U];rw[List.take_succ_eq_append_getElem Dw];rw[List.set_append_right _ _ Dw];have E:b+k-min (b+k) g.size=0:=by omega
  have V:b+k+1+cs.length=b+k+(cs.length+1):=by omega
  simp[E,V]
theorem fill_of_fillL(B:Nat->Option (Nat×Nat)):∀(m:List (Nat×Value))(a out:LV),fillL B a m=some out->Instr.fill B a.toArray m=some out.toArray
 | [],a,out,h=>by simp only[fillL,Option.some.injEq]at h;subst h;rfl
 |(i,v)::rest,a,out,h=>by
  simp only[fillL]at h;simp only[Instr.fill];cases hp:B i with
  |none=>simp[hp]at h
  |some p=>
   obtain⟨e,L⟩:=p;simp only[hp]at h
   split at h
   ·rename_i hc;obtain⟨X,W⟩:=hc
    have b:(v.cells.size≠L||decide (e+v.cells.size>a.toArray.size))=false:=by
     simp[X];omega
    simp only[b,Bool.false_eq_true,if_false]
    have g:v.cells.zipIdx.foldl (fun cs(x:Value×Nat)=>match x with|(c,j)=>cs.setIfInBounds (e+j) c) a.toArray=(splice a e v.cells.toList).toArray:=by
     rw[<-Array.foldl_toList];have:=foldl_set v.cells.toList 0 e a.toArray Dw;simpa using this
    rw[g];exact fill_of_fillL B rest _ _ h
   ·cases h
def evP(f:Fr):List (Nat×Operand)->List (Nat×Value)
 | []=>[]
 |(i,x)::l=>(i,ev f x)::evP f l
theorem evP_map(f:Fr):∀l:List (Nat×Operand),evP f l=l.map fun p=>(p.1,ev f p.2)
 | []=>rfl
 |(i,x)::l=>by simp[evP,evP_map f l]
theorem Bv{T:TypeId}{m:List (Nat×Operand)}{vs:List (Nat×Value)}{B:List (Nat×Nat)}{zero out:LV}[hT:StT P T B zero](q:evP f m=vs)(g:fillL (fun i=>B[i]?) zero vs=some out)
  (h:AT P all Z K rest (upd f d (.agg out.toArray)) ds w):AT P all Z K (⟨some d,.build T m.toArray,ty,pos,af,none⟩::rest) f ds w:=by
 obtain⟨k,i,z,X,W,a,b,S⟩:=hT.out;refine Aw rfl ?_ h;rw[evP_map]at q;have c:=fill_of_fillL _ _ _ _ g;have o:(zeroValue T).run P w=.ok z w:=by simp[zeroValue,typeInfo,W,a]
 have e:Array.map (fun(x:Nat×Operand)=>match x with|(i,x)=>(i,ev f x)) m.toArray=vs.toArray:=by
  rw[<-q];simp
 simp only[execOp,e,Instr.build,Sem.run_bind,o,Result.andThen_ok,run_underlying X,b];rw[S w];simp only[Result.andThen_ok];have A:(fun i:Nat=>B.toArray[i]?)=fun i=>B[i]?:=by funext i;simp
 rw[A,c];simp
theorem W_buildArr{T l e size:Nat}{m:List (Nat×Operand)}{vs:List (Nat×Value)}{zero out:LV}[hT:ArrT P T l e size][hZ:Bf P T zero](q:evP f m=vs)(c:fillL (fun i=>some (i*size,size)) zero vs=some out)
  (h:AT P all Z K rest (upd f d (.agg out.toArray)) ds w):AT P all Z K (⟨some d,.build T m.toArray,ty,pos,af,none⟩::rest) f ds w:=by
 obtain⟨j,b,D⟩:=hT.out;obtain⟨z,o,A⟩:=run_zero (P:=P) (T:=T) w;refine Aw rfl ?_ h;rw[evP_map]at q;have a:=fill_of_fillL _ _ _ _ c
 have e:Array.map (fun(x:Nat×Operand)=>match x with|(i,x)=>(i,ev f x)) m.toArray=vs.toArray:=by
  rw[<-q];simp
 simp only[execOp,e,Instr.build,Sem.run_bind,o,Result.andThen_ok,run_underlying hT.und,A,sizeOf,typeInfo,program];simp[Sem.run,b,D,a]
theorem AP{T e size F n:Nat}{z:Value}{m:List (Nat×Operand)}{vs:List (Nat×Value)}{out:LV}[hT:SlT P T e size F z](q:evP f m=vs)(G:n*size<=16777216)
  (k:fillL (fun i=>some (i*size,size)) (madeCells z.cells (n*size)).toList vs=some out)
  (h:∀w',New w w' e out->AT P all Z K rest (upd f d (.slice (sm w.heap.size) n n)) ds w'):AT P all Z K (⟨some d,.buildSlice T n m.toArray,ty,pos,af,none⟩::rest) f ds w:=by
 obtain⟨i,H,o,b,E⟩:=hT.out;refine Aw (v:=.slice (sm w.heap.size) n n) (w':=w.alloc (.cells out.toArray e)) rfl ?_ (h _ (New.mk_alloc w _ e));rw[evP_map]at q;have a:=fill_of_fillL _ _ _ _ k
 have c:Array.map (fun(x:Nat×Operand)=>match x with|(i,x)=>(i,ev f x)) m.toArray=vs.toArray:=by
  rw[<-q];simp
 have D:¬(16777216<n*size):=by omega
 have g:(madeCells z.cells (n*size)).toList.toArray=(Array.range (n*size)).map (fun j=>z.cells[j%z.cells.size]!):=by rw[Array.toArray_toList];rfl
 rw[g]at a;simp only[execOp,c,Instr.buildSlice,Sem.run_bind,run_underlying hT.und,Result.andThen_ok,sizeOf,typeInfo,program];by_cases s:n*size=0
 ·simp[s,Array.range_zero']at a;simp[Sem.run,H,b,s,Array.range_zero',a,newRow,newObj]
 ·simp[Sem.run,H,b,s,D,o,zeroValue,typeInfo,a,newRow,newObj]
theorem CT{T e F n:Nat}{z:Value}{m:List (Nat×Operand)}{vs:List (Nat×Value)}{out:LV}[hT:SlT P T e 1 F z](o:z.cells= #[z])(G:n<=16777216)(q:evP f m=vs)
  (a:fillL (fun i=>some (i,1)) (List.replicate n z) vs=some out)
  (h:∀w',New w w' e out->AT P all Z K rest (upd f d (.slice (sm w.heap.size) n n)) ds w'):AT P all Z K (⟨some d,.buildSlice T n m.toArray,ty,pos,af,none⟩::rest) f ds w:=by
 refine AP q U ?_ h;rw[o,Nat.mul_one,toList_madeCells_one];have e:(fun i:Nat=>some (i*1,1))=fun i=>some (i,1):=by funext i;rw[Nat.mul_one]
 rw[e];exact a
theorem W_make1{T e F:Nat}{z:Value}{l c:Operand}{k A:IntKind}{n:Nat}{N M:Int}[hT:SlT P T e 1 F z](o:z.cells= #[z])(i:ev f l=.int k N)(V:ev f c=.int A M)(g:N=(n:Int))(b:M=(n:Int))(S:F*n<=281474976710656)(y:n<=9223372036854775807)
  (h:∀w',New w w' e (List.replicate n z)->AT P all Z K rest (upd f d (.slice (sm w.heap.size) n n)) ds w'):
  AT P all Z K (⟨some d,.makeSlice T l c,ty,pos,af,none⟩::rest) f ds w:=
 W_make i V g b S D3 fun w' a=>h w' (by rw[o,Nat.mul_one,toList_madeCells_one]at a;exact a)
theorem Dl{g:FuncId}{a b:List Operand}{v1 v2:LV}(X:evL f a=v1)(W:evL f b=v2)(h:AT P all Z K rest (upd f d (.func (.func g) v1.toArray v2.toArray)) ds w):
  AT P all Z K (⟨some d,.makeFunc (.func g) a.toArray b.toArray,ty,pos,af,none⟩::rest) f ds w:=by
 refine Aw rfl ?_ h;rw[evL_map]at X W;simp[execOp,Instr.makeFunc,<-X,<-W]
theorem C0{g:FuncId}{t:Nat}{xs:List Operand}{B:Array TypeId}{vs v1 v2:LV}{R:Value->World->Prop}{Y:List PanicEntry->World->Prop}[hg:AF P g]
  (b:f t=.func (.func g) v1.toArray v2.toArray)(V:FnP P g (v1++vs++v2) w R Y)(I:evL f xs=vs)(h:∀v w',R v w'->AT P all Z K rest (upd f d v) ds w')(o:∀m w',Y m w'->Z f ds m w'):
  AT P all Z K (⟨some d,.call ⟨.value (.tmp t),xs.toArray,B⟩,ty,pos,af,none⟩::rest) f ds w:=by
 obtain⟨fn,X,W,a⟩:=hg.out
 have c:(execOp (ev f) ⟨some d,.call ⟨.value (.tmp t),xs.toArray,B⟩,ty,pos,af,none⟩).run P w=.ok (.enter g (v1++vs++v2).toArray) w:=by
  rw[evL_map]at I;simp only[execOp,resolve,ev,b,Deferred.ofValue,Sem.run_bind,Sem.run_pure,Result.andThen_ok,invoke,callFunc,program];simp[Sem.run,X,W,a,<-I]
 unfold AT;simp only[BH,if_true,Be,c];refine Calls.mono V fun e w' F=>?_;cases e with
 |returned v=>exact h v w' F
 |panicked m=>exact o m w' F
 |outgrown=>exact F
theorem Az{g:FuncId}{t:Nat}{xs:List Operand}{B:Array TypeId}{vs v1 v2:LV}{R:Value->World->Prop}[hg:AF P g]
  (a:f t=.func (.func g) v1.toArray v2.toArray)(V:Fn P g (v1++vs++v2) w R)(I:evL f xs=vs)(h:∀v w',R v w'->AT P all Z K rest (upd f d v) ds w'):
  AT P all Z K (⟨some d,.call ⟨.value (.tmp t),xs.toArray,B⟩,ty,pos,af,none⟩::rest) f ds w:=
 C0 a V I h fun _ _ h=>h.elim
theorem AG{g:FuncId}{fn:Func}{c:Code}{args:LV}{R:Value->World->Prop}(a:P.funcs[g]?=some fn)(S:fn.body=some c){n:Nat}(G:fn.ntmps=n)(h:WC P ⟨n,none⟩ c (Cw P fn R fun _ _=>False) (argF args) [] w)(M:args.length<=n:=by exact Nat.le_of_ble_eq_true rfl)(b:CW n false c=true:=by kernel_rfl):Fn P g args w R:=A7 a S G M b h
section
variable {fn:Func}{R:Value->World->Prop}{Y:List PanicEntry->World->Prop}{t u v:Nat}
theorem fin_ret0(a:fn.results.toList=[])(h:R (.tuple #[]) w):Cw P fn R Y .ret f [] w:=⟨rfl,by rw[a];exact h⟩
theorem BF(a:fn.results.toList=[])(h:R (.tuple #[]) w):Cw P fn R Y .normal f [] w:=⟨rfl,by rw[a];exact h⟩
theorem AB(a:fn.results.toList=[.tmp t])(h:R (f t) w):Cw P fn R Y .ret f [] w:=⟨rfl,by rw[a];exact h⟩
theorem C5(a:fn.results.toList=[.tmp t,.tmp u])(h:R (.tuple #[f t,f u]) w):Cw P fn R Y .ret f [] w:=⟨rfl,by rw[a];exact h⟩
theorem BZ(a:fn.results.toList=[.tmp t,.tmp u,.tmp v])(h:R (.tuple #[f t,f u,f v]) w):Cw P fn R Y .ret f [] w:=⟨rfl,by rw[a];exact h⟩
theorem Dk{T n b o:Nat}{L:LV}(g:AggT P T n)(M:L.length=n)(V:Cells w b o L):(loadVar T ⟨b,o,none⟩).run P w=.ok (.agg L.toArray) w:=by
 obtain⟨⟨c,X,W⟩,i,H,D⟩:=g.out
 have e:(isAgg T).run P w=.ok true w:=by
  simp only[isAgg,Sem.run_bind,run_underlying X,Result.andThen_ok];cases c<;>simp_all [aggD]
 have a:=run_loadCells_list (P:=P) w ⟨b,o,none⟩ L (fun j v z=>by rw[Addr.add_lit];exact V j v z);rw[M,<-D]at a;simp only[loadVar,Sem.run_bind,Result.andThen_ok,e,if_true,sizeOf,typeInfo,program];simp[Sem.run,H,a]
theorem AU{T n b o:Nat}{L:LV}[hT:AggT P T n](a:fn.results.toList=[.cell t T])(I:f t=.pointer (some ⟨b,o,none⟩))(M:L.length=n)(V:Cells w b o L)(h:R (.agg L.toArray) w):Cw P fn R Y .ret f [] w:=
 ⟨rfl,by rw[a];exact⟨_,_,I,Dk hT M V,h⟩⟩
theorem Cp{T n b o:Nat}{L:LV}[hT:AggT P T n](a:fn.results.toList=[.cell t T,.tmp u])(I:f t=.pointer (some ⟨b,o,none⟩))(M:L.length=n)(V:Cells w b o L)(h:R (.tuple #[.agg L.toArray,f u]) w):Cw P fn R Y .ret f [] w:=
 ⟨rfl,by rw[a];exact⟨_,_,I,Dk hT M V,h⟩⟩
end
variable {n:Cf}{Q:DY}
theorem C_seq{a b:Code}(h:WC P n a (Bo (WC P n b Q) Q) f ds w):WC P n (.seq a b) Q f ds w:=h
theorem C_block{id:Nat}{c:Code}(h:WC P n c (BI id Q) f ds w):WC P n (.block id c) Q f ds w:=h
theorem C_scope{c:Code}(h:WC P n c (Bj Q) f ds w):WC P n (.scope c) Q f ds w:=h
theorem AJ{id:Nat}{ops:List Oper}(h:AT P ops.toArray (fun f ds m w=>Q (.panic m) f ds w) (Q .normal) ops f ds w):WC P n (.region id ops.toArray false) Q f ds w:=h
theorem C_skip(h:Q .normal f ds w):WC P n .skip Q f ds w:=h
theorem C_label{l:Nat}(h:Q .normal f ds w):WC P n (.label l) Q f ds w:=h
theorem C_ret(h:Q .ret f ds w):WC P n .ret Q f ds w:=h
theorem C_exit{id:Nat}(h:Q (.exit id) f ds w):WC P n (.exit id) Q f ds w:=h
theorem C_cond_t{c:Operand}{x y:Code}(V:ev f c=.bool true)(h:WC P n x Q f ds w):WC P n (.cond c x y) Q f ds w:=by
 simp only[WC,V,if_true];exact h
theorem C_cond_f{c:Operand}{x y:Code}(V:ev f c=.bool false)(h:WC P n y Q f ds w):WC P n (.cond c x y) Q f ds w:=by
 simp only[WC,V,Bool.false_eq_true,if_false];exact h
theorem Q_then{k:Fr->DS->World->Prop}(h:k f ds w):Bo k Q .normal f ds w:=h
theorem Q_then_ret{k:Fr->DS->World->Prop}(h:Q .ret f ds w):Bo k Q .ret f ds w:=h
theorem Q_then_exit{k:Fr->DS->World->Prop}{i:Nat}(h:Q (.exit i) f ds w):Bo k Q (.exit i) f ds w:=h
theorem Q_then_panic{k:Fr->DS->World->Prop}{c:List PanicEntry}(h:Q (.panic c) f ds w):Bo k Q (.panic c) f ds w:=h
theorem Q_block{id:Nat}(h:Q .normal f ds w):BI id Q .normal f ds w:=h
theorem Q_block_ret{id:Nat}(h:Q .ret f ds w):BI id Q .ret f ds w:=h
theorem Q_block_panic{id:Nat}{c:List PanicEntry}(h:Q (.panic c) f ds w):BI id Q (.panic c) f ds w:=h
theorem Q_block_here{id:Nat}(h:Q .normal f ds w):BI id Q (.exit id) f ds w:=by simp only[BI,if_true];exact h
theorem Q_block_on{id i:Nat}(H:Nat.beq i id=false)(h:Q (.exit i) f ds w):BI id Q (.exit i) f ds w:=by
 have:¬i=id:=fun e=>by subst e;simp at H
 simp only[BI,if_neg this];exact h
theorem Ah{α:Type}(L:α->List (Nat×Value))(I:α->World->Prop)(μ:α->Nat)(T:α){c:Code}(s:agr (L T) f)(g:I T w)
  (i:∀x w W,I x w->WC P n c (Bo (fun b a p=>∃y,(a=ds/\agr (L y) b/\I y p)/\μ y<μ x) Q) (ov (L x) W) ds w):WC P n (.loop c) Q f ds w:=by
 refine⟨α,fun x f o w=>o=ds/\agr (L x) f/\I x w,μ,T,⟨rfl,s,g⟩,?_⟩;rintro x f o w⟨rfl,X,e⟩;have h:=i x w f e;rw[ov_of_agr X]at h;exact h
section
variable {x:Operand}
theorem AY{k:IntKind}{a:Int}(T:ev f x=.int k a)(h:AT P all Z K rest (upd f d (.int k a)) ds w):AT P all Z K (⟨some d,.move x,ty,pos,af,none⟩::rest) f ds w:=W_move EH
theorem Av{a:Option Addr}{l c:Nat}(T:ev f x=.slice a l c)(h:AT P all Z K rest (upd f d (.slice a l c)) ds w):AT P all Z K (⟨some d,.move x,ty,pos,af,none⟩::rest) f ds w:=W_move EH
theorem Af{a:Option Addr}(T:ev f x=.pointer a)(h:AT P all Z K rest (upd f d (.pointer a)) ds w):AT P all Z K (⟨some d,.move x,ty,pos,af,none⟩::rest) f ds w:=W_move EH
theorem AI{b:Bool}(T:ev f x=.bool b)(h:AT P all Z K rest (upd f d (.bool b)) ds w):AT P all Z K (⟨some d,.move x,ty,pos,af,none⟩::rest) f ds w:=W_move EH
theorem Cb{s:ByteArray}(T:ev f x=.string s)(h:AT P all Z K rest (upd f d (.string s)) ds w):AT P all Z K (⟨some d,.move x,ty,pos,af,none⟩::rest) f ds w:=W_move EH
theorem M_tuple{c:Array Value}(T:ev f x=.tuple c)(h:AT P all Z K rest (upd f d (.tuple c)) ds w):AT P all Z K (⟨some d,.move x,ty,pos,af,none⟩::rest) f ds w:=W_move EH
theorem M_agg{c:Array Value}(T:ev f x=.agg c)(h:AT P all Z K rest (upd f d (.agg c)) ds w):AT P all Z K (⟨some d,.move x,ty,pos,af,none⟩::rest) f ds w:=W_move EH
theorem M_func{g:Go.Fn}{a b:Array Value}(T:ev f x=.func g a b)(h:AT P all Z K rest (upd f d (.func g a b)) ds w):AT P all Z K (⟨some d,.move x,ty,pos,af,none⟩::rest) f ds w:=W_move EH
theorem M_map{r:Option Nat}(T:ev f x=.map r)(h:AT P all Z K rest (upd f d (.map r)) ds w):AT P all Z K (⟨some d,.move x,ty,pos,af,none⟩::rest) f ds w:=W_move EH
theorem AO(h:AT P all Z K (⟨some d,.move x,ty,pos,af,none⟩::rest) f ds w):AT P all Z K (⟨some d,.assign x,ty,pos,af,none⟩::rest) f ds w:=h
theorem Am{c y:Operand}(V:ev f c=.bool true)(h:AT P all Z K (⟨some d,.move x,ty,pos,af,none⟩::rest) f ds w):AT P all Z K (⟨some d,.pick c x y,ty,pos,af,none⟩::rest) f ds w:=
 W_pick_t V (by simpa[AT,BH,Be,execOp,putF]using h)
theorem Al{c y:Operand}(V:ev f c=.bool false)(h:AT P all Z K (⟨some d,.move x,ty,pos,af,none⟩::rest) f ds w):AT P all Z K (⟨some d,.pick c y x,ty,pos,af,none⟩::rest) f ds w:=
 W_pick_f V (by simpa[AT,BH,Be,execOp,putF]using h)
end
end
section
variable {mk:Prop}[MK mk]
attribute [local semireducible] WC AT Bo BI Bj Cw DV Be
variable {P:Program}{ops:Array Oper}{n:Nat}{rr:Option Nat}{Q:Exit->Act->World->Prop}{S:World->Prop}
def SemOk(rr:Option Nat)(ops:Array Oper):Prop:=∀(j:Nat)(o:Oper),ops[j]?=some o->∀ρ,Oper.semAt rr ρ o=execOp ρ o
def YR(P:Program)(ops:Array Oper)(S:World->Prop)(o:Oper)(v:Value)(a:Act):Prop:=
 (Region.wanted o (yielded ops a.tmps)=true/\∀w,S w->(execOp a.eval o).run P w=.ok (.value v) w\/((execOp a.eval o).run P w=.ok .skip w/\v=undef)\/
  (∃g h R,(execOp a.eval o).run P w=.ok (.enter g h) R/\Calls P g h R (fun e c=>e=.returned v/\c=w))\/
  ∃l g m j body R,(execOp a.eval o).run P w=.ok (.round l g m j body) R/\RoundIn Fence.wide 0 P l g m j body R (fun e c=>e=.returned v/\c=w))\/
 (Region.wanted o (yielded ops a.tmps)=false/\v=undef)
theorem YR.same{o:Oper}{v:Value}{a X:Act}(c:YR P ops S o v a)(F:execOp X.eval o=execOp a.eval o)
  (D:Region.wanted o (yielded ops X.tmps)=Region.wanted o (yielded ops a.tmps)):YR P ops S o v X:=by
 unfold YR at*
 rw[F,D];exact c
theorem rnd_depth{rr:Option Nat}:(rnd rr).depth.isSome=true->1<=0:=fun c=>by simp[rnd,Fence.wide]at c
theorem YR.wpOp{i:Nat}{o:Oper}{v:Value}{a:Act}{w:World}(c:SemOk rr ops)(H:ops[i]?=some o)(A:YR P ops S o v a)(j:S w){K:Act->World->Prop}(h:K (a.put o.dst v) w):wpOpIn (rnd rr) 0 P ops Q i K a w:=by
 unfold Go.wpOpIn;simp only[H];rcases A with⟨D,q⟩|⟨D,rfl⟩
 ·simp only[D,if_true];refine⟨fun _ _=>trivial,?_⟩;have z:(rnd rr).round=rr:=rfl;rw[z,c i o H];rcases q w j with m|⟨m,rfl⟩|⟨g,s,R,m,V⟩|⟨l,g,B,u,body,R,m,V⟩
  ·rw[m];exact h
  ·rw[m];exact h
  ·rw[m];refine⟨rnd_depth,?_⟩;have V:CallsIn Fence.wide (0-1) P g s R _:=callsIn_wide.2 V;refine CallsIn.mono (F:=rnd rr) V fun e C p=>?_;obtain⟨rfl,rfl⟩:=p;exact h
  ·rw[m];have V:RoundIn (rnd rr) (0-1) P l g B u body R _:=V;refine⟨rnd_depth,RoundIn.mono V fun e C p=>?_⟩;obtain⟨rfl,rfl⟩:=p;exact h
 ·simp only[D,Bool.false_eq_true,if_false];exact⟨fun _ _=>trivial,h⟩
theorem wpOp_later{j:Nat}{q A:Oper}{v:Value}(V:SemOk rr ops)(z:ops[j]?=some A)(I:q.apart ops A=true)
  (R:∀cs b,q.op≠ .select cs b)(T:∀cs b,A.op≠ .select cs b)
  (M:∀c a w,Q (.panic c) (a.put q.dst v) w->Q (.panic c) a w){K:Act->World->Prop}{a:Act}{w:World}
  (B:YR P ops S q v a)(h:wpOpIn (rnd rr) 0 P ops Q j K (a.put q.dst v) w):
  wpOpIn (rnd rr) 0 P ops Q j (fun X w'=>YR P ops S q v X/\K (X.put q.dst v) w') a w:=by
 obtain⟨G,W,H⟩:=Oper.apart_spec I;have a1:∀(b:Act),YR P ops S q v b->∀u,YR P ops S q v (b.put A.dst u):=fun b E u=>E.same (execOp_put q R b A.dst u H) (wanted_put q b A.dst u H)
 have swap:∀(b:Act)(u:Value)w',YR P ops S q v b->K ((b.put q.dst v).put A.dst u) w'->YR P ops S q v (b.put A.dst u)/\K ((b.put A.dst u).put q.dst v) w':=fun b u w' E L=>
  ⟨a1 b E u,by rw[<-Act.put_comm b v u W];exact L⟩
 have a0:=wanted_put (ops:=ops) A a q.dst v G;have s:=execOp_put (ops:=ops) A T a q.dst v G;unfold wpOpIn at h⊢;simp only[z,a0]at h⊢;by_cases D:Region.wanted A (yielded ops a.tmps)=true
 ·simp only[D,if_true]at h⊢;refine⟨fun _ _=>trivial,?_⟩;have h:=h.2;have N:(rnd rr).round=rr:=rfl;rw[N,V j A z]at h⊢;rw[s]at h;revert h;generalize (execOp a.eval A).run P w=r;intro h;cases r with
  |halt x w'=>cases x<;>first|exact h.elim|exact M _ _ _ h
  |ok m w'=>
   cases m with
   |value u=>exact swap a u w' B h
   |skip=>exact swap a undef w' B h
   |defer d=>
    have C:YR P ops S q v {a with defers:=d::a.defers}:=B.same rfl rfl;refine swap _ undef w' C ?_;rw[<-Act.put_defers];exact h
   |enter g args=>
    refine⟨rnd_depth,CallsIn.mono h.2 fun e p F=>?_⟩;cases e with
    |returned u=>exact swap a u p B F
    |panicked c=>exact M _ _ _ F
    |outgrown=>exact F
   |row r args=>exact⟨h.1,RowsIn.mono h.2 (fun u p F=>swap a u p B F)⟩
   |round l g tmps assign body=>
    refine⟨rnd_depth,RoundIn.mono h.2 fun e p F=>?_⟩;cases e with
    |returned u=>exact swap a u p B F
    |panicked c=>exact M _ _ _ F
    |outgrown=>exact F
   |_=>exact h.elim
 ·simp only[D]at h⊢;exact⟨fun _ _=>trivial,swap a undef w B h.2⟩
def wpT(rr:Option Nat)(P:Program)(ops:Array Oper)(Q:Exit->Act->World->Prop)(S:World->Prop):Nat->Array Bool->Act->World->Prop
 |0,listed,a,w=>Region.ready .any ops listed=[]/\Q .normal a w
 |fuel+1,listed,a,w=>(Region.ready .any ops listed=[]->Q .normal a w)/\
  ∀i∈Region.ready .any ops listed,wpOpIn (rnd rr) 0 P ops Q i (fun X c=>S c/\wpT rr P ops Q S fuel (listed.setIfInBounds i true) X c) a w
theorem wpT_any:∀(C:Nat)(D:Array Bool)(a:Act)(w:World),wpT rr P ops Q S C D a w->wpAnyIn (rnd rr) 0 P .any ops Q C D a w
 |0,_,_,_,h=>h
 |C+1,_,_,_,h=>⟨h.1,fun i H=>wpOpIn_mono (fun X e c=>wpT_any C _ X e c.2) (h.2 i H)⟩
theorem wpT_mono{l:World->Prop}(D:∀w,l w->S w):∀(C:Nat)(e:Array Bool)(a:Act)(w:World),wpT rr P ops Q l C e a w->wpT rr P ops Q S C e a w
 |0,_,_,_,h=>h
 |C+1,_,_,_,h=>⟨h.1,fun i H=>wpOpIn_mono (fun X j c=>⟨D j c.1,wpT_mono D C _ X j c.2⟩) (h.2 i H)⟩
theorem wpT_first{i:Nat}{p:Oper}{v:Value}(G:SemOk rr ops)(A:ops[i]?=some p)(R:∀(j:Nat)(o:Oper)cs b,ops[j]?=some o->o.op≠ .select cs b)
  (hQ:∀c a w,Q (.panic c) (a.put p.dst v) w->Q (.panic c) a w):∀(C:Nat)(D:Array Bool)(a:Act)(w:World),
   (∀j u,ops[j]?=some u->j≠i->D.getD j true=false->(∀e∈u.after,Region.binds .any e=true->e.on≠i)->p.apart ops u=true)->
   i∈Region.ready .any ops D->YR P ops S p v a->S w->
   wpT rr P ops Q S C (D.setIfInBounds i true) (a.put p.dst v) w->wpT rr P ops Q S (C+1) D a w:=by
 intro C
 induction C with
 |zero=>
  intro D a w _ m F q H;refine⟨fun h=>(by rw[h]at m;cases m),fun j z=>?_⟩;by_cases l:j=i
  ·subst l;exact F.wpOp G A q ⟨q,H⟩
  ·have:=ready_mono z l;rw[H.1]at this;cases this
 |succ C ih=>
  intro D a w I m F q H;refine⟨fun h=>(by rw[h]at m;cases m),fun j z=>?_⟩;by_cases l:j=i
  ·subst l;exact F.wpOp G A q ⟨q,H⟩
  ·have V:=H.2 j (ready_mono z l);obtain⟨N,u,E,a0⟩:=mem_ready.1 z;have L:=(mem_ready.1 m).1
   have a4:∀e∈u.after,Region.binds .any e=true->e.on≠i:=by
    intro e he hb a1;have W:=a0 e he hb;rw[a1]at W;by_cases B:i<D.size
    ·simp[B]at L W;rw[L]at W;cases W
    ·simp[Array.getElem?_eq_none (Nat.le_of_not_lt B)]at W
   have W:=wpOp_later G E (I j u E l N a4) (fun cs b=>R i p cs b A) (fun cs b=>R j u cs b E) hQ F V;refine wpOpIn_mono (fun T w' s=>⟨s.2.1,?_⟩) W;refine ih (D.setIfInBounds j true) T w' ?_ (ready_mono m (Ne.symm l)) s.1 s.2.1 ?_
   ·intro k ok hk a2 X a3;refine I k ok hk a2 ?_ a3;by_cases M:j=k
    ·subst M;exact N
    ·rw[getD_set_ne true M]at X;exact X
   ·rw[Array.setIfInBounds_comm _ _ l];exact s.2.2
inductive DT where
 |done
 |stop
 |read (i:Nat) (t:DT)
 |alt (i:Nat) (t r:DT)
def DT.heads:DT->List Nat
 | .alt i _ r=>i::r.heads
 |_=>[]
def DW(ops:Array Oper):DT->Nat->Array Bool->Bool->Bool
 | .done,n,listed,b=> !b&&Nat.beq n 0&&(Region.ready .any ops listed).isEmpty
 | .stop,_,_,b=>b
 | .read _ _,0,_,_=>false
 | .read i t,n+1,listed,b=> !b&&(Region.ready .any ops listed).contains i&&Region.free .any ops listed i&&DW ops t n (listed.setIfInBounds i true) false
 | .alt _ _ _,0,_,_=>false
 | .alt i t r,n+1,listed,b=>(b||(Region.ready .any ops listed==(DT.alt i t r).heads))&&DW ops t n (listed.setIfInBounds i true) false&&DW ops r (n+1) listed true
def CU(P:Program)(ops:Array Oper)(Z:Fr->DS->List PanicEntry->World->Prop)(K:Fr->DS->World->Prop):DT->(World->Prop)->Fr->DS->World->Prop
 | .done,_,f,ds,w=>K f ds w
 | .stop,_,_,_,_=>True
 | .read i r,S,f,ds,w=>∃o d v,ops[i]?=some o/\o.dst=some d/\
   (∀W,S W->AT P ops (fun _ _ _ _=>False) (fun h e c=>h=upd f d v/\e=ds/\c=W) [o] f ds W)/\CU P ops Z K r S (upd f d v) ds w
 | .alt i t r,S,f,ds,w=>(∃o,ops[i]?=some o/\AT P ops Z (fun h e c=>∃l:World->Prop,(∀W,l W->S W)/\l c/\CU P ops Z K t l h e c) [o] f ds w)/\CU P ops Z K r S f ds w
theorem upd_inj{f:Fr}{d:Nat}{u v:Value}(h:upd f d u=upd f d v):u=v:=by
 have:=congrFun h d;simpa[upd]using this
theorem YR_of{o:Oper}{d:Nat}{v:Value}{a:Act}(C:o.dst=some d){q:World}(G:S q)
  (h:∀W,S W->AT P ops (fun _ _ _ _=>False) (fun B s w'=>B=upd (CV a) d v/\s=a.defers/\w'=W) [o] (CV a) a.defers W):YR P ops S o v a:=by
 unfold YR;rw[wanted_toFr];by_cases D:BH ops (CV a) o.guard=true
 ·refine .inl ⟨D,fun w z=>?_⟩;have X:=h w z;unfold AT at X;rw[if_pos D]at X;unfold Be at X;rw[ev_toFr];revert X;generalize (execOp (ev (CV a)) o).run P w=r;intro X;cases r with
  |halt x w'=>cases x<;>exact X.elim
  |ok m w'=>
   cases m with
   |value u=>
    obtain⟨j,_,E⟩:=X;simp only[C,putF]at j;rw[upd_inj j,E];exact .inl rfl
   |skip=>
    obtain⟨j,_,E⟩:=X;simp only[C,putF]at j;rw[<-upd_inj j,E];exact .inr (.inl ⟨rfl,rfl⟩)
   |defer d'=>
    obtain⟨_,A,_⟩:=X;exact absurd A O
   |enter g args=>
    refine .inr (.inr (.inl ⟨g,args,w',rfl,Calls.mono X fun e p F=>?_⟩));cases e with
    |returned u=>
     obtain⟨j,_,E⟩:=F;simp only[C,putF]at j;exact⟨by rw[upd_inj j],E⟩
    |panicked c=>exact F.elim
    |outgrown=>exact F.elim
   |round l g tmps assign body=>
    refine .inr (.inr (.inr ⟨l,g,tmps,assign,body,w',rfl,RoundIn.mono X fun e p F=>?_⟩));cases e with
    |returned u=>
     obtain⟨j,_,E⟩:=F;simp only[C,putF]at j;exact⟨by rw[upd_inj j],E⟩
    |panicked c=>exact F.elim
    |outgrown=>exact F.elim
   |_=>exact X.elim
 ·have z:BH ops (CV a) o.guard=false:=by simpa using D
  refine .inr ⟨z,?_⟩;have X:=h q G;unfold AT at X;rw[if_neg D]at X;obtain⟨j,_⟩:=X;simp only[C,putF]at j;exact(upd_inj j).symm
theorem wpOp_of_WOps{n:Nat}{Q:DY}{K:Fr->DS->World->Prop}{o:Oper}{i:Nat}(H:ops[i]?=some o){a:Act}{w:World}(G:a.tmps.size=n)(c:opOk n rr.isSome o=true)
  {K':Act->World->Prop}(s:∀X w',X.tmps.size=n->K (CV X) X.defers w'->K' X w')
  (h:AT P ops (fun f ds m w=>Q (.panic m) f ds w) K [o] (CV a) a.defers w):wpOpIn (rnd rr) 0 P ops (liftQ n Q) i K' a w:=by
 have C:dOk n o.dst=true:=by have:=c;simp only[opOk,Bool.and_eq_true]at this;exact this.1
 have next:=next_of (n:=n) (o:=o) (a:=a) (K:=K) (K':=K') G C s
 unfold wpOpIn;simp only[H,wanted_toFr];unfold AT at h;by_cases D:BH ops (CV a) o.guard=true
 ·simp only[D,if_true]at h⊢;exact uponIn_of (r:=rr) G c next h
 ·simp only[D]at h⊢;exact⟨fun _ _=>trivial,next undef a.defers w h⟩
theorem semOk_of{n:Nat}(c:ops.toList.all (opOk n rr.isSome)=true):SemOk rr ops:=fun j o ho ρ=>
 semAt_ok (n:=n) (List.all_eq_true.1 c o (by simpa using Array.mem_of_getElem? ho)) ρ
theorem D_sound{n:Nat}{Q:DY}(E:Region.noSelect ops=true)(p:ops.toList.all (opOk n rr.isSome)=true)(M:∀c f L ds w,Q (.panic c) f ds w->Q (.panic c) L ds w):
  ∀(F:DT)(C:Nat)(D:Array Bool)(b:Bool)(S:World->Prop)(a:Act)(w:World),DW ops F C D b=true->a.tmps.size=n->S w->
   CU P ops (fun f ds m w=>Q (.panic m) f ds w) (Q .normal) F S (CV a) a.defers w->
   (b=false->wpT rr P ops (liftQ n Q) S C D a w)/\
   (∀k,C=k+1->∀j∈F.heads,wpOpIn (rnd rr) 0 P ops (liftQ n Q) j (fun X w'=>S w'/\wpT rr P ops (liftQ n Q) S k (D.setIfInBounds j true) X w') a w)
 | .done,C,D,b,S,a,w,hc,hn,hS,h=>by
  simp only[DW,Bool.and_eq_true,List.isEmpty_iff,Bool.not_eq_true']at hc;obtain⟨⟨rfl,W⟩,q⟩:=hc;obtain rfl:=Nat.eq_of_beq_eq_true W;exact⟨fun _=>⟨q,hn,h⟩,fun _ _ j z=>by simp[DT.heads]at z⟩
 | .stop,C,D,b,S,a,w,hc,hn,hS,h=>by
  simp only[DW]at hc;subst hc;exact⟨(fun h=>by cases h),fun _ _ j z=>by simp[DT.heads]at z⟩
 | .read i r,0,D,b,S,a,w,hc,hn,hS,h=>by simp[DW]at hc
 | .read i r,C+1,D,b,S,a,w,hc,hn,hS,h=>by
  simp only[DW,Bool.and_eq_true,Bool.not_eq_true']at hc;obtain⟨⟨⟨s,e⟩,W⟩,q⟩:=hc;obtain⟨o,d,v,R,u,hy,B⟩:=h;have V:opOk n rr.isSome o=true:=List.all_eq_true.1 p o (by simpa using Array.mem_of_getElem? R);have A:dOk n o.dst=true:=by have:=V;simp only[opOk,Bool.and_eq_true]at this;exact this.1
  have a0:d<a.tmps.size:=by rw[u]at A;simpa[dOk,Nat.blt_eq,hn]using A
  have a2:∀c(X:Act)(w':World),liftQ n Q (.panic c) (X.put o.dst v) w'->liftQ n Q (.panic c) X w':=fun c X w' T=>
   ⟨by simpa[size_put]using T.1,M c _ _ _ _ (by have:=T.2;rw[defers_put]at this;exact this)⟩
  refine⟨fun _=>wpT_first (semOk_of p) R (Region.noSelect_spec E) a2 C D a w (Region.free_spec R W) (by simpa using e) (YR_of u hS hy) hS ?_,fun _ _ j z=>by simp[DT.heads]at z⟩;refine(D_sound E p M r C _ false S (a.put o.dst v) w q (by rw[size_put];exact hn) hS ?_).1 rfl;rw[defers_put,u,toFr_put v a0];exact B
 | .alt i t r,0,D,b,S,a,w,hc,hn,hS,h=>by simp[DW]at hc
 | .alt i t r,C+1,D,b,S,a,w,hc,hn,hS,h=>by
  simp only[DW,Bool.and_eq_true]at hc;obtain⟨⟨e,W⟩,q⟩:=hc;obtain⟨⟨o,R,B⟩,a3⟩:=h;have A:opOk n rr.isSome o=true:=List.all_eq_true.1 p o (by simpa using Array.mem_of_getElem? R)
  have H:∀j∈(DT.alt i t r).heads,wpOpIn (rnd rr) 0 P ops (liftQ n Q) j (fun X w'=>S w'/\wpT rr P ops (liftQ n Q) S C (D.setIfInBounds j true) X w') a w:=by
   intro j z;simp only[DT.heads,List.mem_cons]at z;rcases z with rfl|z
   ·refine wpOp_of_WOps R hn A ?_ B;rintro X w' a1⟨l,I,G,u⟩;exact⟨I w' G,wpT_mono I _ _ _ _ ((D_sound E p M t C _ false l X w' W a1 G u).1 rfl)⟩
   ·exact(D_sound E p M r (C+1) D true S a w q hn hS a3).2 C rfl j z
  refine⟨fun N=>?_,fun k B j z=>?_⟩
  ·subst N;simp only[Bool.false_or,beq_iff_eq]at e;exact⟨fun s=>(by rw[s]at e;simp[DT.heads]at e),fun j z=>H j (by rw[<-e];exact z)⟩
  ·obtain rfl:C=k:=by omega
   exact H j z
theorem C_drawS{n:Cf}{Q:DY}{id:Nat}{l:List Oper}{f:Fr}{ds:DS}{w:World}(C:DT)(S:World->Prop)(q:P.follows .mixedOrders=true)
  (V:(Region.noSelect l.toArray&&(l.all (opOk n.n n.r.isSome))&&DW l.toArray C l.length (Array.replicate l.length false) false)=true)
  (M:∀c f W ds w,Q (.panic c) f ds w->Q (.panic c) W ds w)(j:S {w with drawn:=w.drawn+1})
  (h:CU P l.toArray (fun f ds m w=>Q (.panic m) f ds w) (Q .normal) C S f ds {w with drawn:=w.drawn+1}):WC P n (.region id l.toArray true) Q f ds w:=by
 simp only[Bool.and_eq_true]at V;obtain⟨⟨X,e⟩,p⟩:=V;rintro a G rfl rfl;refine wpIn_region_any q (wpT_any (S:=S) _ _ _ _ ?_);have:=(D_sound (P:=P) (rr:=n.r) (ops:=l.toArray) X (by simpa using e) M C _ _ false S a _ p G j h).1 rfl;simpa using this
section
variable {Z:Fr->DS->List PanicEntry->World->Prop}{K:Fr->DS->World->Prop}{r t:DT}{f:Fr}{ds:DS}{w:World}{i d:Nat}{o:Oper}{v:Value}
theorem Bq(h:K f ds w):CU P ops Z K .done S f ds w:=h
theorem D_R(R:ops[i]?=some o)(C:o.dst=some d)(F:∀W,S W->AT P ops (fun _ _ _ _=>False) (fun e c w'=>e=upd f d v/\c=ds/\w'=W) [o] f ds W)
  (h:CU P ops Z K r S (upd f d v) ds w):CU P ops Z K (.read i r) S f ds w:=⟨o,d,v,R,C,F,h⟩
theorem D_E(R:ops[i]?=some o)(h:AT P ops Z (fun e c w'=>∃l:World->Prop,(∀W,l W->S W)/\l w'/\CU P ops Z K t l e c w') [o] f ds w):
  CU P ops Z K (.alt i t .stop) S f ds w:=⟨⟨o,R,h⟩,trivial⟩
theorem D_A(R:ops[i]?=some o)(h:AT P ops Z (fun e c w'=>∃l:World->Prop,(∀W,l W->S W)/\l w'/\CU P ops Z K t l e c w') [o] f ds w)(j:CU P ops Z K r S f ds w):
  CU P ops Z K (.alt i t r) S f ds w:=⟨⟨o,R,h⟩,j⟩
theorem Dd(R:ops[i]?=some o)(C:o.dst=some d)(c:BH ops f o.guard=true)(e:∀W,(execOp (ev f) o).run P W=.ok (.value v) W)(h:CU P ops Z K r S (upd f d v) ds w):CU P ops Z K (.read i r) S f ds w:=by
 refine D_R R C (fun W _=>?_) h;unfold AT;rw[if_pos c];unfold Be;rw[e W];exact⟨by rw[C];rfl,rfl,rfl⟩
theorem A8{j:Nat}{L:Bool}(R:ops[i]?=some o)(C:o.dst=some d)(c:o.guard=some (j,L))(q:guardVal ops f j=some (!L))(h:CU P ops Z K r S (upd f d undef) ds w):CU P ops Z K (.read i r) S f ds w:=by
 refine D_R R C (fun W _=>?_) h;unfold AT;have e:BH ops f o.guard=false:=by rw[c];simp only[BH,q];cases L<;>rfl
 rw[e];exact⟨by rw[C];rfl,rfl,rfl⟩
section cmp
variable {xt yt ty:TypeId}{x y:Operand}{k:IntKind}{a b:Int}{pos:String}{af:Array Edge}{g:Option (Nat×Bool)}
theorem C8(R:ops[i]?=some ⟨some d,.binOp .lss xt x y yt,ty,pos,af,g⟩)(c:BH ops f g=true)(T:ev f x=.int k a)(F:ev f y=.int k b)
  (h:a<b->CU P ops Z K r S (upd f d (.bool true)) ds w)(e:b<=a->CU P ops Z K r S (upd f d (.bool false)) ds w):CU P ops Z K (.read i r) S f ds w:=by
 by_cases V:a<b
 ·exact Ex
 ·exact FG
theorem D_leq(R:ops[i]?=some ⟨some d,.binOp .leq xt x y yt,ty,pos,af,g⟩)(c:BH ops f g=true)(T:ev f x=.int k a)(F:ev f y=.int k b)
  (h:a<=b->CU P ops Z K r S (upd f d (.bool true)) ds w)(e:b<a->CU P ops Z K r S (upd f d (.bool false)) ds w):CU P ops Z K (.read i r) S f ds w:=by
 by_cases V:a<=b
 ·exact Ex
 ·exact FG
theorem D_gtr(R:ops[i]?=some ⟨some d,.binOp .gtr xt x y yt,ty,pos,af,g⟩)(c:BH ops f g=true)(T:ev f x=.int k a)(F:ev f y=.int k b)
  (h:b<a->CU P ops Z K r S (upd f d (.bool true)) ds w)(e:a<=b->CU P ops Z K r S (upd f d (.bool false)) ds w):CU P ops Z K (.read i r) S f ds w:=by
 by_cases V:b<a
 ·exact Ex
 ·exact FG
theorem D_geq(R:ops[i]?=some ⟨some d,.binOp .geq xt x y yt,ty,pos,af,g⟩)(c:BH ops f g=true)(T:ev f x=.int k a)(F:ev f y=.int k b)
  (h:b<=a->CU P ops Z K r S (upd f d (.bool true)) ds w)(e:a<b->CU P ops Z K r S (upd f d (.bool false)) ds w):CU P ops Z K (.read i r) S f ds w:=by
 by_cases V:b<=a
 ·exact Ex
 ·exact FG
theorem D_eql(R:ops[i]?=some ⟨some d,.binOp .eql xt x y yt,ty,pos,af,g⟩)(c:BH ops f g=true)(T:ev f x=.int k a)(F:ev f y=.int k b)
  (h:a=b->CU P ops Z K r S (upd f d (.bool true)) ds w)(e:a≠b->CU P ops Z K r S (upd f d (.bool false)) ds w):CU P ops Z K (.read i r) S f ds w:=by
 by_cases V:a=b
 ·exact Ex
 ·exact Dd R rfl c (fun W=>by simp[execOp,T,F,eqGuard,binOp,Op.intCmp,V]) (e V)
theorem D_neq(R:ops[i]?=some ⟨some d,.binOp .neq xt x y yt,ty,pos,af,g⟩)(c:BH ops f g=true)(T:ev f x=.int k a)(F:ev f y=.int k b)
  (h:a≠b->CU P ops Z K r S (upd f d (.bool true)) ds w)(e:a=b->CU P ops Z K r S (upd f d (.bool false)) ds w):CU P ops Z K (.read i r) S f ds w:=by
 by_cases V:a=b
 ·exact Dd R rfl c (fun W=>by simp[execOp,T,F,eqGuard,binOp,Op.intCmp,V]) (e V)
 ·exact Ex
theorem D_seql{s t:LU}(R:ops[i]?=some ⟨some d,.binOp .eql xt x y yt,ty,pos,af,g⟩)(c:BH ops f g=true)(T:ev f x=AK s)(F:ev f y=AK t)
  (h:s=t->CU P ops Z K r S (upd f d (.bool true)) ds w)(e:s≠t->CU P ops Z K r S (upd f d (.bool false)) ds w):CU P ops Z K (.read i r) S f ds w:=by
 by_cases V:s=t
 ·exact Dd R rfl c (fun W=>by simp[execOp,T,F,eqGuard,binOp,Op.stringOp,V]) (h V)
 ·exact Dd R rfl c (fun W=>by simp[execOp,T,F,eqGuard,binOp,Op.stringOp,V]) (e V)
theorem D_sneq{s t:LU}(R:ops[i]?=some ⟨some d,.binOp .neq xt x y yt,ty,pos,af,g⟩)(c:BH ops f g=true)(T:ev f x=AK s)(F:ev f y=AK t)
  (h:s≠t->CU P ops Z K r S (upd f d (.bool true)) ds w)(e:s=t->CU P ops Z K r S (upd f d (.bool false)) ds w):CU P ops Z K (.read i r) S f ds w:=by
 by_cases V:s=t
 ·exact Dd R rfl c (fun W=>by simp[execOp,T,F,eqGuard,binOp,Op.stringOp,V]) (e V)
 ·exact Dd R rfl c (fun W=>by simp[execOp,T,F,eqGuard,binOp,Op.stringOp,V]) (h V)
end cmp
end
theorem C_draw{n:Cf}{Q:DY}{id:Nat}{l:List Oper}{f:Fr}{ds:DS}{w:World}(C:DT)(p:P.follows .mixedOrders=true)
  (V:(Region.noSelect l.toArray&&(l.all (opOk n.n n.r.isSome))&&DW l.toArray C l.length (Array.replicate l.length false) false)=true)
  (M:∀c f W ds w,Q (.panic c) f ds w->Q (.panic c) W ds w)
  (h:∀R,Ext w R->R.heap=w.heap->∃S:World->Prop,S R/\CU P l.toArray (fun f ds m w=>Q (.panic m) f ds w) (Q .normal) C S f ds R):WC P n (.region id l.toArray true) Q f ds w:=by
 obtain⟨S,j,e⟩:=h {w with drawn:=w.drawn+1} ⟨rfl,rfl,rfl,Nat.le_refl _,fun _ _ _=>rfl,fun _=>mark_heap rfl,Nat.le_succ _⟩ rfl;exact C_drawS C S p V M j e
theorem AX{n:Cf}{Q:DY}{id:Nat}{l:List Oper}{f:Fr}{ds:DS}{w:World}(C:DT)(c:P.follows .mixedOrders=true)
  (V:(Region.noSelect l.toArray&&(l.all (opOk n.n n.r.isSome))&&DW l.toArray C l.length (Array.replicate l.length false) false)=true)
  (h:∀R,Ext w R->R.heap=w.heap->∃S:World->Prop,S R/\CU P l.toArray (fun _ _ _ _=>False) (Q .normal) C S f ds R):WC P n (.region id l.toArray true) Q f ds w:=by
 have:=C_draw (P:=P) (n:=n) (Q:=fun e f ds w=>match e with| .normal=>Q .normal f ds w|_=>False) (id:=id) C c V (fun _ _ _ _ _ h=>h) h;rintro a G rfl rfl;refine wpIn_mono (this a G rfl rfl) ?_;intro e a w T;obtain⟨X,W⟩:=T;cases e with
 |normal=>exact⟨X,W⟩
 |_=>exact W.elim
theorem nofr_fin{fn:Func}{R:Value->World->Prop}{Y:List PanicEntry->World->Prop}:∀c f W ds w,Cw P fn R Y (.panic c) f ds w->Cw P fn R Y (.panic c) W ds w:=fun _ _ _ _ _ h=>h
theorem nofr_then{k:Fr->DS->World->Prop}{Q:DY}(M:∀c f W ds w,Q (.panic c) f ds w->Q (.panic c) W ds w):∀c f W ds w,Bo k Q (.panic c) f ds w->Bo k Q (.panic c) W ds w:=M
attribute [irreducible] CU
def rd:Nat->Nat->DT->DT
 |_,0,t=>t
 |i,n+1,t=>.read i (rd (i+1) n t)
theorem wNl{P:Program}{ops:Array Oper}{Z:Fr->DS->List PanicEntry->World->Prop}{K:Fr->DS->World->Prop}{S:World->Prop}{f:Fr}{ds:DS}{w:World}{t:DT}(k:S w)(h:CU P ops Z K t S f ds w):AT P ops Z (fun f' ds' w'=>∃S':World->Prop,(∀W,S' W->S W)/\S' w'/\CU P ops Z K t S' f' ds' w') [] f ds w:=AA ⟨S,fun _ h=>h,k,h⟩
end
end Go.Proofs.YtohodbnnhlddpaaGreatDoor
