/- TopOwedOnce, part 9 of 14: rules, lemmas, walks. Conditions: none. -/
import Derived.Test.YtohodbnnhlddpaaGreatDoorVO8
import Derived.Maps.RangeRun
namespace Go.Proofs.YtohodbnnhlddpaaGreatDoor
open Go.RowKit
set_option linter.unusedVariables false
def Bc(f:Fml):Fml:=if BA f=true then As f else Ag
theorem BG{f:Fml}(h:BA f=true):szF f<=400/\dpF f<=60/\BC false f=true:=by
 simp only[BA,Bool.and_eq_true,decide_eq_true_eq]at h;obtain⟨⟨X,W⟩,Q⟩:=h;rw[bareG_eq U]at Q;exact⟨X,W,Q⟩
theorem loose_mk{f:Fml}(X:szF f<=400)(W:dpF f<=60)(Q:BC false f=true):BA f=true:=by
 simp only[BA,Bool.and_eq_true,decide_eq_true_eq];exact⟨⟨X,W⟩,by rw[bareG_eq U];exact Q⟩
theorem BN(w:World)(v:Value)(f:Fml)(K:FAt AV w v f)(B:GF w)(s:KY w)(e:10<=w.heap.size):Fn Zp 17 [v] w fun u w'=>Ext w w'/\FAt (fun b=>w.heap.size<=b/\Unm w' b) w' u (Bc f):=by
 obtain⟨c,rfl,j,o⟩:=K.cells;obtain⟨T,R,t,z,A,rfl⟩:=Ab j;refine AG Tryz.func17 rfl Tryz.ntmps17 (go ?_);refine Ai (L:=[T,R,t,z,A]) rfl (fun W E=>?_);refine AS (L:=zero5) (fun i N=>go ?_);have Z:=E.size;have h:=E.E.trans N.E;have m:Blk i w.heap.size 36 [T,R,t,z,A]:=E.D.E N.E O;have d:=N.D;have l:PF AV i w.heap.size 0 f:=⟨trivial,_,rfl,m.cells,K.ext h⟩;refine go ?_;refine AE (loose_ok i w.heap.size 0 f l (B.ext h) (s.E h O) (Nat.le_trans e h.size)) rfl ?_;rintro _ H⟨rfl,g⟩;have k:=d.E g O;unfold Bc;cases hl:BA f with
 |false=>
  rw[if_neg Bool.false_ne_true];refine go ?_;refine AH (cs:=zero5) rfl rfl rfl (AW rfl) k D0 (fun P n=>go ?_);exact AU rfl rfl rfl n.D.cells ⟨(h.trans g).E n.E Dw,FAt.leaf _ _ 0 [] 0 0⟩
 |true=>
  rw[if_pos rfl];obtain⟨V,p,G⟩:=BG hl;refine go ?_;refine AE (canon_ok 60 H w.heap.size 0 f p U (l.E g (fun _ _=>by simp)) (Cy G)) rfl ?_;rintro u X⟨a,C⟩;obtain⟨r,rfl,x,o⟩:=C.cells;obtain⟨Q,I,S,M,q,rfl⟩:=Ab x;have z3:=h.size;have a0:=g.size;have z2:=N.size;refine AH (cs:=[Q,I,S,M,q]) rfl rfl rfl o (k.E a O) D0 (fun P n=>go ?_);exact AU rfl rfl rfl n.D.cells ⟨((h.trans g).trans a).E n.E Dw,(C.unm n.E (fun y F D=>by rw[List.mem_singleton]at D;omega)).mono fun y F=>⟨by omega,F.2⟩⟩
def resG(x:Vl)(f:Fml):Fml:=Bc (rawF x f)
theorem resid_ok(w:World)(r:Nat)(S:List Sgn)(x:Int)(q:Rdr w r S x)(b o:Nat)(f:Fml)(M:BA f=true)(P:isB (knS S) f=true)(K:PF AV w b o f)(C:GF w)(s:KY w)(e:10<=w.heap.size):
  Fn Zp 100 [pt r,.pointer (some ⟨b,o,none⟩)] w fun u w'=>Ext w w'/\FAt (fun b=>w.heap.size<=b/\Unm w' b) w' u (resG (vlS S x) f):=by
 obtain⟨l1,p,g⟩:=BG M;refine AG Tryz.func100 rfl Tryz.ntmps100 (go ?_);refine AS (L:=zero5) (fun H E=>go ?_);have z1:=E.size;refine go ?_;refine AE (rraw_ok w r S x q 60 H b o f p U E.E (K.E E.E (fun _ _=>by simp)) g P) rfl ?_;rintro u z⟨l,Z⟩;obtain⟨h,rfl,j,k⟩:=Z.cells;obtain⟨A,R,c,B,a,rfl⟩:=Ab j;refine AS (L:=zero5) (fun w3 v=>?_);refine AH (cs:=[A,R,c,B,a]) rfl rfl rfl k v.D D0 (fun d m=>go ?_);have b5:Blk d z.heap.size 36 [A,R,c,B,a]:=m.D;have G:Ext z d:=v.E.E m.E O;have V:=(E.E.trans l).trans G;have t:Blk d w.heap.size 36 zero5:=E.D.E (l.trans G) O;refine go ?_;refine AE (BN d _ _ ((Z.ext G).mono fun _ _=>trivial) (C.ext V) (s.E V O) (Nat.le_trans e V.size)) rfl ?_;rintro u w5⟨i,T⟩;obtain⟨h,rfl,j,k⟩:=T.cells;obtain⟨Q,I,N,W,X,rfl⟩:=Ab j;have z4:=V.size;have z2:=l.size;have a0:=G.size;refine AH (cs:=[Q,I,N,W,X]) rfl rfl rfl k (t.E i O) D0 (fun w9 n=>go ?_);exact AU rfl rfl rfl n.D.cells ⟨(V.trans i).E n.E O,(T.unm n.E (fun y F D=>by rw[List.mem_singleton]at D;omega)).mono fun y F=>⟨by omega,F.2⟩⟩
def looseP(f:Fml):Bool:=kernG f||decide ((Bc f).op≠0)
theorem rloose_ok(w:World)(b o:Nat)(f:Fml)(K:PF AV w b o f)(C:GF w)(s:KY w)(e:10<=w.heap.size):Fn Zp 96 [.pointer (some ⟨b,o,none⟩)] w fun u w'=>u=.bool (looseP f)/\Ext w w':=by
 have v:=K;obtain⟨_,d,j,N,r⟩:=K;obtain⟨T,R,c,h,a,rfl⟩:=Ab j;refine AG Tryz.func96 rfl Tryz.ntmps96 (go ?_);refine AQ (L:=[T,R,c,h,a]) rfl rfl N ?_;refine AE (iskernel_ok w _ f r C s e) rfl ?_;rintro _ k⟨rfl,g⟩;unfold looseP;cases hkf:kernG f with
 |true=>
  refine go ?_;exact AB rfl ⟨rfl,g⟩
 |false=>
  refine go ?_;refine AQ (L:=[T,R,c,h,a]) rfl rfl (N.E g O) (go ?_);refine AE (BN k _ f (r.ext g) (C.ext g) (s.E g O) (Nat.le_trans e g.size)) rfl ?_;rintro u m⟨l,Z⟩;obtain⟨p,rfl,_⟩:=Z.form;refine go ?_;refine W_field (L:=[iV (Bc f).op,AK (Bc f).name,iV (Bc f).val,iV (Bc f).bound,p]) rfl rfl ?_;by_cases i:(Bc f).op=0
  ·rw[decide_eq_false U];refine go ?_;exact AB rfl ⟨rfl,g.trans l⟩
  ·rw[decide_eq_true i];refine go ?_;exact AB rfl ⟨rfl,g.trans l⟩
theorem isL_all(k:LU->Int->Bool):∀l:LF,isL k l=l.all (isB k)
 | []=>rfl
 |a::l=>by rw[isL,isL_all k l];rfl
theorem known_ok(w0:World)(L:Option Addr)(K:Nat)(S:List Sgn)(hS:SlAt sgnR AV w0 (.slice L S.length K) S):∀(n:Nat)(w:World)(b o:Nat)(f:Fml),dpF f<=n->Ext w0 w->PF AV w b o f->Fn Zp 97 [.slice L S.length K,.pointer (some ⟨b,o,none⟩)] w fun u w'=>u=.bool (isB (knS S) f)/\Ext w w':=by
 intro n
 induction n with
 |zero=>intro w b o f G;rw[BQ]at G;omega
 |succ n ih=>
 intro w b o f G d hf;rw[BQ]at G;have Z:=hS.ext d;obtain⟨r,cc,b1,q0,q1,q2,q3,C,qa⟩:=hf.all;obtain⟨N,p,v,bd,m⟩:=f;simp only[Fml.op,Fml.name,Fml.val,Fml.args]at*
 have a1:∀(k:Nat)(a:Fml),m[k]?=some a->∀W,Ext w W->∃h l,r=some ⟨h,l,none⟩/\Fn Zp 97 [.slice L S.length K,.pointer (some ⟨h,l+k*5,none⟩)] W fun u w'=>u=.bool (isB (knS S) a)/\Ext W w':=fun k a A W D=>by
  exact Fk
 rw[isB];refine AG Tryz.func97 rfl Tryz.ntmps97 ?_;repeat refine nx rfl ?_
 refine AJ (AO (AI rfl ?_));repeat refine nx rfl ?_
 (refine AJ (Af rfl (AM rfl (AD rfl ?_)))<;>refine AL rfl Dz ?_)
 refine W_eqlD rfl rfl ?_;refine AA ?_;refine Q_then ?_;refine DF (α:=Unit) (fun _=>[(0,.slice L S.length K),(1,.pointer (some ⟨b,o,none⟩))]) (fun _ W=>Ext w W/\(if N=3 then knS S p v else true)=true) ?_ ?_
 ·by_cases Q:N=3
  ·rw[decide_eq_true Q];refine go ?_;refine AE (sigFind_ok w _ S p Z) rfl ?_;rintro _ w2⟨rfl,rfl⟩;simp only[if_pos Q];unfold Di knS;cases hj:S.findIdx? (fun y=>decide (y.name=p))with
   |none=>
    simp only;refine go ?_;refine AX (rd 0 14 .done) An Dv (fun H I ed=>⟨Ext H,?_,?_⟩)
    ·exact Ew
    refine go ?_;exact AB rfl ⟨rfl,I⟩
   |some j=>
    have a4:j<S.length:=(List.findIdx?_eq_some_iff_getElem.1 hj).1;obtain⟨s,P⟩:∃s,S[j]?=some s:=⟨_,List.getElem?_eq_getElem a4⟩;obtain⟨_,sb,so,rfl,_,a8⟩:=Z.sig P;simp only[P];refine go ?_;refine AX (rd 0 14 .done) An Dv (fun H I ed=>⟨Ext H,?_,?_⟩)
    ·exact Ew
    have g:∀V,Ext H V->V.cell? ⟨b,o+2,none⟩=some (iV v):=fun V e=>(I.trans e).cell q2 O;have T:∀V,Ext H V->V.cell? ⟨sb,so+j*3+2,none⟩=some (iV s.size):=fun V e=>(I.trans e).cell (a8 2 _ rfl) O;by_cases q:v<s.size
    ·((apply D_R rfl rfl;(intro W c;refine AY rfl ?_;exact AA ⟨rfl,rfl,rfl⟩))<;>(refine C8 rfl rfl rfl rfl (fun t=>?_) (fun t=>?_)<;>try omega)<;>(apply D_R rfl rfl;(intro W c;refine AI rfl ?_;exact AA ⟨rfl,rfl,rfl⟩))<;>(apply D_R rfl rfl;(intro W c;(refine AN rfl ?_;refine Af rfl ?_);exact AA ⟨rfl,rfl,rfl⟩))<;>(apply D_R rfl rfl;(intro W c;(refine AN rfl ?_;refine AM rfl ?_);exact AA ⟨rfl,rfl,rfl⟩))<;>(apply D_R rfl rfl;(intro W c;(refine AN rfl ?_;refine AD rfl ?_);exact AA ⟨rfl,rfl,rfl⟩))<;>(apply D_R rfl rfl;(intro W c;(refine AN rfl ?_;refine AL rfl (g W c) ?_);exact AA ⟨rfl,rfl,rfl⟩))<;>(apply D_R rfl rfl;(intro W c;(refine AN rfl ?_;refine Av rfl ?_);exact AA ⟨rfl,rfl,rfl⟩))<;>(apply D_R rfl rfl;(intro W c;(refine AN rfl ?_;refine AY rfl ?_);exact AA ⟨rfl,rfl,rfl⟩))<;>(apply D_R rfl rfl;(intro W c;(refine AN rfl ?_;refine Cd rfl rfl rfl U ?_);exact AA ⟨rfl,rfl,rfl⟩))<;>(apply D_R rfl rfl;(intro W c;(refine AN rfl ?_;refine AD rfl ?_);exact AA ⟨rfl,rfl,rfl⟩))<;>(apply D_R rfl rfl;(intro W c;(refine AN rfl ?_;refine AL rfl (T W c) ?_);exact AA ⟨rfl,rfl,rfl⟩))<;>(refine D_geq rfl rfl rfl rfl (fun t=>?_) (fun t=>?_)<;>try omega)<;>(apply D_R rfl rfl;(intro W c;(refine Al rfl ?_;refine AI rfl ?_);exact AA ⟨rfl,rfl,rfl⟩))<;>refine Bq ?_)
     refine go ?_;exact Ao () ⟨rfl,rfl,trivial⟩ ⟨I,decide_eq_true q⟩
    ·exact EY
  ·rw[decide_eq_false Q];refine go ?_;exact Ao () ⟨rfl,rfl,trivial⟩ ⟨Ext.refl _,by rw[if_neg Q]⟩
 rintro _ w5 f5⟨X,a7⟩;rw[a7,Bool.true_and,isL_all];have a9:=X.cell C O;clear C;have C:=a9;have a0:∀(k:Nat)(a:Fml),m[k]?=some a->∀W,Ext w5 W->∃h l,r=some ⟨h,l,none⟩/\Fn Zp 97 [.slice L S.length K,.pointer (some ⟨h,l+k*5,none⟩)] W fun u w'=>u=.bool (isB (knS S) a)/\Ext W w':=fun k a A W D=>a1 k a A W (X.trans D);refine go ?_;refine Ah (α:=Nat) (fun k=>[(0,.slice L S.length K),(1,.pointer (some ⟨b,o,none⟩)),(36,iV (m.length:Int)),(37,iV (k:Int))]) (fun k W=>k<=m.length/\Ext w5 W/\∀(i:Nat)(y:Fml),i<k->m[i]?=some y->isB (knS S) y=true) (fun k=>m.length-k) 0 (by repeat (first|exact trivial|refine⟨rfl,?_⟩)) ⟨by omega,Ext.refl _,fun i y M=>by omega⟩ ?_;rintro k W fr⟨b0,B,E⟩;have b2:=B.cell C O;refine go ?_;by_cases a5:k<m.length
 ·refine go ?_;obtain⟨y,F⟩:∃y,m[k]?=some y:=⟨_,List.getElem?_eq_getElem a5⟩;obtain⟨h,l,rfl,a2⟩:=a0 k y F W B;refine go ?_;refine AE a2 rfl ?_;rintro _ w4⟨rfl,k4⟩;have R:=B.trans k4;cases q:isB (knS S) y with
  |true=>
   refine go ?_;refine⟨k+1,⟨rfl,⟨(by repeat (first|exact trivial|refine⟨rfl,?_⟩)),⟨by omega,R,fun i z M x=>?_⟩⟩⟩,by omega⟩;by_cases a3:i=k
   ·subst a3;rw[F]at x;cases x;exact q
   ·exact E i z U x
  |false=>
   refine go ?_;exact AB rfl ⟨congrArg Value.bool (all_stop F q).symm,(X).trans R⟩
 ·refine go ?_;exact AB rfl ⟨congrArg Value.bool (all_done fun i z M x=>E i z U x).symm,(X).trans B⟩
def fitsB(S:List Sgn)(f:Fml):Bool:=A5 S&&(looseP f&&isB (knS S) f)
theorem pfits_ok(w:World)(L:Option Addr)(K:Nat)(S:List Sgn)(b o:Nat)(f:Fml)(j:SlAt sgnR AV w (.slice L S.length K) S)(d:PF AV w b o f)(C:GF w)(s:KY w)(e:10<=w.heap.size):
  Fn Zp 61 [.slice L S.length K,.pointer (some ⟨b,o,none⟩)] w fun u w'=>u=.bool (fitsB S f)/\Ext w w':=by
 refine AG Tryz.func61 rfl Tryz.ntmps61 (go ?_);refine AE (Dt w _ S j s) rfl ?_;rintro _ R⟨rfl,a⟩;unfold fitsB;cases A5 S with
 |false=>
  refine go ?_;exact AB rfl ⟨rfl,a⟩
 |true=>
  refine go ?_;refine AE (rloose_ok R b o f (d.E a (fun _ _=>by simp)) (C.ext a) (s.E a O) (Nat.le_trans e a.size)) rfl ?_;rintro _ h⟨rfl,l⟩;cases looseP f with
  |false=>
   refine go ?_;exact AB rfl ⟨rfl,a.trans l⟩
  |true=>
   refine go ?_;have c:=a.trans l;refine go ?_;refine AE (known_ok h L K S (j.ext c) (dpF f) h b o f (Nat.le_refl _) (Ext.refl _) (d.E c (fun _ _=>by simp))) rfl ?_;rintro _ i⟨rfl,g⟩;cases isB (knS S) f with
   |true=>
    refine go ?_;exact AB rfl ⟨rfl,c.trans g⟩
   |false=>
    refine go ?_;exact AB rfl ⟨rfl,c.trans g⟩
theorem fits_parts{S:List Sgn}{f:Fml}(h:fitsB S f=true):A5 S=true/\BA f=true/\isB (knS S) f=true:=by
 simp only[fitsB,Bool.and_eq_true]at h;obtain⟨X,W,Q⟩:=h;refine⟨X,?_,Q⟩;unfold looseP at W;rcases Bool.or_eq_true_iff.1 W with h|h
 ·simp only[kernG,Bool.and_eq_true,decide_eq_true_eq]at h;simp only[BA,Bool.and_eq_true,decide_eq_true_eq];exact⟨⟨by omega,by omega⟩,h.2⟩
 ·cases hl:BA f with
  |true=>rfl
  |false=>
   unfold Bc at h;rw[hl,if_neg Bool.false_ne_true]at h;exact absurd rfl (of_decide_eq_true h)
def CK(S:List Sgn)(f:Fml)(x:Int):Fml:=if fitsB S f=true/\0<=x/\x<CQ S then resG (vlS S x) f else Ag
theorem Step_ok(w:World)(z:Option Addr)(K:Nat)(S:List Sgn)(v:Value)(f:Fml)(x:Int)(j:SlAt sgnR AV w (.slice z S.length K) S)(D:FAt AV w v f)(C:GF w)(s:KY w)(e:10<=w.heap.size):
  Fn Zp 62 [.slice z S.length K,v,iV x] w fun u w'=>Ext w w'/\FAt (fun b=>w.heap.size<=b/\Unm w' b) w' u (CK S f x):=by
 obtain⟨c,rfl,a0,o⟩:=D.cells;obtain⟨T,R,W,X,Z,rfl⟩:=Ab a0;refine AG Tryz.func62 rfl Tryz.ntmps62 (go ?_);refine Ai (L:=[T,R,W,X,Z]) rfl (fun w1 t=>?_);refine AS (L:=zero5) (fun A N=>go ?_);have z1:=t.size;have z2:=N.size;have k:=t.E.trans N.E;have m:Blk A w.heap.size 36 [T,R,W,X,Z]:=t.D.E N.E O;have d:=N.D;have G:PF AV A w.heap.size 0 f:=⟨trivial,_,rfl,m.cells,D.ext k⟩;refine go ?_;refine AE (pfits_ok A z K S w.heap.size 0 f (j.ext k) G (C.ext k) (s.E k O) (Nat.le_trans e k.size)) rfl ?_;rintro _ w3⟨rfl,g⟩;have E:=k.trans g;have p:=d.E g O;unfold CK;cases hfit:fitsB S f with
 |false=>
  rw[if_neg (fun h=>Bool.false_ne_true h.1)];exact Fq
 |true=>
  obtain⟨hv,hl,hk⟩:=fits_parts hfit;by_cases a2:x<0
  ·rw[if_neg (fun h=>by omega)];exact Fq
  ·refine go ?_;refine AE (letters_ok w3 _ S (j.ext E) (s.E E O) (Nat.le_trans e E.size)) rfl ?_;rintro _ w4⟨rfl,a⟩;have V:=E.trans a;have M:=p.E a O;by_cases I:x<CQ S
   ·rw[if_pos ⟨rfl,by omega,I⟩];refine go ?_;refine AE (readerOf_ok w4 _ S x (j.ext V) hv U I (s.E V O) (Nat.le_trans e V.size)) rfl ?_;rintro _ w5⟨r,rfl,i,q⟩;have H:=V.trans i;refine AE (resid_ok w5 r S x q w.heap.size 0 f hl hk (G.E ((g.trans a).trans i) (fun _ _=>by simp)) (C.ext H) (s.E H O) (Nat.le_trans e H.size)) rfl ?_;rintro u w6⟨Q,P⟩;obtain⟨l,rfl,a1,o⟩:=P.cells;obtain⟨y0,y1,y2,y3,y4,rfl⟩:=Ab a1;have z4:=V.size;have z5:=i.size;have z3:=g.size;have a3:=a.size;refine AH (cs:=[y0,y1,y2,y3,y4]) rfl rfl rfl o ((M.E i O).E Q O) D0 (fun B n=>go ?_);exact AU rfl rfl rfl n.D.cells ⟨(H.trans Q).E n.E Dw,(P.unm n.E (fun y F hm=>by rw[List.mem_singleton]at hm;omega)).mono fun y F=>⟨by omega,F.2⟩⟩
   ·rw[if_neg (fun h=>I h.2.2)];refine go ?_;refine AH (cs:=zero5) rfl rfl rfl (AW rfl) M D0 (fun B n=>go ?_);exact AU rfl rfl rfl n.D.cells ⟨V.E n.E Dw,FAt.leaf _ _ 0 [] 0 0⟩
def Dc(S:List Sgn):Fml->List Int->Fml
 |out,[]=>out
 |out,x::xs=>if(CK S out x).op=0 then Ag else Dc S (CK S out x) xs
def runG(S:List Sgn)(f:Fml)(xs:List Int):Fml:=if fitsB S f=true then Dc S (Bc f) xs else Ag
def runK(S:List Sgn)(f:Fml)(xs:List Int):Nat->Fml
 |0=>Bc f
 |k+1=>CK S (runK S f xs k) (xs.getD k 0)
theorem runL_K(S:List Sgn)(f:Fml)(xs:List Int):∀k,k<=xs.length->(∀i,i<k->(runK S f xs (i+1)).op≠0)->Dc S (Bc f) xs=Dc S (runK S f xs k) (xs.drop k)
 |0,_,_=>by simp[runK]
 |k+1,hk,h=>by
  rw[runL_K S f xs k U fun i H=>h i U]
  have e:xs.drop k=xs.getD k 0::xs.drop (k+1):=by
   rw[List.drop_eq_getElem_cons (by omega:k<xs.length),List.getD_eq_getElem?_getD,List.getElem?_eq_getElem (by omega:k<xs.length)];rfl
  rw[e,Dc,if_neg (show¬(CK S (runK S f xs k) (xs.getD k 0)).op=0 from h k U)];rfl
theorem Run_ok(w:World)(m:Option Addr)(K:Nat)(S:List Sgn)(v:Value)(f:Fml)(la:Option Addr)(lc:Nat)(xs:List Int)(hS:SlAt sgnR AV w (.slice m S.length K) S)(hf:FAt AV w v f)(Z:GF w)(s:KY w)(e:10<=w.heap.size)
  (a5:Sl AV w (.slice la xs.length lc) xs.length (xs.map (.int .i64))):
  Fn Zp 22 [.slice m S.length K,v,.slice la xs.length lc] w fun u w'=>Ext w w'/\FAt (fun b=>w.heap.size<=b/\Unm w' b) w' u (runG S f xs):=by
 obtain⟨c,rfl,a8,o⟩:=hf.cells;obtain⟨x0,x1,x2,x3,x4,rfl⟩:=Ab a8;have b6:xs.length<=9223372036854775807:=by obtain⟨_,_,hv,g1,g2,_⟩:=id a5;cases hv;omega
 refine AG Tryz.func22 rfl Tryz.ntmps22 (go ?_);refine Ai (L:=[x0,x1,x2,x3,x4]) rfl (fun w1 n1=>?_);refine AS (L:=zero5) (fun w2 P=>go ?_);have z1:=n1.size;have z2:=P.size;have j:=n1.E.trans P.E;have b1:Blk w2 w.heap.size 36 [x0,x1,x2,x3,x4]:=n1.D.E P.E O;have b2:=P.D;have hp:PF AV w2 w.heap.size 0 f:=⟨trivial,_,rfl,b1.cells,hf.ext j⟩;refine go ?_;refine AE (pfits_ok w2 m K S w.heap.size 0 f (hS.ext j) hp (Z.ext j) (s.E j O) (Nat.le_trans e j.size)) rfl ?_;rintro _ R⟨rfl,g⟩;have E:=j.trans g;have z3:=g.size;have a1:=b2.E g O;unfold runG;cases hfit:fitsB S f with
 |false=>
  rw[if_neg Bool.false_ne_true];refine go ?_;refine AH (cs:=zero5) rfl rfl rfl (AW rfl) a1 D0 (fun w9 n=>go ?_);exact AU rfl rfl rfl n.D.cells ⟨E.E n.E Dw,FAt.leaf _ _ 0 [] 0 0⟩
 |true=>
  rw[if_pos rfl];refine go ?_;have b3:=b1.E g O;refine go ?_;refine AE (BN R _ f (hf.ext E) (Z.ext E) (s.E E O) (Nat.le_trans e E.size)) rfl ?_;rintro u w4⟨k4,f4⟩;obtain⟨a,rfl,a0,o⟩:=f4.cells;obtain⟨l,I,N,M,q,rfl⟩:=Ab a0;refine AS (L:=zero5) (fun w5 n5=>?_);refine AH (cs:=[l,I,N,M,q]) rfl rfl rfl o n5.D D0 (fun z p6=>go ?_);have D:Ext w4 z:=n5.E.E p6.E O;have e6:=(E.trans k4).trans D;have z4:=k4.size;have z5:=n5.size;have z6:=p6.size;obtain⟨r,a4⟩:∃t,t=w4.heap.size:=⟨_,rfl⟩;have a7:Blk z r 36 [l,I,N,M,q]:=by rw[a4];exact p6.D
  have a6:=(a1.E k4 O).E D O;have f6:FAt (fun b=>(R.heap.size<=b/\b≠r)/\Unm z b) z (.agg [l,I,N,M,q].toArray) (Bc f):=((f4.lt).ext D).mono fun y F=>⟨⟨F.1.1,by have:=F.2;omega⟩,F.1.2.eq (D.block y F.2 O)⟩;rw[<-a4];refine go ?_
  refine Ah (α:=Nat×LV) (fun y=>[(0,.slice m S.length K),(6,pt w1.heap.size),(7,pt r),(16,.slice la xs.length lc),(17,iV (xs.length:Int)),(18,iV (y.1:Int))])
   (fun y W=>y.1<=xs.length/\Ext w W/\z.heap.size<=W.heap.size/\Blk W w1.heap.size 36 zero5/\Blk W r 36 y.2/\y.2.length=5/\FAt (fun b=>(R.heap.size<=b/\b≠r)/\Unm W b) W (.agg y.2.toArray) (runK S f xs y.1)/\∀i,i<y.1->(runK S f xs (i+1)).op≠0) (fun y=>xs.length-y.1) (0,[l,I,N,M,q]) ⟨rfl,rfl,rfl,rfl,rfl,rfl,trivial⟩
   ⟨by simp,e6,Nat.le_refl _,a6,a7,rfl,f6,fun i H=>absurd H O⟩ ?_
  rintro⟨k,a⟩W fr⟨hk,V,zW,bW,T,h5,h,A⟩;simp only at hk T h5 h A;obtain⟨l,I,N,M,q,rfl⟩:=Ab h5;have b5:r<W.heap.size:=T.lt;refine go ?_;by_cases a2:k<xs.length
  ·refine go ?_;obtain⟨x,hx⟩:∃x,xs[k]?=some x:=⟨_,List.getElem?_eq_getElem a2⟩;have hxg:xs.getD k 0=x:=by rw[List.getD_eq_getElem?_getD,hx];rfl
   obtain⟨a',c',e',_,_,_,h4⟩:=id a5;cases e';obtain⟨lb,lo,rfl,_,hlc⟩:=h4.resolve_left U;have b4:W.cell? ⟨lb,lo+k,none⟩=some (iV x):=V.cell (hlc k _ (by rw[List.getElem?_map,hx];rfl)) O;refine go ?_;refine AE (Step_ok W m K S _ _ x (hS.ext V) (h.mono fun _ _=>trivial) (Z.ext V) (s.E V O) (Nat.le_trans e V.size)) rfl ?_;rintro u w7⟨G,f7⟩;obtain⟨a,rfl,a0,o⟩:=f7.cells;obtain⟨v0,C,B,X,Q,rfl⟩:=Ab a0;have c7:=T.E G O;refine AH (cs:=[v0,C,B,X,Q]) rfl rfl rfl o c7 O (fun p d=>go ?_);have c8:Blk p r 36 [v0,C,B,X,Q]:=d.D;have e8:Ext w p:=(V.trans G).E d.E Dw;have b8:=(bW.E G O).E d.E Dw;have z7:=G.size;have z8:=d.size;have a3:runK S f xs (k+1)=CK S (runK S f xs k) x:=by rw[runK,hxg]
   have f8:FAt (fun b=>(R.heap.size<=b/\b≠r)/\Unm p b) p (.agg [v0,C,B,X,Q].toArray) (runK S f xs (k+1)):=by
    rw[a3];exact(f7.unm d.E (fun y F hm=>by rw[List.mem_singleton]at hm;omega)).mono fun y F=>⟨⟨by omega,by omega⟩,F.2⟩
   obtain⟨av,ev,_⟩:=f8.form;simp only[Value.agg.injEq,List.toArray_eq_iff,List.cons.injEq,and_true]at ev;obtain⟨rfl,_⟩:=ev;have a9:xs.drop k=x::xs.drop (k+1):=by rw[List.drop_eq_getElem_cons a2];congr 1;exact(List.getElem?_eq_some_iff.1 hx).2
   by_cases h0:(runK S f xs (k+1)).op=0
   ·refine go ?_;refine AH (cs:=zero5) rfl rfl rfl (AW rfl) b8 D0 (fun w9 n=>go ?_)
    have hr:Dc S (Bc f) xs=Ag:=by
     rw[runL_K S f xs k hk A,a9,Dc,<-a3,if_pos h0]
    rw[hr];exact AU rfl rfl rfl n.D.cells ⟨e8.E n.E Dw,FAt.leaf _ _ 0 [] 0 0⟩
   ·refine go ?_;refine⟨(k+1,[iV (runK S f xs (k+1)).op,C,B,X,Q]),⟨rfl,⟨rfl,rfl,rfl,rfl,rfl,?_,trivial⟩,⟨by simp only;omega,e8,by omega,b8,c8,rfl,f8,fun i H=>?_⟩⟩,by simp only;omega⟩
    ·show iV ((k:Int)+1)=_;rw[Int.natCast_add];rfl
    ·simp only at H;by_cases b0:i=k
     ·subst b0;exact h0
     ·exact A i U
  ·refine go ?_;obtain rfl:k=xs.length:=by omega
   have hr:Dc S (Bc f) xs=runK S f xs xs.length:=by rw[runL_K S f xs xs.length hk A,List.drop_length];rfl
   rw[hr];refine go ?_;refine AH (cs:=[l,I,N,M,q]) rfl rfl rfl h.one bW D0 (fun w9 n=>go ?_);exact AU rfl rfl rfl n.D.cells ⟨V.E n.E Dw,(h.unm n.E (fun y F hm=>by rw[List.mem_singleton]at hm;omega)).mono fun y F=>⟨by omega,F.2⟩⟩

section
variable {P:Program}{all:Array Oper}{Z:Fr->DS->List PanicEntry->World->Prop}{K:Fr->DS->World->Prop}{rest:List Oper}{f:Fr}{ds:DS}{w:World}
 {d:Nat}{ty:TypeId}{pos:String}{af:Array Edge}
theorem W_make0{T e F:Nat}{z:Value}{l c:Operand}{k A:IntKind}{n:Nat}{N M:Int}[hT:SlT P T e 1 F z](o:z.cells= #[z])(j:ev f l=.int k N)(V:ev f c=.int A M)(b:N=0)(a:M=(n:Int))(S:F*n<=281474976710656)(y:n<=9223372036854775807)
  (h:∀w',New w w' e (List.replicate n z)->w'.ownsRow w.heap.size e 1 (.slice (sm w.heap.size) 0 n) 0 []->AT P all Z K rest (upd f d (.slice (sm w.heap.size) 0 n)) ds w'):
  AT P all Z K (⟨some d,.makeSlice T l c,ty,pos,af,none⟩::rest) f ds w:=by
 subst b;subst a;obtain⟨i,H,p,m,E⟩:=hT.out
 have g:(i.bytes:Int)*(n:Int)<=281474976710656:=by
  rw[E];have h:((F*n:Nat):Int)<=281474976710656:=by omega
  rwa [Int.natCast_mul]at h
 have x:=run_make (P:=P) w T e i z hT.und H p k A 0 n U U g U
 have I:New w (w.alloc (.cells (madeCells z.cells (n*1)).toList.toArray e)) e (List.replicate n z):=by
  have:=New.mk_alloc w (madeCells z.cells (n*1)).toList e
  rwa [o,Nat.mul_one,toList_madeCells_one]at this⊢
 refine Aw (v:=.slice (sm w.heap.size) 0 n) (w':=w.alloc (.cells (madeCells z.cells (n*1)).toList.toArray e)) rfl ?_ (h _ I ⟨by simp,.inr ⟨w.heap.size,n,(List.replicate n z).toArray,rfl,Nat.le_refl _,I.D,by omega,by unfold maxLen;omega,by simp,by simp⟩⟩);simp[execOp,j,V,x,m]
end
section
variable {mk:Prop}[MK mk]
open Go.ChangeMaps (setBlock)
attribute [local semireducible] WC AT Bo BI Bj Cw DV Be
variable {P:Program}{all:Array Oper}{Z:Fr->DS->List PanicEntry->World->Prop}{K:Fr->DS->World->Prop}{rest:List Oper}{f:Fr}{ds:DS}{w:World}
 {d:Nat}{ty:TypeId}{pos:String}{af:Array Edge}
theorem W_max{x y:Operand}{a b:Int}{H T:TypeId}(c:ev f x=iV a)(F:ev f y=iV b)(h:AT P all Z K rest (upd f d (iV (max a b))) ds w):
  AT P all Z K (⟨some d,.call ⟨.builtin .max,#[x,y],#[H,T]⟩,ty,pos,af,none⟩::rest) f ds w:=by
 refine Aw rfl ?_ h;simp[execOp,resolve,invoke,builtin,c,F,Builtin.max_,Builtin.max2]
 split<;>omega
end

theorem set_fill{α:Type}(A:List α)(z v:α)(n i:Nat)(E:A.length=i)(H:i<n):(A++List.replicate (n-i) z).set i v=(A++[v])++List.replicate (n-(i+1)) z:=by
 obtain⟨m,y⟩:∃m,n-i=m+1:=⟨n-i-1,by omega⟩;rw[y,List.replicate_succ,List.set_append_right _ _ U,E,Nat.sub_self,List.set_cons_zero,show n-(i+1)=m by omega,List.append_assoc];rfl
def RwsAt(W:World)(B:Nat)(G:Option Nat)(vs:LV)(S:List Sgn)(xs:List Int):Prop:=vs.length=xs.length/\∀(k:Nat)(u:Value)(x:Int),vs[k]?=some u->xs[k]?=some x->∃g,u=.slice (sm g) S.length S.length/\B<=g/\some g≠G/\Blk W g 3 (valsC S x S.length)



abbrev mvT(F:FuncId)(l:LV):Value:=.func (.func F) #[] l.toArray
def lawT(B S:Nat):List (Int×Value):=[(1,mvT 205 [pt S]),(2,mvT 206 [pt S]),(3,mvT 207 [pt B]),(4,mvT 210 [pt B]),(5,mvT 212 [pt B]),(6,mvT 215 [pt B]),(7,mvT 217 [pt B]),(8,mvT 219 [pt B]),(9,mvT 221 [pt B]),(10,mvT 223 [pt B]),(11,mvT 225 [pt B,pt S]),(12,mvT 226 [pt B,pt S]),(13,mvT 227 [pt B]),(14,mvT 230 [pt B]),(15,mvT 232 [pt B]),(16,mvT 234 [pt B]),(17,mvT 236 [pt B]),(18,mvT 238 [pt B,pt S]),(19,mvT 239 [pt B,pt S])]
instance :VMapT Zp 226 .nilFunc:=vmapT_of Tryz.underlying226 Tryz.underlying3 Dv

section
variable {mk:Prop}[MK mk]
theorem D_leaf{P:Program}{ops:Array Oper}{Z:Fr->DS->List PanicEntry->World->Prop}{K:Fr->DS->World->Prop}{S:World->Prop}{T:DT}{f:Fr}{ds:DS}{w:World}{α:Type}(t:DT)(L:α->List (Nat×Value))(I:α->World->Prop)
  (X:∀x W w',I x w'->CU P ops Z K t S (ov (L x) W) ds w')(a:(∀x W w',agr (L x) W->I x w'->CU P ops Z K t S W ds w')->CU P ops Z K T S f ds w):CU P ops Z K T S f ds w:=
 a fun x W w' b y=>by have:=X x W w' y;rwa [ov_of_agr b]at this
def Cn(N:Int):Int:=if N=7\/N=13 then 6 else if N=14 then 5 else if N=11 then 9 else if N=12 then 10 else if N=18 then 16 else if N=19 then 17 else N
theorem full_ok(w:World)(N:Int):Fn Zp 125 [iV N] w fun u w'=>u=iV (Cn N)/\w'=w:=by
 unfold Cn;refine AG Tryz.func125 rfl Tryz.ntmps125 (go ?_);by_cases x:N=7
 ·rw[if_pos (.inl x)];exact El
 ·by_cases b:N=13
  ·rw[if_pos (.inr b)];exact El
  ·rw[if_neg U];refine go ?_;by_cases R:N=14
   ·rw[if_pos R];exact El
   ·rw[if_neg R];refine go ?_;by_cases S:N=11
    ·rw[if_pos S];exact El
    ·rw[if_neg S];refine go ?_;by_cases e:N=12
     ·rw[if_pos e];exact El
     ·rw[if_neg e];refine go ?_;by_cases f:N=18
      ·rw[if_pos f];exact El
      ·rw[if_neg f];refine go ?_;by_cases a:N=19
       ·rw[if_pos a];exact El
       ·rw[if_neg a];exact El
theorem own_nil(w:World)(B e:Nat):w.ownsRow B e 5 (.slice none 0 0) 0 []:=⟨rfl,.inl ⟨rfl,rfl⟩⟩
theorem own_set{w:World}{B n c:Nat}{T:TypeId}{t:LV}{a:Value}{xs cs:LV}(j:w.ownsRow B 36 5 a (n+1) (xs++zero5))(k:xs.length=n*5)(i:cs.length=5)(s:Blk w c T t)(m:∀g,a.ownBlock=some g->g≠c):∃g cap M,a=.slice (sm g) (n+1) cap/\B<=g/\Blk w g 36 M/\n*5+5<=M.length/\
  (∀R L,Put w R g 36 (splice M (n*5) cs)->Put R L c T (t.set 4 a)->Keep [g,c] w L/\Blk L c T (t.set 4 a)/\L.ownsRow B 36 5 a (n+1) (xs++cs))/\
  (∀R L,Put w R c T (t.set 4 a)->Put R L g 36 (splice M (n*5) cs)->Keep [g,c] w L/\Blk L c T (t.set 4 a)/\L.ownsRow B 36 5 a (n+1) (xs++cs)):=by
 obtain⟨g,cap,M,rfl,o,Q,N,S⟩:=own_last j k i;have X:c≠g:=fun e=>m g rfl e.symm
 refine⟨g,cap,M,rfl,o,Q,N,fun R L q b=>⟨(q.E.mono fun x h=>by simp at h;simp[h]).trans b.E fun x h _=>by simp at h;simp[h],b.D,Ac (S R q) b.E fun d u=>by cases u;simpa using X.symm⟩,
  fun R L q b=>⟨(q.E.mono fun x h=>by simp at h;simp[h]).trans b.E fun x h _=>by simp at h;simp[h],q.D.E b.E (by simpa using X),?_⟩⟩
 obtain⟨d,r,W,l,_,V,_,p⟩:=own_last (Ac j q.E fun d u=>by cases u;simpa using X.symm) k i;cases l
 obtain rfl:W=M:=by
  have f:=Q.E q.E (by simpa using X.symm);unfold Blk at f V;rw[f]at V;have:=Option.some.inj V;simpa using(Obj.cells.inj this).1.symm
 exact p L b
theorem own_snoc{w:World}{B:Nat}{v:Value}{F:LF}{r:Fml}{L0:List (LV)}{cs:LV}(h:w.ownsRow B 36 5 v (F.length+1) (L0.flatten++cs)):w.ownsRow B 36 5 v (F++[r]).length (L0++[cs]).flatten:=by
 rw[List.length_append,List.flatten_append];simpa using h
end
section
variable {mk:Prop}[MK mk]
end


theorem capped_ok:∀(N:Nat)(f:Fml),szF f<=N->∀(w:World)(v:Value)(l:Nat),l<=1000000->FAt AV w v f->Fn Zp 88 [v,iV (l:Int)] w fun u w'=>u=iV ((min (szF f) (l+1):Nat):Int)/\Ext w w':=by
 intro N
 induction N with
 |zero=>intro f y;have:=szF_pos f;omega
 |succ N ih=>
 intro f y w v l hl K;obtain⟨p,rfl,L,j,q⟩:=K.form;obtain⟨a,c,rfl,A⟩:=id j;have Q:f.args.length<=9223372036854775807:=by obtain⟨X,h,_⟩:=A;omega
 have a2:=BJ f;refine AG Tryz.func88 rfl Tryz.ntmps88 (go ?_);refine Ai (L:=fcC f (.slice a f.args.length c)) rfl (fun R E=>?_);have s:=E.D;have F:=E.E;have t:R.cell? ⟨w.heap.size,0+4,none⟩=some (.slice a f.args.length c):=s.cell rfl;refine go ?_;refine Ah (α:=Nat) (fun k=>[(1,iV (l:Int)),(2,pt w.heap.size),(5,iV ((min (1+szL (f.args.take k)) (l+1):Nat):Int)),(6,iV (k:Int))]) (fun k W=>k<=f.args.length/\Ext R W) (fun k=>f.args.length-k) 0 ⟨rfl,rfl,congrArg (Value.int .i64) (by simp[szL];try omega),rfl,trivial⟩ ⟨by simp,Ext.refl _⟩ ?_;rintro k o Z⟨P,d⟩;have V:=d.cell t O;have i:=F.trans d
 have a3:szL (f.args.take k)<=szL f.args:=by
  have:∀l m:LF,szL (l++m)=szL l+szL m:=by
   intro l
   induction l with
   |nil=>intro m;simp[szL]
   |cons a l ih2=>intro m;simp only[List.cons_append,szL,ih2 m];omega
  have h:=this (f.args.take k) (f.args.drop k);rw[List.take_append_drop]at h;omega
 refine go ?_;generalize C:min (1+szL (f.args.take k)) (l+1)=n;by_cases B:k<f.args.length
 ·by_cases a1:n<=l
  ·refine go ?_;obtain⟨x,T⟩:∃x,f.args[k]?=some x:=⟨_,List.getElem?_eq_getElem B⟩;obtain⟨b,z⟩:∃b,L[k]?=some b:=⟨_,List.getElem?_eq_getElem EN⟩;obtain⟨r,oa,rfl,M,I⟩:=j.fml q.2.1 z B;have a4:=BO (List.mem_of_getElem? T);have G:FAt AV o (.agg b.toArray) x:=(q.2.2 k b x z T).ext i;have H:=I.E i O
   have D:szL (f.args.take (k+1))=szL (f.args.take k)+szF x:=by
    rw[List.take_add_one,T]
    have:∀l:LF,szL (l++[x])=szL l+szF x:=by
     intro l
     induction l with
     |nil=>simp[szL]
     |cons a l ih2=>simp only[List.cons_append,szL,ih2];omega
    exact this _
   refine go ?_;refine AQ (L:=b) rfl (q.2.1 b (List.mem_of_getElem? z)) H (go ?_);have S:(l:Int)-(n:Int)=((l-n:Nat):Int):=by omega
   rw[S];refine AE (ih x U o _ (l-n) U G) rfl ?_;rintro _ w3⟨rfl,g⟩;have a0:min (szF x) (l-n+1)<=l+1:=by omega
   refine go ?_;refine⟨k+1,⟨rfl,⟨rfl,rfl,?_,?_,trivial⟩,⟨B,d.trans g⟩⟩,by omega⟩
   ·refine congrArg (Value.int .i64) ?_;rw[D];show(n:Int)+((min (szF x) (l-n+1):Nat):Int)=_;omega
   ·show iV ((k:Int)+1)=_;rw[Int.natCast_add];rfl
  ·refine go ?_;refine AB rfl ⟨congrArg (Value.int .i64) ?_,i⟩;omega
 ·have e:k=f.args.length:=by omega
  subst e;rw[List.take_length]at C;refine go ?_;refine AB rfl ⟨congrArg (Value.int .i64) ?_,i⟩;omega
theorem rsmall_ok(w:World)(v:Value)(f:Fml)(l:Nat)(M:l<=1000000)(K:FAt AV w v f):Fn Zp 54 [v,iV (l:Int)] w fun u w'=>u=.bool (decide (szF f<=l))/\Ext w w':=by
 obtain⟨p,rfl,L,j,q⟩:=K.form;refine AG Tryz.func54 rfl Tryz.ntmps54 (go ?_);refine Ai (L:=fcC f p) rfl (fun R E=>?_);have m:=E.D;have a:=E.E;refine go ?_;refine AE (capped_ok _ f (Nat.le_refl _) R _ l M (K.ext a)) rfl ?_;rintro _ c⟨rfl,b⟩;by_cases h:szF f<=l
 ·refine go ?_;exact AB rfl ⟨congrArg Value.bool (by simp[h]),a.trans b⟩
 ·refine go ?_;exact AB rfl ⟨congrArg Value.bool (by simp[h]),a.trans b⟩
theorem in_ok(w:World)(v:Value)(l:List (LU))(s:LU)(u:Sl AV w v l.length (l.map AK)):Fn Zp 113 [v,AK s] w fun v w'=>v=.bool (decide (s∈l))/\w'=w:=by
 obtain⟨a,c,rfl,K,A,_,i⟩:=u;refine AG Tryz.func113 rfl Tryz.ntmps113 (go ?_);refine Ah (α:=Nat) (fun k=>[(0,.slice a l.length c),(1,AK s),(5,iV (k:Int))]) (fun k W=>k<=l.length/\s∉l.take k/\W=w) (fun k=>l.length-k) 0 ⟨rfl,rfl,rfl,trivial⟩ ⟨by omega,by simp,rfl⟩ ?_;rintro k L Z⟨P,d,rfl⟩;repeat refine nx rfl ?_
 by_cases B:k<l.length
 ·obtain⟨b,o,rfl,_,f⟩:=i.resolve_left U;obtain⟨y,F⟩:∃y,l[k]?=some y:=⟨_,List.getElem?_eq_getElem B⟩;have x:L.cell? ⟨b,o+k,none⟩=some (AK y):=f k _ (by simp[F]);have g:l.take (k+1)=l.take k++[y]:=by rw[List.take_add_one,F];rfl
  (refine AJ (AY rfl (Av rfl (Bt rfl ?_)))<;>(refine Dh rfl rfl (fun V=>?_) (fun V=>?_)<;>try omega))
  repeat refine nx rfl ?_
  by_cases G:y=s
  ·(refine AJ (Av rfl (AY rfl (W_idx1 rfl rfl rfl U (AL rfl Dz ?_))))<;>refine Cb rfl ?_<;>refine Bn rfl rfl (fun V=>?_) (fun V=>?_)<;>refine AA ?_)
   case refine_2=>exact absurd G Dz
   repeat refine nx rfl ?_
   refine AJ (AO (AI rfl ?_));repeat refine nx rfl ?_
   exact AB rfl ⟨by rw[decide_eq_true (List.mem_of_getElem? (G▸F):s∈l)];rfl,rfl⟩
  ·(refine AJ (Av rfl (AY rfl (W_idx1 rfl rfl rfl U (AL rfl Dz ?_))))<;>refine Cb rfl ?_<;>refine Bn rfl rfl (fun V=>?_) (fun V=>?_)<;>refine AA ?_)
   case refine_1=>exact absurd Dz G
   refine go ?_;refine⟨k+1,⟨rfl,⟨rfl,rfl,?_,trivial⟩,⟨by omega,by rw[g];simp[d];exact fun e=>G e.symm,rfl⟩⟩,by omega⟩;show iV ((k:Int)+1)=_;rw[Int.natCast_add];rfl
 ·obtain rfl:k=l.length:=by omega
  refine go ?_;rw[List.take_length]at d;exact AB rfl ⟨by rw[decide_eq_false d];rfl,rfl⟩
theorem keywords_ok(w:World):Fn Zp 114 [] w fun v w'=>Sl AV w' v keysL.length (keysL.map AK)/\Ext w w':=by
 refine AG Tryz.func114 rfl Tryz.ntmps114 (go ?_);exact FY
theorem refName_ok(s:LU)(w:World):Fn Zp 66 [AK s] w fun v w'=>v=.bool (CH s)/\Ext w w':=by
 refine AG Tryz.func66 rfl Tryz.ntmps66 (go ?_);by_cases X:s.length<1
 ·refine go ?_;exact AB rfl ⟨by rw[C7,decide_eq_false (show¬1<=s.length by omega)];rfl,Ext.refl _⟩
 by_cases e:12<s.length
 ·refine go ?_;exact AB rfl ⟨by rw[C7,decide_eq_false (show¬s.length<=12 by omega)];simp[upd,Nat.beq],Ext.refl _⟩
 refine go ?_;refine AE (keywords_ok w) rfl ?_;rintro v m⟨j,f⟩;obtain⟨l,y,rfl,_⟩:=id j;refine go ?_;refine AE (in_ok m _ keysL s j) rfl ?_;rintro _ Q⟨rfl,D⟩;obtain rfl:=D.symm;refine go ?_;by_cases P:s∈keysL
 ·rw[decide_eq_true P];refine go ?_;exact AB rfl ⟨by rw[C7,decide_eq_true P];simp[upd,Nat.beq],f⟩
 rw[decide_eq_false P];refine go ?_;refine Ah (α:=Nat) (fun k=>[(0,AK s),(3,iV (k:Int))]) (fun k W=>k<=s.length/\(∀(i:Nat)(c:UInt8),i<k->s[i]?=some c->okAt i c=true)/\W=m) (fun k=>s.length-k) 0 ⟨rfl,rfl,trivial⟩ ⟨by omega,fun i c p=>by omega,rfl⟩ ?_;rintro k L Z⟨u,g,rfl⟩;repeat refine nx rfl ?_
 by_cases B:k<s.length
 ·have a:s[k]?=some s[k]:=List.getElem?_eq_getElem B;generalize s[k]=c at a;have o:=c.toNat_lt
  have H:okAt k c=true->∀(i:Nat)(d:UInt8),i<k+1->s[i]?=some d->okAt i d=true:=fun T i d p C=>by
   by_cases q:i=k
   ·subst q;rw[a]at C;cases C;exact T
   ·exact g i d U C
  (refine AJ (AY rfl (Cb rfl (W_slen rfl ?_)))<;>(refine Dh rfl rfl (fun V=>?_) (fun V=>?_)<;>try omega))
  repeat refine nx rfl ?_
  refine DF (α:=Unit) (fun _=>[(0,AK s),(3,iV (k:Int)),(4,.bool (BM c))]) (fun _ W=>L=W) ?_ ?_
  ·by_cases I:97<=c.toNat
   ·by_cases S:c.toNat<=122
    ·rw[show BM c=true by simp[BM,I,S]];refine go ?_;exact Ao () ⟨rfl,rfl,rfl,trivial⟩ rfl
    ·rw[show BM c=false by simp[BM,I,S]];refine go ?_;exact Ao () ⟨rfl,rfl,rfl,trivial⟩ rfl
   ·rw[show BM c=false by simp[BM,I]];refine go ?_;exact Ao () ⟨rfl,rfl,rfl,trivial⟩ rfl
  rintro _ _ r rfl;repeat refine nx rfl ?_
  refine DF (α:=Unit) (fun _=>[(0,AK s),(3,iV (k:Int)),(4,.bool (BM c)),(5,.bool (A6 c||decide (c.toNat=95)))]) (fun _ W=>L=W) ?_ ?_
  ·by_cases I:48<=c.toNat
   ·by_cases S:c.toNat<=57
    ·rw[show(A6 c||decide (c.toNat=95))=true by simp[A6,I,S]];exact Fh
    ·by_cases n:c.toNat=95
     ·rw[show(A6 c||decide (c.toNat=95))=true by simp[n]];exact Fh
     ·rw[show(A6 c||decide (c.toNat=95))=false by simp[A6,n,I,S]];exact Fh
   ·rw[show(A6 c||decide (c.toNat=95))=false by simp[A6,I];omega];exact Fh
  rintro _ _ t rfl;refine go ?_
  have R:okAt k c=false->CH s=false:=fun h=>by
   have b:shapeB s=false:=by
    cases hsb:shapeB s with
    |false=>rfl
    |true=>rw[(shapeB_iff s U).1 hsb k c a]at h;cases h
   rw[C7,b];simp
  have N:okAt k c=(BM c||(decide (0<k)&&(A6 c||decide (c.toNat=95)))):=rfl;cases hsm:BM c with
  |true=>
   refine go ?_;refine⟨k+1,⟨rfl,⟨rfl,?_,trivial⟩,⟨by omega,H (by rw[N,hsm];rfl),rfl⟩⟩,by omega⟩;show iV ((k:Int)+1)=_;rw[Int.natCast_add];rfl
  |false=>
   by_cases x:k=0
   ·have S:=R (by rw[N,hsm,decide_eq_false (show¬0<k by omega)];rfl);refine go ?_;exact AB rfl ⟨by rw[S];rfl,f⟩
   ·cases hrs:(A6 c||decide (c.toNat=95))with
    |true=>
     refine go ?_;refine⟨k+1,⟨rfl,⟨rfl,?_,trivial⟩,⟨by omega,H (by rw[N,hsm,hrs,decide_eq_true (show 0<k by omega)];rfl),rfl⟩⟩,by omega⟩;show iV ((k:Int)+1)=_;rw[Int.natCast_add];rfl
    |false=>
     have S:=R (by rw[N,hsm,hrs];simp);refine go ?_;exact AB rfl ⟨by rw[S];rfl,f⟩
 ·obtain rfl:k=s.length:=by omega
  have b:shapeB s=true:=(shapeB_iff s U).2 fun i c V=>g i c (List.getElem?_eq_some_iff.1 V).1 V;refine go ?_;exact AB rfl ⟨by rw[C7,b,decide_eq_false P,decide_eq_true (show 1<=s.length by omega),decide_eq_true (show s.length<=12 by omega)];rfl,f⟩
theorem find_hit{l:List Sgn}{s:LU}{k:Nat}{x:Sgn}(T:l[k]?=some x)(G:x.name=s)(z:∀j y,j<k->l[j]?=some y->y.name≠s):Di l s=(k:Int):=by
 have:l.findIdx? (fun x=>decide (x.name=s))=some k:=by
  rw[List.findIdx?_eq_some_iff_getElem];obtain⟨X,W⟩:=List.getElem?_eq_some_iff.1 T;refine⟨X,by simp[W,G],fun j h=>?_⟩;have:=z j l[j] h (List.getElem?_eq_getElem U);simpa using this
 unfold Di;rw[this]
theorem find_miss{l:List Sgn}{s:LU}(z:∀j y,j<l.length->l[j]?=some y->y.name≠s):Di l s= -1:=by
 have:l.findIdx? (fun x=>decide (x.name=s))=none:=by
  rw[List.findIdx?_eq_none_iff];intro x T;obtain⟨i,H⟩:=List.getElem?_of_mem T;simpa using z i x (List.getElem?_eq_some_iff.1 H).1 H
 unfold Di;rw[this]
theorem find_at{l:List Sgn}{s:LU}{k:Nat}(h:Di l s=(k:Int)):∀j y,j<k->l[j]?=some y->y.name≠s:=by
 unfold Di at h;cases hf:l.findIdx? (fun x=>decide (x.name=s))with
 |none=>rw[hf]at h;simp at h
 |some i=>
  rw[hf]at h;simp only at h;obtain rfl:i=k:=by omega
  rw[List.findIdx?_eq_some_iff_getElem]at hf;obtain⟨X,W,Q⟩:=hf;intro j y z F;have:=Q j z;rw[(List.getElem?_eq_some_iff.1 F).2]at this;simpa using this
theorem rfind_ok(w:World)(v:Value)(l:List Sgn)(s:LU)(h:SlAt sgnR AV w v l):Fn Zp 67 [v,AK s] w fun v w'=>v=iV (Di l s)/\w'=w:=by
 have m:=h;obtain⟨a,c,rfl,X⟩:=h.len;refine AG Tryz.func67 rfl Tryz.ntmps67 (go ?_);refine Ah (α:=Nat) (fun k=>[(0,.slice a l.length c),(1,AK s),(5,iV (k:Int))]) (fun k W=>k<=l.length/\W=w/\∀j y,j<k->l[j]?=some y->y.name≠s) (fun k=>l.length-k) 0 ⟨rfl,rfl,rfl,trivial⟩ ⟨by omega,rfl,fun j y f=>absurd f U⟩ ?_;rintro k n p⟨P,rfl,f⟩;repeat refine nx rfl ?_
 by_cases B:k<l.length
 ·obtain⟨y,F⟩:∃y,l[k]?=some y:=⟨_,List.getElem?_eq_getElem B⟩;obtain⟨_,b,o,rfl,_,e⟩:=m.sig F;have d:n.cell? ⟨b,o+k*3+0,none⟩=some (AK y.name):=e 0 _ rfl;(refine AJ (AY rfl (Av rfl (Bt rfl ?_)))<;>(refine Dh rfl rfl (fun V=>?_) (fun V=>?_)<;>try omega))
  repeat refine nx rfl ?_
  by_cases g:y.name=s
  ·(refine AJ (Av rfl (AY rfl (Cd rfl rfl rfl U (AD rfl (AL rfl Dz ?_)))))<;>refine Cb rfl ?_<;>refine Bn rfl rfl (fun V=>?_) (fun V=>?_)<;>refine AA ?_)
   case refine_2=>exact absurd g Dz
   repeat refine nx rfl ?_
   refine AJ (AY rfl (AO (AY rfl ?_)));repeat refine nx rfl ?_
   exact AB rfl ⟨by rw[find_hit F g f];rfl,rfl⟩
  ·(refine AJ (Av rfl (AY rfl (Cd rfl rfl rfl U (AD rfl (AL rfl Dz ?_)))))<;>refine Cb rfl ?_<;>refine Bn rfl rfl (fun V=>?_) (fun V=>?_)<;>refine AA ?_)
   case refine_1=>exact absurd Dz g
   refine go ?_;refine⟨k+1,⟨rfl,⟨rfl,rfl,?_,trivial⟩,⟨by omega,rfl,fun j z q i=>?_⟩⟩,by omega⟩
   ·show iV ((k:Int)+1)=_;rw[Int.natCast_add];rfl
   ·rcases Nat.lt_or_ge j k with h|h
    ·exact f j z h i
    ·obtain rfl:j=k:=by omega
     rw[F]at i;cases i;exact g
 ·obtain rfl:k=l.length:=by omega
  refine go ?_;exact AB rfl ⟨by rw[find_miss f];rfl,rfl⟩
theorem rsvalid_ok(w:World)(v:Value)(l:List Sgn)(h:SlAt sgnR AV w v l):Fn Zp 25 [v] w fun u w'=>u=.bool (A5 l)/\Ext w w':=by
 have s:=h;obtain⟨a,c,rfl,a2⟩:=h.len;refine AG Tryz.func25 rfl Tryz.ntmps25 (go ?_);by_cases E:1<=l.length/\l.length<=6
 case neg=>
  have q:A5 l=false:=by
   simp only[A5];rw[show(decide (1<=l.length)&&decide (l.length<=6))=false by rw[<-Bool.not_eq_true,Bool.and_eq_true,decide_eq_true_eq,decide_eq_true_eq];exact E];rfl
  rw[q];by_cases h1:1<=l.length
  ·exact E8
  ·exact E8
 obtain⟨a0,a1⟩:=E;refine go ?_;refine Ah (α:=Nat) (fun k=>[(0,.slice a l.length c),(3,iV (BE (l.take k))),(4,iV (k:Int))]) (fun k W=>k<=l.length/\Ext w W/\∀i,i<k->okI l i=true) (fun k=>l.length-k) 0 ⟨rfl,rfl,rfl,trivial⟩ ⟨by omega,Ext.refl _,fun i H=>absurd H U⟩ ?_;rintro k R f1⟨hk,g,n⟩;refine go ?_
 have D:=prodS_six (l:=l.take k) (fun i H=>by
  rw[List.length_take]at H;have I:i<k:=by omega
  obtain⟨y,F⟩:∃y,l[i]?=some y:=⟨_,List.getElem?_eq_getElem U⟩;have C:(l.take k)[i]?=some y:=by rw[List.getElem?_take,if_pos I];exact F
  have:=(DK F).1 (n i I);refine(DK C).2 ⟨this.1,this.2.1,this.2.2.1,fun j z X G=>?_⟩;rw[List.getElem?_take,if_pos U]at G;exact this.2.2.2 j z X G) (Nat.le_refl _) EU
 rw[List.take_length]at D;by_cases B:k<l.length
 ·refine go ?_;obtain⟨x,T⟩:∃x,l[k]?=some x:=⟨_,List.getElem?_eq_getElem B⟩;obtain⟨_,b,o,rfl,_,t⟩:=s.sig T;have r:∀W,Ext w W->W.cell? ⟨b,o+k*3+0,none⟩=some (AK x.name):=fun W e=>e.cell (t 0 _ rfl) O;have N:∀W,Ext w W->W.cell? ⟨b,o+k*3+2,none⟩=some (iV x.size):=fun W e=>e.cell (t 2 _ rfl) O;have d0:=r R g;have f:okI l k=true↔_:=DK T;have Z:=prodS_take T;have d:okI l k=false->A5 l=false:=valid_false B;refine go ?_;refine AE (refName_ok x.name R) rfl ?_;rintro _ L⟨rfl,k2⟩;have A:=g.trans k2;have c0:=r L A;have c2:=N L A;cases hnm:CH x.name with
  |false=>
   have S:=d (by rw[<-Bool.not_eq_true,f];simp[hnm]);exact F0
  |true=>
  refine go ?_;refine AE (rfind_ok L _ l x.name (s.ext A)) rfl ?_;rintro _ L⟨rfl,rfl⟩;by_cases K:Di l x.name=(k:Int)
  case neg=>
   have S:=d (by
    rw[<-Bool.not_eq_true,f];intro V;exact K (find_hit T rfl V.2.2.2))
   exact F0
  rw[K];have Q:=find_at K;by_cases p:2<=x.size
  case neg=>
   have S:=d (by rw[<-Bool.not_eq_true,f];simp[p]);exact F0
  by_cases m:x.size<=4
  case neg=>
   have S:=d (by rw[<-Bool.not_eq_true,f];simp[m]);exact F0
  have a3:0<=BE (l.take k)*x.size/\BE (l.take k)*x.size<=4096*4:=⟨Int.mul_nonneg U U,Int.mul_le_mul D.2 m U U⟩;refine go ?_;refine⟨k+1,⟨rfl,⟨rfl,?_,?_,trivial⟩,⟨by omega,A,fun i H=>?_⟩⟩,by omega⟩
  ·exact congrArg (Value.int .i64) Z.symm
  ·show iV ((k:Int)+1)=_;rw[Int.natCast_add];rfl
  ·by_cases I:i=k
   ·subst I;exact f.2 ⟨hnm,p,m,Q⟩
   ·exact n i U
 ·obtain rfl:k=l.length:=by omega
  rw[List.take_length]at D⊢;have M:(List.range l.length).all (okI l)=true:=by rw[List.all_eq_true];intro i H;exact n i (List.mem_range.1 H)
  have q:A5 l=decide (BE l<=64):=by simp only[A5,M];simp;omega
  rw[q];refine go ?_;by_cases P:BE l<=64
  ·refine go ?_;exact AB rfl ⟨congrArg Value.bool (by simp[P]),g⟩
  ·refine go ?_;exact AB rfl ⟨congrArg Value.bool (by simp[P]),g⟩
def Ch(b:Bool):List Sgn->Int
 | []=>1
 |x::l=>if x.input=b then Ch b l*x.size else Ch b l
theorem sideS_snoc(b:Bool):∀(l:List Sgn)(x:Sgn),Ch b (l++[x])=if x.input=b then Ch b l*x.size else Ch b l
 | [],x=>by simp[Ch]
 |y::l,x=>by
  rw[List.cons_append,Ch,sideS_snoc b l x,Ch];by_cases X:y.input=b<;>by_cases W:x.input=b<;>simp[X,W,Int.mul_right_comm]
theorem sideS_take{b:Bool}{l:List Sgn}{k:Nat}{x:Sgn}(h:l[k]?=some x):Ch b (l.take (k+1))=if x.input=b then Ch b (l.take k)*x.size else Ch b (l.take k):=by
 rw[List.take_add_one,h,<-sideS_snoc];rfl
theorem side_prod:∀l:List Sgn,Ch true l*Ch false l=BE l
 | []=>rfl
 |x::l=>by
  rw[BE,<-side_prod l,Ch,Ch];cases x.input<;>simp[Int.mul_assoc,Int.mul_left_comm,Int.mul_comm]
theorem side_le(b:Bool):∀(l:List Sgn),(∀x∈l,2<=x.size/\x.size<=4)->1<=Ch b l/\Ch b l<=BE l
 | [],_=>by simp[Ch,BE]
 |x::l,h=>by
  obtain⟨X,W⟩:=side_le b l fun y F=>h y (by simp[F]);obtain⟨Q,z⟩:=h x O;have S:BE l<=BE l*x.size:=by have:=Int.mul_le_mul_of_nonneg_left (show(1:Int)<=x.size by omega) (show 0<=BE l by omega);omega
  rw[Ch,BE]
  split
  ·have V:=Int.mul_le_mul X (show(1:Int)<=x.size by omega) U U;exact⟨by omega,Int.mul_le_mul_of_nonneg_right W U⟩
  ·omega
theorem side_ok(w:World)(v:Value)(l:List Sgn)(b:Bool)(h:SlAt sgnR AV w v l):Fn Zp 71 [v,.bool b] w fun u w'=>u=iV (if A5 l then Ch b l else 0)/\Ext w w':=by
 have s:=h;obtain⟨a,c,rfl,X⟩:=h.len;refine AG Tryz.func71 rfl Tryz.ntmps71 (go ?_);refine AE (rsvalid_ok w _ l s) rfl ?_;rintro _ R⟨rfl,f⟩;cases hv:A5 l with
 |false=>
  exact FA
 |true=>
 obtain⟨z,j,d,q⟩:=DP hv;refine go ?_;refine Ah (α:=Nat) (fun k=>[(0,.slice a l.length c),(1,.bool b),(5,iV (Ch b (l.take k))),(6,iV (k:Int))]) (fun k W=>k<=l.length/\W=R) (fun k=>l.length-k) 0 ⟨rfl,rfl,rfl,rfl,trivial⟩ ⟨by omega,rfl⟩ ?_;rintro k W Z⟨P,rfl⟩;refine go ?_;by_cases B:k<l.length
 ·obtain⟨x,T⟩:∃x,l[k]?=some x:=⟨_,List.getElem?_eq_getElem B⟩;obtain⟨_,n,o,rfl,_,g⟩:=(s.ext f).sig T;have p:W.cell? ⟨n,o+k*3+1,none⟩=some (.bool x.input):=g 1 _ rfl;have D:W.cell? ⟨n,o+k*3+2,none⟩=some (iV x.size):=g 2 _ rfl
  have r:=side_le b (l.take k) fun y F=>by
   obtain⟨i,H⟩:=List.getElem?_of_mem (List.mem_of_mem_take F);have:=(DK H).1 (d i (List.getElem?_eq_some_iff.1 H).1);exact⟨this.2.1,this.2.2.1⟩
  have C:=(prodS_six d P j).2;have m:=(DK T).1 (d k B);have A:0<=Ch b (l.take k)*x.size/\Ch b (l.take k)*x.size<=4096*4:=⟨Int.mul_nonneg U U,Int.mul_le_mul U m.2.2.1 U U⟩;have t:=sideS_take (b:=b) T;refine go ?_;by_cases S:x.input=b
  ·rw[if_pos S]at t;have e:(x.input==b)=true:=by simp[S]
   rw[e];refine go ?_;refine⟨k+1,⟨rfl,⟨rfl,rfl,congrArg (Value.int .i64) t.symm,EJ,trivial⟩,⟨by omega,rfl⟩⟩,by omega⟩
  ·rw[if_neg S]at t;have e:(x.input==b)=false:=by simp[S]
   rw[e];refine go ?_;refine⟨k+1,⟨rfl,⟨rfl,rfl,congrArg (Value.int .i64) t.symm,EJ,trivial⟩,⟨by omega,rfl⟩⟩,by omega⟩
 ·obtain rfl:k=l.length:=by omega
  rw[List.take_length];exact FA
theorem rinputs_ok(w:World)(v:Value)(l:List Sgn)(h:SlAt sgnR AV w v l):Fn Zp 29 [v] w fun u w'=>u=iV (if A5 l then Ch true l else 0)/\Ext w w':=by
 have s:=h;obtain⟨a,c,rfl,X⟩:=h.len;refine AG Tryz.func29 rfl Tryz.ntmps29 (go ?_);refine AE (side_ok w _ l true s) rfl ?_;rintro _ R⟨rfl,f⟩;exact FA
theorem routputs_ok(w:World)(v:Value)(l:List Sgn)(h:SlAt sgnR AV w v l):Fn Zp 30 [v] w fun u w'=>u=iV (if A5 l then Ch false l else 0)/\Ext w w':=by
 have s:=h;obtain⟨a,c,rfl,X⟩:=h.len;refine AG Tryz.func30 rfl Tryz.ntmps30 (go ?_);refine AE (side_ok w _ l false s) rfl ?_;rintro _ R⟨rfl,f⟩;exact FA
theorem rletters_ok(w:World)(v:Value)(l:List Sgn)(h:SlAt sgnR AV w v l)(q:A5 l=true):Fn Zp 10 [v] w fun u w'=>u=iV (CQ l)/\Ext w w':=by
 have s:=h;obtain⟨a,c,rfl,X⟩:=h.len;obtain⟨P,M⟩:=num_valid q;obtain⟨n,t,g,k⟩:=DP q
 have Z:=fun b=>side_le b l fun y F=>by
  obtain⟨i,H⟩:=List.getElem?_of_mem F;have:=(DK H).1 (g i (List.getElem?_eq_some_iff.1 H).1);exact⟨this.2.1,this.2.2.1⟩
 have m:=Z true;have d:=Z false;have e:=side_prod l;rw[P,<-e];have x:0<=Ch true l*Ch false l/\Ch true l*Ch false l<=64:=by rw[e];omega
 refine AG Tryz.func10 rfl Tryz.ntmps10 (go ?_);refine AE (rinputs_ok w _ l s) rfl ?_;rintro _ R⟨rfl,f⟩;refine go ?_;refine AE (routputs_ok R _ l (s.ext f)) rfl ?_;rintro _ L⟨rfl,j⟩;rw[if_pos q,if_pos q];refine go ?_;exact AB rfl ⟨rfl,f.trans j⟩
mutual
def Df(P:Fml->Prop):Fml->Prop
 | .mk op nm v b args=>P (.mk op nm v b args)/\allL P args
def allL(P:Fml->Prop):LF->Prop
 | []=>True
 |a::l=>Df P a/\allL P l
end
theorem allL_iff{P:Fml->Prop}:∀{l:LF},allL P l↔∀a∈l,Df P a
 | []=>by simp[allL]
 |a::l=>by simp[allL,allL_iff (l:=l)]
theorem allF_iff{P:Fml->Prop}{f:Fml}:Df P f↔P f/\∀a∈f.args,Df P a:=by
 obtain⟨N,p,v,b,args⟩:=f;rw[Df,allL_iff];rfl
def cntQ(N e H:Int)(ok:Bool):Prop:=ok=true->1<=N/\N<=19/\∀n:Nat,e<=n->(0<=H->(n:Int)<=H)->Aq N n=true
theorem count_ok3(w:World)(N:Int):Fn Zp 199 [iV N] w fun u w'=>∃(e H:Int)(ok:Bool),u=.tuple #[iV e,iV H,.bool ok]/\w'=w/\cntQ N e H ok:=by
 refine AG Tryz.func199 rfl Tryz.ntmps199 ?_;repeat refine nx rfl ?_
 refine AJ (AO (AY rfl (AO (AY rfl (AO (AI rfl ?_))))));repeat refine nx rfl ?_
 refine AJ (AY rfl ?_);repeat refine nx rfl ?_
 (refine AJ ?_<;>(refine Bm rfl rfl (fun V=>?_) (fun V=>?_)<;>try omega)<;>refine AO (AI rfl ?_))
 ·repeat refine nx rfl ?_
  refine AJ (AO (AY rfl (AO (AY rfl (AO (AI rfl ?_))))));repeat refine nx rfl ?_
  exact FO
 repeat first|refine nx rfl ?_|refine nf rfl ?_
 (refine AJ ?_<;>(refine Bm rfl rfl (fun V=>?_) (fun V=>?_)<;>try omega)<;>refine AO (AI rfl ?_))
 ·refine go ?_;exact FO
 repeat first|refine nx rfl ?_|refine nf rfl ?_
 (refine AJ ?_<;>(refine Bm rfl rfl (fun V=>?_) (fun V=>?_)<;>try omega)<;>refine AO (AI rfl ?_))
 ·repeat refine nx rfl ?_
  refine AJ (AO (AY rfl (AO (AY rfl (AO (AI rfl ?_))))));repeat refine nx rfl ?_
  exact FO
 repeat first|refine nx rfl ?_|refine nf rfl ?_
 (refine AJ ?_<;>(refine Bm rfl rfl (fun V=>?_) (fun V=>?_)<;>try omega)<;>refine AO (AI rfl ?_))
 ·refine go ?_;exact Eg
 repeat first|refine nx rfl ?_|refine nf rfl ?_
 (refine AJ ?_<;>(refine Bm rfl rfl (fun V=>?_) (fun V=>?_)<;>try omega)<;>refine AO (AI rfl ?_))
 ·repeat refine nx rfl ?_
  refine AJ (AO (AY rfl (AO (AY rfl (AO (AI rfl ?_))))));repeat refine nx rfl ?_
  exact Eg
 repeat first|refine nx rfl ?_|refine nf rfl ?_
 (refine AJ ?_<;>(refine Bm rfl rfl (fun V=>?_) (fun V=>?_)<;>try omega)<;>refine AO (AI rfl ?_))
 ·refine go ?_;exact Eg
 repeat first|refine nx rfl ?_|refine nf rfl ?_
 (refine AJ ?_<;>(refine Bm rfl rfl (fun V=>?_) (fun V=>?_)<;>try omega)<;>refine AO (AI rfl ?_))
 ·repeat refine nx rfl ?_
  refine AJ (AO (AY rfl (AO (AY rfl (AO (AI rfl ?_))))));repeat refine nx rfl ?_
  exact Eg
 repeat first|refine nx rfl ?_|refine nf rfl ?_
 (refine AJ ?_<;>(refine Bm rfl rfl (fun V=>?_) (fun V=>?_)<;>try omega)<;>refine AO (AI rfl ?_))
 ·refine go ?_;exact Eg
 repeat first|refine nx rfl ?_|refine nf rfl ?_
 (refine AJ ?_<;>(refine Bm rfl rfl (fun V=>?_) (fun V=>?_)<;>try omega)<;>refine AO (AI rfl ?_))
 ·repeat refine nx rfl ?_
  refine AJ (AO (AY rfl (AO (AY rfl (AO (AI rfl ?_))))));repeat refine nx rfl ?_
  exact Eg
 repeat first|refine nx rfl ?_|refine nf rfl ?_
 (refine AJ ?_<;>(refine Bm rfl rfl (fun V=>?_) (fun V=>?_)<;>try omega)<;>refine AO (AI rfl ?_))
 ·refine go ?_;exact Eg
 repeat first|refine nx rfl ?_|refine nf rfl ?_
 (refine AJ ?_<;>(refine Bm rfl rfl (fun V=>?_) (fun V=>?_)<;>try omega)<;>refine AO (AI rfl ?_))
 ·repeat refine nx rfl ?_
  refine AJ (AO (AY rfl (AO (AY rfl (AO (AI rfl ?_))))));repeat refine nx rfl ?_
  exact Eg
 repeat first|refine nx rfl ?_|refine nf rfl ?_
 (refine AJ ?_<;>(refine Bm rfl rfl (fun V=>?_) (fun V=>?_)<;>try omega)<;>refine AO (AI rfl ?_))
 ·refine go ?_;exact Eg
 repeat first|refine nx rfl ?_|refine nf rfl ?_
 (refine AJ ?_<;>(refine Bm rfl rfl (fun V=>?_) (fun V=>?_)<;>try omega)<;>refine AO (AI rfl ?_))
 ·repeat refine nx rfl ?_
  refine AJ (AO (AY rfl (AO (AY rfl (AO (AI rfl ?_))))));repeat refine nx rfl ?_
  exact Eu
 repeat first|refine nx rfl ?_|refine nf rfl ?_
 (refine AJ ?_<;>(refine Bm rfl rfl (fun V=>?_) (fun V=>?_)<;>try omega)<;>refine AO (AI rfl ?_))
 ·refine go ?_;exact Eu
 repeat first|refine nx rfl ?_|refine nf rfl ?_
 (refine AJ ?_<;>(refine Bm rfl rfl (fun V=>?_) (fun V=>?_)<;>try omega)<;>refine AO (AI rfl ?_))
 ·repeat refine nx rfl ?_
  refine AJ (AO (AY rfl (AO (AY rfl (AO (AI rfl ?_))))));repeat refine nx rfl ?_
  exact Eu
 repeat first|refine nx rfl ?_|refine nf rfl ?_
 (refine AJ ?_<;>(refine Bm rfl rfl (fun V=>?_) (fun V=>?_)<;>try omega)<;>refine AO (AI rfl ?_))
 ·refine go ?_;exact Eu
 repeat first|refine nx rfl ?_|refine nf rfl ?_
 (refine AJ ?_<;>(refine Bm rfl rfl (fun V=>?_) (fun V=>?_)<;>try omega)<;>refine AO (AI rfl ?_))
 ·repeat refine nx rfl ?_
  refine AJ (AO (AY rfl (AO (AY rfl (AO (AI rfl ?_))))));repeat refine nx rfl ?_
  exact Eu
 repeat first|refine nx rfl ?_|refine nf rfl ?_
 (refine AJ ?_<;>(refine Bm rfl rfl (fun V=>?_) (fun V=>?_)<;>try omega)<;>refine AO (AI rfl ?_))
 ·refine go ?_;exact GG
 repeat first|refine nx rfl ?_|refine nf rfl ?_
 (refine AJ ?_<;>(refine Bm rfl rfl (fun V=>?_) (fun V=>?_)<;>try omega)<;>refine AO (AI rfl ?_))
 ·repeat refine nx rfl ?_
  refine AJ (AO (AY rfl (AO (AY rfl (AO (AI rfl ?_))))));repeat refine nx rfl ?_
  exact GG
 repeat first|refine nx rfl ?_|refine nf rfl ?_
 refine AJ (AO (AY rfl (AO (AY rfl (AO (AI rfl ?_))))));repeat refine nx rfl ?_
 exact BZ rfl ⟨0,0,false,rfl,rfl,fun h=>by cases h⟩
theorem keys3_ok(w:World):Fn Zp 254 [] w fun v w'=>Sl AV w' v keysL.length (keysL.map AK)/\Ext w w':=by
 refine AG Tryz.func254 rfl Tryz.ntmps254 (go ?_);exact FY
theorem name3_ok(s:LU)(w:World):Fn Zp 200 [AK s] w fun v w'=>∃b:Bool,v=.bool b/\Ext w w'/\(b=true->CH s=true):=by
 refine AG Tryz.func200 rfl Tryz.ntmps200 (go ?_);by_cases h1:s.length<1
 ·exact Es
 by_cases a0:12<s.length
 ·exact Es
 obtain⟨m,P⟩:∃c,s[0]?=some c:=⟨_,List.getElem?_eq_getElem U⟩;have M:=m.toNat_lt;by_cases ha:m.toNat<97
 ·exact Es
 by_cases hb:122<m.toNat
 ·exact Es
 refine go ?_;refine Ah (α:=Nat) (fun k=>[(0,AK s),(3,iV (k:Int))]) (fun k W=>k<=s.length/\(∀(i:Nat)(c:UInt8),i<k->s[i]?=some c->(BM c||(A6 c||decide (c.toNat=95)))=true)/\W=w) (fun k=>s.length-k) 0 ⟨rfl,rfl,trivial⟩ ⟨by omega,fun i c H=>absurd H U,rfl⟩ ?_;rintro k D Z⟨u,g,rfl⟩;refine go ?_;by_cases B:k<s.length
 ·have a:s[k]?=some s[k]:=List.getElem?_eq_getElem B;generalize s[k]=c at a;have K:=c.toNat_lt;refine go ?_;by_cases q:97<=c.toNat/\c.toNat<=122
  ·refine go ?_;refine⟨k+1,⟨rfl,⟨rfl,EJ,trivial⟩,⟨by omega,fun i d H C=>?_,rfl⟩⟩,by omega⟩;by_cases I:i=k
   ·subst I;rw[a]at C;cases C;simp[BM,A6];omega
   ·exact g i d U C
  by_cases S:48<=c.toNat/\c.toNat<=57
  ·refine go ?_;refine⟨k+1,⟨rfl,⟨rfl,EJ,trivial⟩,⟨by omega,fun i d H C=>?_,rfl⟩⟩,by omega⟩;by_cases I:i=k
   ·subst I;rw[a]at C;cases C;simp[BM,A6];omega
   ·exact g i d U C
  by_cases n:c.toNat=95
  ·refine go ?_;refine⟨k+1,⟨rfl,⟨rfl,EJ,trivial⟩,⟨by omega,fun i d H C=>?_,rfl⟩⟩,by omega⟩;by_cases I:i=k
   ·subst I;rw[a]at C;cases C;simp[BM,A6];omega
   ·exact g i d U C
  by_cases T:c.toNat<48
  ·exact Es
  by_cases Q:122<c.toNat
  ·exact Es
  by_cases X:c.toNat<97
  ·exact Es
  ·exact absurd ⟨by omega,by omega⟩ q
 ·obtain rfl:k=s.length:=by omega
  refine go ?_
  have x:shapeB s=true:=(shapeB_iff s U).2 fun i c V=>by
   by_cases L:i=0
   ·subst L;rw[P]at V;cases V;simp[okAt,BM];omega
   ·have:=g i c (List.getElem?_eq_some_iff.1 V).1 V;simp only[okAt,decide_eq_true (show 0<i by omega),Bool.true_and];exact this
  refine go ?_;refine AE (keys3_ok D) rfl ?_;rintro v R⟨j,f⟩;obtain⟨l,A,rfl,a1,a2,_,r⟩:=id j;refine go ?_;refine Ah (α:=Nat) (fun k=>[(0,AK s),(4,.slice l keysL.length A),(5,iV (k:Int))]) (fun k W=>k<=keysL.length/\s∉keysL.take k/\W=R) (fun k=>keysL.length-k) 0 ⟨rfl,rfl,rfl,trivial⟩ ⟨by omega,by simp,rfl⟩ ?_;rintro k E N⟨u,G,rfl⟩;repeat refine nx rfl ?_
  have a3:keysL.length<=1000:=by decide
  by_cases B:k<keysL.length
  ·obtain⟨b,o,rfl,_,t⟩:=r.resolve_left U;obtain⟨y,F⟩:∃y,keysL[k]?=some y:=⟨_,List.getElem?_eq_getElem B⟩;have a4:E.cell? ⟨b,o+k,none⟩=some (AK y):=t k _ (by simp[F]);have z:keysL.take (k+1)=keysL.take k++[y]:=by rw[List.take_add_one,F];rfl
   generalize keysL.length=nn at*
   (refine AJ (AY rfl (Av rfl (Bt rfl ?_)))<;>(refine Dh rfl rfl (fun V=>?_) (fun V=>?_)<;>try omega))
   repeat refine nx rfl ?_
   by_cases p:y=s
   ·(refine AJ (Av rfl (AY rfl (W_idx1 rfl rfl rfl U (AL rfl Dz ?_))))<;>refine Cb rfl ?_<;>refine Bn rfl rfl (fun V=>?_) (fun V=>?_)<;>refine AA ?_)
    case refine_2=>exact absurd p Dz
    repeat refine nx rfl ?_
    refine AJ (AO (AI rfl ?_));repeat refine nx rfl ?_
    exact AB rfl ⟨false,rfl,f,fun h=>by cases h⟩
   ·(refine AJ (Av rfl (AY rfl (W_idx1 rfl rfl rfl U (AL rfl Dz ?_))))<;>refine Cb rfl ?_<;>refine Bn rfl rfl (fun V=>?_) (fun V=>?_)<;>refine AA ?_)
    case refine_1=>exact absurd Dz p
    refine go ?_;refine⟨k+1,⟨rfl,⟨rfl,rfl,?_,trivial⟩,⟨by omega,by rw[z];simp[G];exact fun e=>p e.symm,rfl⟩⟩,by omega⟩;show iV ((k:Int)+1)=_;rw[Int.natCast_add];rfl
  ·have e:k=keysL.length:=by omega
   rw[e,List.take_length]at G;generalize keysL.length=nn at*
   refine go ?_;exact AB rfl ⟨true,rfl,f,fun _=>by rw[C7,x,decide_eq_false G,decide_eq_true (show 1<=s.length by omega),decide_eq_true (show s.length<=12 by omega)];rfl⟩
def shQ(f:Fml):Prop:=BX f.op f.name f.val f.bound f.args.length=true
theorem node_ok3(w:World)(v:Value)(f:Fml)(hf:FAt AV w v f):Fn Zp 168 [v] w fun u w'=>∃b:Bool,u=.bool b/\Ext w w'/\(b=true->shQ f):=by
 obtain⟨av,rfl,L,j,q⟩:=hf.form;obtain⟨a,c,rfl,B⟩:=id j;have a2:f.args.length<=9223372036854775807:=by obtain⟨h1,h2,_⟩:=B;omega
 obtain⟨N,p,T,m,i⟩:=f;simp only[Fml.op,Fml.name,Fml.val,Fml.bound,Fml.args,shQ]at*
 refine AG Tryz.func168 rfl Tryz.ntmps168 (go ?_);refine Ai (L:=fcC (.mk N p T m i) (.slice a i.length c)) rfl (fun R E=>?_);have s:=E.D;have k:=E.E;have c0:R.cell? ⟨w.heap.size,0+0,none⟩=some (iV N):=s.cell rfl;have c1:R.cell? ⟨w.heap.size,0+1,none⟩=some (AK p):=s.cell rfl;have D:R.cell? ⟨w.heap.size,0+2,none⟩=some (iV T):=s.cell rfl;have S:R.cell? ⟨w.heap.size,0+3,none⟩=some (iV m):=s.cell rfl;have c4:R.cell? ⟨w.heap.size,0+4,none⟩=some (.slice a i.length c):=s.cell rfl;refine go ?_;refine AE (count_ok3 R N) rfl ?_;rintro _ R⟨lo,y,ok,rfl,rfl,hq⟩;refine M_tuple rfl (Du rfl rfl (Du rfl rfl (Du rfl rfl (AO (AY rfl (AO (AY rfl (AO (AI rfl ?_)))))))));repeat refine nx rfl ?_
 clear s j q E B;cases ok with
 |false=>
  refine AJ (AI rfl (W_not rfl (AI rfl (Ak rfl (Ak rfl (Ak rfl (Ak rfl (Ak rfl (Am rfl (AI rfl (AI rfl (Ak rfl (Ak rfl (Ak rfl (Ak rfl (Ak rfl (Ak rfl (Ak rfl (Ak rfl (Ak rfl (Am rfl (AI rfl ?_))))))))))))))))))))));repeat refine nx rfl ?_
  refine AJ (AO (AI rfl ?_));repeat refine nx rfl ?_
  exact Eo
 |true=>
 obtain⟨z,K,X⟩:=hq rfl;by_cases a4:(i.length:Int)<lo
 ·(refine AJ (AI rfl (W_not rfl (AI rfl (AN rfl (AD rfl (AN rfl (AL rfl Dz ?_)))))))<;>refine AN rfl (Bt rfl (AN rfl (AY rfl ?_)))<;>(refine AN rfl ?_;(refine Dh rfl rfl (fun V=>?_) (fun V=>?_)<;>try omega))<;>refine Al rfl (AI rfl (AI rfl (Ak rfl (Ak rfl (Ak rfl (Ak rfl (Ak rfl (Ak rfl (Ak rfl (Ak rfl (Ak rfl (Am rfl (AI rfl ?_))))))))))))))
  repeat refine nx rfl ?_
  refine AJ (AO (AI rfl ?_));repeat refine nx rfl ?_
  exact Eo
 by_cases a3:0<=y/\y<i.length
 ·(refine AJ (AI rfl (W_not rfl (AI rfl (AN rfl (AD rfl (AN rfl (AL rfl Dz ?_)))))))<;>refine AN rfl (Bt rfl (AN rfl (AY rfl ?_)))<;>(refine AN rfl ?_;(refine Dh rfl rfl (fun V=>?_) (fun V=>?_)<;>try omega))<;>refine Al rfl (AI rfl (AI rfl (AN rfl (AY rfl ?_))))<;>(refine AN rfl ?_;(refine W_geq rfl rfl (fun V=>?_) (fun V=>?_)<;>try omega))<;>refine AN rfl (AI rfl (AN rfl (AD rfl (AN rfl (AL rfl Dz ?_)))))<;>refine AN rfl (Bt rfl (AN rfl (AY rfl ?_)))<;>(refine AN rfl ?_;(refine W_gtr rfl rfl (fun V=>?_) (fun V=>?_)<;>try omega))<;>refine AN rfl (Am rfl (AI rfl (Al rfl (AI rfl ?_)))))
  repeat refine nx rfl ?_
  refine AJ (AO (AI rfl ?_));repeat refine nx rfl ?_
  exact Eo
 have I:=X i.length U (fun h=>by omega);refine DF (α:=Unit) (fun _=>[(1,pt w.heap.size),(34,.bool false)]) (fun _ W=>R=W) ?_ ?_
 ·by_cases hh:0<=y
  ·refine go ?_;exact Ao () ⟨rfl,rfl,trivial⟩ rfl
  ·refine go ?_;exact Ao () ⟨rfl,rfl,trivial⟩ rfl
 rintro _ _ f3 rfl;repeat first|refine nx rfl ?_|refine nf rfl ?_
 by_cases Q:N=3
 ·subst Q;(refine AJ (AD rfl (AL rfl Dz ?_))<;>(refine Bm rfl rfl (fun V=>?_) (fun V=>?_)<;>try omega))
  repeat refine nx rfl ?_
  refine AJ (AD rfl (AL rfl Dz ?_));refine AE (name3_ok p R) rfl ?_;rintro _ w2⟨b,rfl,l,Z⟩;have A:=k.trans l;replace D:=l.cell D O;replace S:=l.cell S O;cases b with
  |false=>
   refine AI rfl (Ak rfl (Ak rfl (Ak rfl (Al rfl (AI rfl (AI rfl (Ak rfl (Ak rfl (Ak rfl (Al rfl (AI rfl (AI rfl (Ak rfl (Ak rfl (Ak rfl (Al rfl (AI rfl (AO (AI rfl ?_)))))))))))))))))));repeat refine nx rfl ?_
   exact E7
  |true=>
  by_cases F:0<=T
  case neg=>
   (refine AI rfl (AN rfl (AD rfl (AN rfl (AL rfl Dz ?_))))<;>(refine AN rfl ?_;(refine W_geq rfl rfl (fun V=>?_) (fun V=>?_)<;>try omega))<;>refine Am rfl (AI rfl (AI rfl (Ak rfl (Ak rfl (Ak rfl (Al rfl (AI rfl (AI rfl (Ak rfl (Ak rfl (Ak rfl (Al rfl (AI rfl (AO (AI rfl ?_))))))))))))))))
   repeat refine nx rfl ?_
   exact E7
  by_cases r:T<=3
  case neg=>
   (refine AI rfl (AN rfl (AD rfl (AN rfl (AL rfl Dz ?_))))<;>(refine AN rfl ?_;(refine W_geq rfl rfl (fun V=>?_) (fun V=>?_)<;>try omega))<;>refine Am rfl (AI rfl (AI rfl (AN rfl (AD rfl (AN rfl (AL rfl Dz ?_))))))<;>(refine AN rfl ?_;(refine Cr rfl rfl (fun V=>?_) (fun V=>?_)<;>try omega))<;>refine Am rfl (AI rfl (AI rfl (Ak rfl (Ak rfl (Ak rfl (Al rfl (AI rfl (AO (AI rfl ?_))))))))))
   repeat refine nx rfl ?_
   exact E7
  by_cases n:m=0
  ·(refine AI rfl (AN rfl (AD rfl (AN rfl (AL rfl Dz ?_))))<;>(refine AN rfl ?_;(refine W_geq rfl rfl (fun V=>?_) (fun V=>?_)<;>try omega))<;>refine Am rfl (AI rfl (AI rfl (AN rfl (AD rfl (AN rfl (AL rfl Dz ?_))))))<;>(refine AN rfl ?_;(refine Cr rfl rfl (fun V=>?_) (fun V=>?_)<;>try omega))<;>refine Am rfl (AI rfl (AI rfl (AN rfl (AD rfl (AN rfl (AL rfl Dz ?_))))))<;>(refine AN rfl ?_;(refine Bm rfl rfl (fun V=>?_) (fun V=>?_)<;>try omega))<;>refine Am rfl (AI rfl (AO (AI rfl ?_))))
   repeat refine nx rfl ?_
   refine AB rfl ⟨true,rfl,A,fun _=>?_⟩;simp[BX,I,Z rfl,F,r,n]
  ·(refine AI rfl (AN rfl (AD rfl (AN rfl (AL rfl Dz ?_))))<;>(refine AN rfl ?_;(refine W_geq rfl rfl (fun V=>?_) (fun V=>?_)<;>try omega))<;>refine Am rfl (AI rfl (AI rfl (AN rfl (AD rfl (AN rfl (AL rfl Dz ?_))))))<;>(refine AN rfl ?_;(refine Cr rfl rfl (fun V=>?_) (fun V=>?_)<;>try omega))<;>refine Am rfl (AI rfl (AI rfl (AN rfl (AD rfl (AN rfl (AL rfl Dz ?_))))))<;>(refine AN rfl ?_;(refine Bm rfl rfl (fun V=>?_) (fun V=>?_)<;>try omega))<;>refine Am rfl (AI rfl (AO (AI rfl ?_))))
   repeat refine nx rfl ?_
   exact E7
 (refine AJ (AD rfl (AL rfl Dz ?_))<;>(refine Bm rfl rfl (fun V=>?_) (fun V=>?_)<;>try omega))
 repeat first|refine nx rfl ?_|refine nf rfl ?_
 refine DF (α:=Bool) (fun b=>[(1,pt w.heap.size),(6,.bool b)]) (fun b W=>R=W/\(b=true↔N=13\/N=14)) ?_ ?_
 ·by_cases F:N=13
  ·refine go ?_;exact Ao true ⟨rfl,rfl,trivial⟩ ⟨rfl,by simp[F]⟩
  ·by_cases r:N=14
   ·refine go ?_;exact Ao true ⟨rfl,rfl,trivial⟩ ⟨rfl,by simp[r]⟩
   ·refine go ?_;exact Ao false ⟨rfl,rfl,trivial⟩ ⟨rfl,by simp[F,r]⟩
 rintro H _ f4⟨rfl,P⟩;repeat refine nx rfl ?_
 refine DF (α:=Bool) (fun b=>[(1,pt w.heap.size),(6,.bool H),(7,.bool b)]) (fun b W=>R=W/\(b=true↔N=15\/N=16\/N=17)) ?_ ?_
 ·by_cases F:N=15
  ·refine go ?_;exact Ao true ⟨rfl,rfl,rfl,trivial⟩ ⟨rfl,by simp[F]⟩
  ·by_cases r:N=16
   ·refine go ?_;exact Ao true ⟨rfl,rfl,rfl,trivial⟩ ⟨rfl,by simp[r]⟩
   ·by_cases n:N=17
    ·refine go ?_;exact Ao true ⟨rfl,rfl,rfl,trivial⟩ ⟨rfl,by simp[n]⟩
    ·refine go ?_;exact Ao false ⟨rfl,rfl,rfl,trivial⟩ ⟨rfl,by simp[F,r,n]⟩
 rintro e _ f5⟨rfl,x⟩;refine go ?_;by_cases d:p=[]
 case neg=>
  refine go ?_;refine Bn rfl rfl (fun V=>absurd V d) (fun V=>go ?_);exact Eo
 by_cases F:0<=T
 case neg=>
  exact Ee
 by_cases r:T<=1
 case neg=>
  exact Ee
 by_cases n:e=true\/T=0
 case neg=>
  have G:e=false:=by cases e<;>simp_all
  subst G;have g:T≠0:=fun h=>n (.inr h);exact Ee
 by_cases t:0<=m
 case neg=>
  cases e with
  |true=>
   exact Ee
  |false=>
   have g:T=0:=by simpa using n
   exact Ee
 by_cases g5:m<=9
 case neg=>
  cases e with
  |true=>
   exact Ee
  |false=>
   have g:T=0:=by simpa using n
   exact Ee
 by_cases o:H=true\/m=0
 case neg=>
  have C:H=false:=by cases H<;>simp_all
  subst C;have M:m≠0:=fun h=>o (.inr h);cases e with
  |true=>
   exact Ee
  |false=>
   have g:T=0:=by simpa using n
   exact Ee
 cases H with
 |true=>
  have a0:=P.1 rfl;cases e with
  |true=>exfalso;have:=x.1 rfl;omega
  |false=>
   have g:T=0:=by simpa using n
   refine go ?_;refine Bn rfl rfl (fun V=>?_) (fun V=>absurd d V);refine go ?_;refine AB rfl ⟨true,rfl,k,fun _=>?_⟩;simp only[BX,I,d,if_neg Q,Bool.and_eq_true,decide_eq_true_eq,List.isEmpty_nil];refine⟨⟨⟨⟨⟨⟨⟨z,K⟩,trivial⟩,F⟩,?_⟩,t⟩,?_⟩,trivial⟩
   ·split<;>omega
   ·split<;>omega
 |false=>
  have M:m=0:=by simpa using o
  cases e with
  |true=>
   have a1:=x.1 rfl;refine go ?_;refine Bn rfl rfl (fun V=>?_) (fun V=>absurd d V);refine go ?_;refine AB rfl ⟨true,rfl,k,fun _=>?_⟩;simp only[BX,I,d,if_neg Q,Bool.and_eq_true,decide_eq_true_eq,List.isEmpty_nil];refine⟨⟨⟨⟨⟨⟨⟨z,K⟩,trivial⟩,F⟩,?_⟩,t⟩,?_⟩,trivial⟩
   ·split<;>omega
   ·split<;>omega
  |false=>
   have g:T=0:=by simpa using n
   refine go ?_;refine Bn rfl rfl (fun V=>?_) (fun V=>absurd d V);refine go ?_;refine AB rfl ⟨true,rfl,k,fun _=>?_⟩;simp only[BX,I,d,if_neg Q,Bool.and_eq_true,decide_eq_true_eq,List.isEmpty_nil];refine⟨⟨⟨⟨⟨⟨⟨z,K⟩,trivial⟩,F⟩,?_⟩,t⟩,?_⟩,trivial⟩
   ·split<;>omega
   ·split<;>omega
theorem nodes3_ok:∀(N:Nat)(f:Fml),szF f<=N->∀(w:World)(v:Value),FAt AV w v f->Fn Zp 116 [v] w fun u w'=>∃b:Bool,u=.bool b/\Ext w w'/\(b=true->Df shQ f):=by
 intro N
 induction N with
 |zero=>intro f e;have:=szF_pos f;omega
 |succ N ih=>
 intro f e w v K;obtain⟨p,rfl,L,j,q⟩:=K.form;obtain⟨a,c,rfl,A⟩:=id j;have a1:f.args.length<=9223372036854775807:=by obtain⟨h1,h2,_⟩:=A;omega
 clear A;have a2:=BJ f;refine AG Tryz.func116 rfl Tryz.ntmps116 (go ?_);refine Ai (L:=fcC f (.slice a f.args.length c)) rfl (fun R E=>?_);have m:=E.D;have D:=E.E;refine go ?_;refine AE (node_ok3 R _ f (K.ext D)) rfl ?_;rintro _ Z⟨b,rfl,Q,T⟩;have t:=D.trans Q;have M:=m.E Q O;cases b with
 |false=>
  refine go ?_;exact AB rfl ⟨false,rfl,t,fun h=>by cases h⟩
 |true=>
 refine go ?_;refine Ah (α:=Nat) (fun k=>[(1,pt w.heap.size),(3,iV (k:Int))]) (fun k W=>k<=f.args.length/\Ext Z W/\∀(i:Nat)(y:Fml),i<k->f.args[i]?=some y->Df shQ y) (fun k=>f.args.length-k) 0 (by repeat (first|exact trivial|refine⟨rfl,?_⟩)) ⟨by omega,Ext.refl _,fun i y H=>absurd H U⟩ ?_;rintro k W fr⟨hk,V,C⟩;have g:=t.trans V;have c4:W.cell? ⟨w.heap.size,0+4,none⟩=some (.slice a f.args.length c):=V.cell (M.cell rfl) O;refine go ?_;by_cases B:k<f.args.length
 ·refine go ?_;obtain⟨x,n⟩:∃x,f.args[k]?=some x:=⟨_,List.getElem?_eq_getElem B⟩;obtain⟨d,l⟩:∃d,L[k]?=some d:=⟨_,List.getElem?_eq_getElem EN⟩;obtain⟨r,oa,rfl,a0,I⟩:=j.fml q.2.1 l B;have a3:=BO (List.mem_of_getElem? n);have G:FAt AV W (.agg d.toArray) x:=(q.2.2 k d x l n).ext g;have S:=I.E g O;refine go ?_;refine AQ (L:=d) rfl (q.2.1 d (List.mem_of_getElem? l)) S ?_;refine AE (ih x U W _ G) rfl ?_;rintro _ w4⟨b,rfl,P,T⟩;cases b with
  |true=>
   refine go ?_;refine⟨k+1,⟨rfl,⟨(by repeat (first|exact trivial|refine⟨rfl,?_⟩)),⟨by omega,V.trans P,fun i z H o=>?_⟩⟩⟩,by omega⟩;by_cases X:i=k
   ·subst X;rw[n]at o;cases o;exact T rfl
   ·exact C i z U o
  |false=>
   refine go ?_;exact AB rfl ⟨false,rfl,g.trans P,fun h=>by cases h⟩
 ·refine go ?_
  have s:∀y∈f.args,Df shQ y:=fun y F=>by
   obtain⟨i,H⟩:=List.getElem?_of_mem F;exact C i y (by have:=(List.getElem?_eq_some_iff.1 H).1;omega) H
  exact AB rfl ⟨true,rfl,g,fun _=>allF_iff.2 ⟨T rfl,s⟩⟩
def futQ(f:Fml):Prop:=futB f.op=false
theorem past3_ok:∀(N:Nat)(f:Fml),szF f<=N->∀(w:World)(v:Value),FAt AV w v f->Fn Zp 169 [v] w fun u w'=>∃b:Bool,u=.bool b/\Ext w w'/\(b=true->Df futQ f):=by
 intro N
 induction N with
 |zero=>intro f e;have:=szF_pos f;omega
 |succ N ih=>
 intro f e w v K;obtain⟨av,rfl,L,j,q⟩:=K.form;obtain⟨a,c,rfl,t⟩:=id j;have a2:f.args.length<=9223372036854775807:=by obtain⟨h1,h2,_⟩:=t;omega
 clear t;have a3:=BJ f;refine AG Tryz.func169 rfl Tryz.ntmps169 (go ?_);refine Ai (L:=fcC f (.slice a f.args.length c)) rfl (fun R E=>?_);have m:=E.D;have n:=E.E;refine AO (AI rfl ?_);repeat refine nx rfl ?_
 have c0:R.cell? ⟨w.heap.size,0+0,none⟩=some (iV f.op):=m.cell rfl;by_cases r:8<=f.op/\f.op<=14
 ·obtain⟨r,a0⟩:=r;(refine AJ (AD rfl (AL rfl (Blk.cell Dz Dx) ?_))<;>(refine W_geq rfl rfl (fun V=>?_) (fun V=>?_)<;>try omega)<;>refine AI rfl (AN rfl (AD rfl (AN rfl (AL rfl (Blk.cell Dz Dx) ?_))))<;>(refine AN rfl ?_;(refine Cr rfl rfl (fun V=>?_) (fun V=>?_)<;>try omega))<;>refine Am rfl (AI rfl ?_))
  repeat refine nx rfl ?_
  refine AJ (AO (AI rfl ?_));repeat refine nx rfl ?_
  exact AB rfl ⟨false,rfl,n,fun h=>by cases h⟩
 have Q:futQ f:=by
  unfold futQ futB;rw[Bool.and_eq_false_iff,decide_eq_false_iff_not,decide_eq_false_iff_not];omega
 refine DF (α:=Unit) (fun _=>[(1,pt w.heap.size),(11,.bool false)]) (fun _ W=>Ext w W/\Blk W w.heap.size 36 (fcC f (.slice a f.args.length c))) ?_ ?_
 ·by_cases g8:8<=f.op
  ·refine go ?_;exact Ao () ⟨rfl,rfl,trivial⟩ ⟨n,m⟩
  ·refine go ?_;exact Ao () ⟨rfl,rfl,trivial⟩ ⟨n,m⟩
 rintro _ Z f3⟨D,M⟩;refine go ?_;refine Ah (α:=Nat) (fun k=>[(1,pt w.heap.size),(3,iV (k:Int))]) (fun k W=>k<=f.args.length/\Ext Z W/\∀(i:Nat)(y:Fml),i<k->f.args[i]?=some y->Df futQ y) (fun k=>f.args.length-k) 0 (by repeat (first|exact trivial|refine⟨rfl,?_⟩)) ⟨by omega,Ext.refl _,fun i y H=>absurd H U⟩ ?_;rintro k W fr⟨hk,p,A⟩;have g:=D.trans p;have c4:W.cell? ⟨w.heap.size,0+4,none⟩=some (.slice a f.args.length c):=p.cell (M.cell rfl) O;refine go ?_;by_cases B:k<f.args.length
 ·refine go ?_;obtain⟨x,T⟩:∃x,f.args[k]?=some x:=⟨_,List.getElem?_eq_getElem B⟩;obtain⟨d,l⟩:∃d,L[k]?=some d:=⟨_,List.getElem?_eq_getElem EN⟩;obtain⟨ba,oa,rfl,a1,I⟩:=j.fml q.2.1 l B;have a4:=BO (List.mem_of_getElem? T);have G:FAt AV W (.agg d.toArray) x:=(q.2.2 k d x l T).ext g;have P:=I.E g O;refine go ?_;refine AQ (L:=d) rfl (q.2.1 d (List.mem_of_getElem? l)) P ?_;refine AE (ih x U W _ G) rfl ?_;rintro _ w4⟨b,rfl,C,X⟩;cases b with
  |true=>
   refine go ?_;refine⟨k+1,⟨rfl,⟨(by repeat (first|exact trivial|refine⟨rfl,?_⟩)),⟨by omega,p.trans C,fun i z H o=>?_⟩⟩⟩,by omega⟩;by_cases S:i=k
   ·subst S;rw[T]at o;cases o;exact X rfl
   ·exact A i z U o
  |false=>
   refine go ?_;exact AB rfl ⟨false,rfl,g.trans C,fun h=>by cases h⟩
 ·refine go ?_
  have s:∀y∈f.args,Df futQ y:=fun y F=>by
   obtain⟨i,H⟩:=List.getElem?_of_mem F;exact A i y (by have:=(List.getElem?_eq_some_iff.1 H).1;omega) H
  exact AB rfl ⟨true,rfl,g,fun _=>allF_iff.2 ⟨Q,s⟩⟩
def coreQ(f:Fml):Prop:=DC f.op=true/\(f.op=4->negOk f=true)
theorem lo_of{N:Int}(h:(1<=N/\N<=6)\/(8<=N/\N<=10)\/(15<=N/\N<=17)):DC N=true:=by
 simp only[DC,Bool.or_eq_true,Bool.and_eq_true,decide_eq_true_eq];omega
theorem core3_ok:∀(N:Nat)(f:Fml),szF f<=N->∀(w:World)(v:Value),FAt AV w v f->Df shQ f->Fn Zp 117 [v] w fun u w'=>∃b:Bool,u=.bool b/\Ext w w'/\(b=true->Df coreQ f):=by
 intro N
 induction N with
 |zero=>intro f hN;have:=szF_pos f;omega
 |succ N ih=>
 intro f hN w v hf b0;obtain⟨a8,a9⟩:=allF_iff.1 b0;obtain⟨av,rfl,L,j,q⟩:=hf.form;obtain⟨a,c,rfl,S⟩:=id j;have b8:f.args.length<=9223372036854775807:=by obtain⟨X,h2,_⟩:=S;omega
 clear S;have b9:=BJ f;refine AG Tryz.func117 rfl Tryz.ntmps117 (go ?_);refine Ai (L:=fcC f (.slice a f.args.length c)) rfl (fun w1 E=>?_);have m:=E.D;have l:=E.E;refine AO (AI rfl ?_);repeat refine nx rfl ?_
 have c0:w1.cell? ⟨w.heap.size,0+0,none⟩=some (iV f.op):=m.cell rfl;refine DF (α:=Bool) (fun b=>[(1,pt w.heap.size),(3,.bool b)]) (fun b W=>Ext w W/\Blk W w.heap.size 36 (fcC f (.slice a f.args.length c))/\(b=true->DC f.op=true)) ?_ ?_
 ·by_cases g1:1<=f.op
  case neg=>
   refine go ?_;exact Ao false ⟨rfl,rfl,trivial⟩ ⟨l,m,fun h=>by cases h⟩
  by_cases g6:f.op<=6
  ·exact Ev
  by_cases g8:f.op=8
  ·exact Ev
  by_cases g9:f.op=9
  ·exact Ev
  by_cases b4:f.op=10
  ·exact Ev
  by_cases b5:f.op=15
  ·exact Ev
  by_cases b6:f.op=16
  ·exact Ev
  by_cases b7:f.op=17
  ·exact Ev
  ·refine go ?_;exact Ao false ⟨rfl,rfl,trivial⟩ ⟨l,m,fun h=>by cases h⟩
 rintro b A f3⟨H,M,g⟩;have a0:A.cell? ⟨w.heap.size,0+0,none⟩=some (iV f.op):=M.cell rfl;have a1:A.cell? ⟨w.heap.size,0+4,none⟩=some (.slice a f.args.length c):=M.cell rfl;repeat refine nx rfl ?_
 cases b with
 |false=>
  refine AJ (AI rfl (W_not rfl (AI rfl (Ak rfl (Ak rfl (Ak rfl (Ak rfl (Ak rfl (Ak rfl (Ak rfl (Ak rfl (Ak rfl (Ak rfl (Ak rfl (Am rfl (AI rfl ?_))))))))))))))));exact GB
 |true=>
 have K:f.op=4->∃x r p,f.args=[x]/\a=some ⟨r,p,none⟩/\A.cell? ⟨r,p+0*5+0,none⟩=some (iV x.op):=by
  intro n
  have P:f.args.length=1:=by
   have X:=BR a8;rw[n]at X;simpa[Aq]using X
  obtain⟨x,T⟩:=Cv P;have b1:f.args[0]?=some x:=by rw[T];rfl
  obtain⟨d,s⟩:∃d,L[0]?=some d:=⟨_,List.getElem?_eq_getElem (by rw[q.1];omega)⟩;obtain⟨r,p,ha,a4,I⟩:=j.fml q.2.1 s U;obtain⟨D,ex,_⟩:=(q.2.2 0 d x s b1).form
  have a2:d=fcC x D:=by
   have:=congrArg (fun v=>match v with|Value.agg c=>c.toList|_=>[]) ex;have e:d=[iV x.op,AK x.name,iV x.val,iV x.bound,D]:=by simpa using this
   exact e
  refine⟨x,r,p,T,ha,?_⟩;exact H.cell (I 0 _ (by rw[a2];rfl)) O
 by_cases R:f.op=4/\negOk f=false
 ·obtain⟨n,G⟩:=R;obtain⟨x,r,p,T,rfl,b3⟩:=K n
  have b2:x.op≠3:=by
   intro h;unfold negOk at G;rw[T]at G;simp[h]at G
  have P:f.args.length=1:=by rw[T];rfl
  (refine AJ (AI rfl (W_not rfl (AI rfl (AN rfl (AD rfl (AN rfl (AL rfl (Blk.cell Dz Dx) ?_)))))))<;>(refine AN rfl ?_;(refine Bm rfl rfl (fun V=>?_) (fun V=>?_)<;>try omega))<;>refine AN rfl (AI rfl (AN rfl (AD rfl (AN rfl (AL rfl (Blk.cell Dz Dx) ?_)))))<;>refine AN rfl (Bd rfl rfl U U (AN rfl (AD rfl (AN rfl (AL rfl Dz ?_)))))<;>(refine AN rfl ?_;(refine W_neq rfl rfl (fun V=>?_) (fun V=>?_)<;>try omega))<;>refine AN rfl (Am rfl (AI rfl (Al rfl (AI rfl ?_)))))
  exact GB
 refine DF (α:=Unit) (fun _=>[(1,pt w.heap.size),(57,.bool false)]) (fun _ W=>Ext w W/\Blk W w.heap.size 36 (fcC f (.slice a f.args.length c))/\coreQ f) ?_ ?_
 ·by_cases n:f.op=4
  ·have G:negOk f=true:=by
    cases G:negOk f with
    |true=>rfl
    |false=>exact absurd ⟨n,G⟩ R
   obtain⟨x,r,p,T,rfl,b3⟩:=K n
   have b2:x.op=3:=by
    unfold negOk at G;rw[T]at G;simpa using G
   have P:f.args.length=1:=by rw[T];rfl
   refine go ?_;exact Ao () ⟨rfl,rfl,trivial⟩ ⟨H,M,g rfl,fun _=>G⟩
  ·refine go ?_;exact Ao () ⟨rfl,rfl,trivial⟩ ⟨H,M,g rfl,fun h=>absurd h n⟩
 clear a0 a1 M H g K;rintro _ A f3⟨H,M,F⟩;refine go ?_;refine Ah (α:=Nat) (fun k=>[(1,pt w.heap.size),(4,iV (k:Int))]) (fun k W=>k<=f.args.length/\Ext A W/\∀(i:Nat)(y:Fml),i<k->f.args[i]?=some y->Df coreQ y) (fun k=>f.args.length-k) 0 (by repeat (first|exact trivial|refine⟨rfl,?_⟩)) ⟨by omega,Ext.refl _,fun i y t=>absurd t U⟩ ?_;rintro k W fr⟨hk,Q,Z⟩;have C:=H.trans Q;have c4:W.cell? ⟨w.heap.size,0+4,none⟩=some (.slice a f.args.length c):=Q.cell (M.cell rfl) O;refine go ?_;by_cases B:k<f.args.length
 ·refine go ?_;obtain⟨x,T⟩:∃x,f.args[k]?=some x:=⟨_,List.getElem?_eq_getElem B⟩;obtain⟨d,s⟩:∃d,L[k]?=some d:=⟨_,List.getElem?_eq_getElem EN⟩;obtain⟨r,p,rfl,a4,I⟩:=j.fml q.2.1 s B;have hxm:=BO (List.mem_of_getElem? T);have a6:FAt AV W (.agg d.toArray) x:=(q.2.2 k d x s T).ext C;have a5:=I.E C O;refine go ?_;refine AQ (L:=d) rfl (q.2.1 d (List.mem_of_getElem? s)) a5 ?_;refine AE (ih x U W _ a6 (a9 x (List.mem_of_getElem? T))) rfl ?_;rintro _ w4⟨b,rfl,k4,F⟩;cases b with
  |true=>
   refine go ?_;refine⟨k+1,⟨rfl,⟨(by repeat (first|exact trivial|refine⟨rfl,?_⟩)),⟨by omega,Q.trans k4,fun i z t o=>?_⟩⟩⟩,by omega⟩;by_cases a7:i=k
   ·subst a7;rw[T]at o;cases o;exact F rfl
   ·exact Z i z U o
  |false=>
   refine go ?_;exact AB rfl ⟨false,rfl,C.trans k4,fun h=>by cases h⟩
 ·refine go ?_
  have a3:∀y∈f.args,Df coreQ y:=fun y hy=>by
   obtain⟨i,t⟩:=List.getElem?_of_mem hy;exact Z i y (by have:=(List.getElem?_eq_some_iff.1 t).1;omega) t
  exact AB rfl ⟨true,rfl,C,fun _=>allF_iff.2 ⟨F,a3⟩⟩
def layQ(f:Fml):Prop:=pstB f.op=true->∀a∈f.args,Df futQ a
theorem lay3_ok:∀(N:Nat)(f:Fml),szF f<=N->∀(w:World)(v:Value),FAt AV w v f->Fn Zp 118 [v] w fun u w'=>∃b:Bool,u=.bool b/\Ext w w'/\(b=true->Df layQ f):=by
 intro N
 induction N with
 |zero=>intro f e;have:=szF_pos f;omega
 |succ N ih=>
 intro f e w v K;obtain⟨av,rfl,L,j,q⟩:=K.form;obtain⟨a,c,rfl,D⟩:=id j;have a4:f.args.length<=9223372036854775807:=by obtain⟨h1,h2,_⟩:=D;omega
 clear D;have a6:=BJ f;refine AG Tryz.func118 rfl Tryz.ntmps118 (go ?_);refine Ai (L:=fcC f (.slice a f.args.length c)) rfl (fun w1 E=>?_);have m:=E.D;have k1:=E.E;refine go ?_;refine Ah (α:=Nat) (fun k=>[(1,pt w.heap.size),(3,iV (k:Int))]) (fun k W=>k<=f.args.length/\Ext w1 W/\∀(i:Nat)(y:Fml),i<k->f.args[i]?=some y->Df layQ y/\(pstB f.op=true->Df futQ y)) (fun k=>f.args.length-k) 0 ⟨rfl,rfl,trivial⟩ ⟨by omega,Ext.refl _,fun i y H=>absurd H U⟩ ?_;rintro k W fr⟨hk,V,n⟩;have l:=k1.trans V;have C:=m.E V O;have R:W.cell? ⟨w.heap.size,0+4,none⟩=some (.slice a f.args.length c):=C.cell rfl;refine go ?_;by_cases B:k<f.args.length
 ·refine go ?_;obtain⟨x,T⟩:∃x,f.args[k]?=some x:=⟨_,List.getElem?_eq_getElem B⟩;obtain⟨d,p⟩:∃d,L[k]?=some d:=⟨_,List.getElem?_eq_getElem EN⟩;obtain⟨ba,oa,rfl,a3,S⟩:=j.fml q.2.1 p B;have a7:=BO (List.mem_of_getElem? T);have G:FAt AV W (.agg d.toArray) x:=(q.2.2 k d x p T).ext l;have M:=S.E l O;refine go ?_;refine AQ (L:=d) rfl (q.2.1 d (List.mem_of_getElem? p)) M ?_;refine AE (ih x U W _ G) rfl ?_;rintro _ Q⟨b,rfl,g,A⟩;have a1:Q.cell? ⟨w.heap.size,0+0,none⟩=some (iV f.op):=(C.E g O).cell rfl;have a2:=g.cell R O;have t:=M.E g O;cases b with
  |false=>
   refine go ?_;exact AB rfl ⟨false,rfl,l.trans g,fun h=>by cases h⟩
  |true=>
  by_cases X:15<=f.op/\f.op<=19
  ·obtain⟨Z,a5⟩:=X;refine go ?_;refine AQ (L:=d) rfl (q.2.1 d (List.mem_of_getElem? p)) t (go ?_);refine AE (past3_ok _ x (Nat.le_refl _) Q _ (G.ext g)) rfl ?_;rintro _ w6⟨b,rfl,k6,a0⟩;have F:=g.trans k6;cases b with
   |false=>
    refine go ?_;exact AB rfl ⟨false,rfl,l.trans F,fun h=>by cases h⟩
   |true=>
    refine go ?_;refine⟨k+1,⟨rfl,⟨rfl,EJ,trivial⟩,⟨by omega,V.trans F,fun i z H o=>?_⟩⟩,by omega⟩;by_cases I:i=k
    ·subst I;rw[T]at o;cases o;exact⟨A rfl,fun _=>a0 rfl⟩
    ·exact n i z U o
  have P:pstB f.op=false:=by
   unfold pstB;rw[Bool.and_eq_false_iff,decide_eq_false_iff_not,decide_eq_false_iff_not];omega
  by_cases Z:15<=f.op
  ·refine go ?_;refine⟨k+1,⟨rfl,⟨rfl,EJ,trivial⟩,⟨by omega,V.trans g,fun i z H o=>?_⟩⟩,by omega⟩;by_cases I:i=k
   ·subst I;rw[T]at o;cases o;exact⟨A rfl,fun h=>absurd (P.symm.trans h) Bool.false_ne_true⟩
   ·exact n i z U o
  ·refine go ?_;refine⟨k+1,⟨rfl,⟨rfl,EJ,trivial⟩,⟨by omega,V.trans g,fun i z H o=>?_⟩⟩,by omega⟩;by_cases I:i=k
   ·subst I;rw[T]at o;cases o;exact⟨A rfl,fun h=>absurd (P.symm.trans h) Bool.false_ne_true⟩
   ·exact n i z U o
 ·refine go ?_
  have s:∀y∈f.args,Df layQ y/\(pstB f.op=true->Df futQ y):=fun y hy=>by
   obtain⟨i,H⟩:=List.getElem?_of_mem hy;exact n i y (by have:=(List.getElem?_eq_some_iff.1 H).1;omega) H
  exact AB rfl ⟨true,rfl,l,fun _=>allF_iff.2 ⟨fun h a r=>(s a r).2 h,fun a r=>(s a r).1⟩⟩
theorem dpL_snoc:∀(l:LF)(x:Fml),dpL (l++[x])=max (dpL l) (dpF x)
 | [],x=>by simp[dpL]
 |a::l,x=>by rw[List.cons_append,dpL,dpL_snoc l x,dpL];omega
theorem depth3_ok:∀(N:Nat)(f:Fml),szF f<=N->N<=1000->∀(w:World)(v:Value),FAt AV w v f->Fn Zp 115 [v] w fun u w'=>u=iV (dpF f:Int)/\Ext w w':=by
 intro N
 induction N with
 |zero=>intro f h;have:=szF_pos f;omega
 |succ N ih=>
 intro f h y w v K;have l:=dp_sz f;obtain⟨p,rfl,L,j,q⟩:=K.form;obtain⟨a,c,rfl,d⟩:=id j;have C:f.args.length<=9223372036854775807:=by obtain⟨X,t,_⟩:=d;omega
 clear d;have D:=BJ f;refine AG Tryz.func115 rfl Tryz.ntmps115 (go ?_);refine Ai (L:=fcC f (.slice a f.args.length c)) rfl (fun R E=>?_);have m:=E.D;have n:=E.E;refine go ?_;refine Ah (α:=Nat) (fun k=>[(1,pt w.heap.size),(3,iV (dpL (f.args.take k):Int)),(4,iV (k:Int))]) (fun k W=>k<=f.args.length/\Ext R W) (fun k=>f.args.length-k) 0 ⟨rfl,rfl,rfl,trivial⟩ ⟨by omega,Ext.refl _⟩ ?_;rintro k W Z⟨P,V⟩;have i:=n.trans V;have g:=m.E V O;have s:W.cell? ⟨w.heap.size,0+4,none⟩=some (.slice a f.args.length c):=g.cell rfl;refine go ?_;by_cases B:k<f.args.length
 ·refine go ?_;obtain⟨x,T⟩:∃x,f.args[k]?=some x:=⟨_,List.getElem?_eq_getElem B⟩;obtain⟨b,z⟩:∃b,L[k]?=some b:=⟨_,List.getElem?_eq_getElem EN⟩;obtain⟨r,M,rfl,A,I⟩:=j.fml q.2.1 z B;have F:=BO (List.mem_of_getElem? T);have G:FAt AV W (.agg b.toArray) x:=(q.2.2 k b x z T).ext i;have H:=I.E i O;refine go ?_;refine AQ (L:=b) rfl (q.2.1 b (List.mem_of_getElem? z)) H ?_;refine AE (ih x U U W _ G) rfl ?_;rintro _ Q⟨rfl,o⟩;refine W_max rfl rfl ?_;refine AO (AY rfl ?_);repeat refine nx rfl ?_
  (refine AJ (AY rfl (W_add rfl rfl D8 ?_))<;>refine AO (AY rfl ?_))
  repeat refine nx rfl ?_
  refine⟨k+1,⟨rfl,⟨rfl,?_,?_,trivial⟩,⟨by omega,V.trans o⟩⟩,by omega⟩
  ·refine congrArg (Value.int .i64) ?_;rw[List.take_add_one,T,Option.toList_some,dpL_snoc];omega
  ·show iV ((k:Int)+1)=_;rw[Int.natCast_add];rfl
 ·obtain e:k=f.args.length:=by omega
  rw[e,List.take_length];rw[BQ]at l⊢;refine go ?_;exact AB rfl ⟨by rw[Int.natCast_add];rfl,i⟩
theorem bareL3_of{i:Bool}:∀{l:LF},(∀a∈l,BC i a=true)->bareL i l=true
 | [],_=>rfl
 |a::l,h=>by
  rw[bareL,h a O,bareL3_of (l:=l) fun b S=>h b (by simp[S])];rfl
theorem bare_of:∀(n:Nat)(f:Fml)(i:Bool),szF f<=n->Df shQ f->Df coreQ f->Df layQ f->(i=true->Df futQ f)->BC i f=true:=by
 intro n
 induction n with
 |zero=>intro f i h;have:=szF_pos f;omega
 |succ n ih=>
 intro f i G X W Q z;obtain⟨u,m⟩:=allF_iff.1 X;obtain⟨t,d⟩:=allF_iff.1 W;obtain⟨T,y⟩:=allF_iff.1 Q;rw[BJ]at G;obtain⟨N,p,v,b,c⟩:=f;rw[bareB_eq];simp only[shQ,coreQ,layQ,Fml.op,Fml.name,Fml.val,Fml.bound,Fml.args]at*
 rw[t.1,u]
 have e:(!(i&&futB N))=true:=by
  cases i with
  |false=>rfl
  |true=>
   have:=(allF_iff.1 (z rfl)).1;unfold futQ at this;simp only[Fml.op]at this;rw[this];rfl
 have A:(if N=4 then negOk (.mk N p v b c)else true)=true:=by
  split
  ·exact t.2 Dz
  ·rfl
 have E:bareL (i||pstB N) c=true:=bareL3_of fun a I=>ih a _ (by have:=BO I;omega) (m a I) (d a I) (y a I) (by
  intro h;rcases Bool.or_eq_true_iff.1 h with h|h
  ·exact(allF_iff.1 (z h)).2 a I
  ·exact T h a I)
 rw[e,A,E];rfl
def looQ(f:Fml):Prop:=szF f<=400/\dpF f<=60/\Df shQ f/\Df coreQ f/\Df layQ f
theorem looQ_G{f:Fml}(h:looQ f):BA f=true:=by
 obtain⟨X,W,Q,z,S⟩:=h;unfold BA;rw[decide_eq_true X,decide_eq_true W,bareG_eq U,bare_of _ f false (Nat.le_refl _) Q z S (fun h=>by cases h)];rfl
theorem loose3_ok(w:World)(v:Value)(f:Fml)(K:FAt AV w v f):Fn Zp 68 [v] w fun u w'=>∃b:Bool,u=.bool b/\Ext w w'/\(b=true->looQ f):=by
 obtain⟨G,rfl,L,j,q⟩:=K.form;obtain⟨a,c,rfl,x⟩:=id j;have N:f.args.length<=9223372036854775807:=by obtain⟨X,I,_⟩:=x;omega
 clear x;have z:=BJ f;refine AG Tryz.func68 rfl Tryz.ntmps68 (go ?_);refine Ai (L:=fcC f (.slice a f.args.length c)) rfl (fun R r=>?_);have m:=r.D;have e:=r.E;refine go ?_;clear z;refine go ?_;refine AE (rsmall_ok R _ f 400 U (K.ext e)) rfl ?_;rintro _ C⟨rfl,l⟩;have A:=e.trans l;have d:=m.E l O;by_cases p:szF f<=400
 case neg=>
  rw[decide_eq_false p];refine go ?_;exact E7
 rw[decide_eq_true p];refine go ?_;refine AE (depth3_ok 400 f p U C _ (K.ext A)) rfl ?_;rintro _ D⟨rfl,g⟩;have E:=A.trans g;have y:=d.E g O;have o:=dp_sz f;by_cases n:dpF f<=60
 case neg=>
  exact Fc
 refine go ?_;refine AE (nodes3_ok _ f (Nat.le_refl _) D _ (K.ext E)) rfl ?_;rintro _ F⟨b,rfl,k,s⟩;have V:=E.trans k;have t:=y.E k O;cases b with
 |false=>
  refine go ?_;exact AB rfl ⟨false,rfl,V,fun h=>by cases h⟩
 |true=>
 refine go ?_;refine AE (core3_ok _ f (Nat.le_refl _) F _ (K.ext V) (s rfl)) rfl ?_;rintro _ W⟨b,rfl,i,Z⟩;have H:=V.trans i;have M:=t.E i O;cases b with
 |false=>
  refine go ?_;exact AB rfl ⟨false,rfl,H,fun h=>by cases h⟩
 |true=>
 refine go ?_;refine AE (lay3_ok _ f (Nat.le_refl _) W _ (K.ext H)) rfl ?_;rintro _ P⟨b,rfl,Q,B⟩;cases b with
 |false=>
  refine go ?_;exact AB rfl ⟨false,rfl,H.trans Q,fun h=>by cases h⟩
 |true=>
  refine go ?_;exact AB rfl ⟨true,rfl,H.trans Q,fun _=>⟨p,n,s rfl,Z rfl,B rfl⟩⟩
theorem knS_of{S:List Sgn}{nm:LU}{v:Int}{j:Nat}{s:Sgn}(z:S.findIdx? (fun y=>decide (y.name=nm))=some j)(D:S[j]?=some s)(q:v<s.size):knS S nm v=true:=by
 unfold knS;rw[z];simp[D,q]
theorem isB_leaf{k:LU->Int->Bool}{f:Fml}(Q:f.op=3)(h:shQ f)(P:k f.name f.val=true):isB k f=true:=by
 obtain⟨N,p,T,m,i⟩:=f;simp only[shQ,Fml.op,Fml.name,Fml.val,Fml.bound,Fml.args]at*
 subst Q
 have w:i.length=0:=by
  have X:=BR h;simpa[Aq]using X
 have F:i=[]:=List.eq_nil_of_length_eq_zero w;subst F;rw[isB,if_pos rfl,P];rfl
theorem isB_node{k:LU->Int->Bool}{f:Fml}(Q:f.op≠3)(h:∀a∈f.args,isB k a=true):isB k f=true:=by
 obtain⟨N,p,T,m,args⟩:=f;exact is_iff.2 ⟨fun e=>absurd e Q,h⟩
theorem fits3_ok(w0:World)(G:Option Addr)(K:Nat)(S:List Sgn)(a3:SlAt sgnR AV w0 (.slice G S.length K) S):∀(N:Nat)(f:Fml),szF f<=N->∀(w:World)(v:Value),Ext w0 w->FAt AV w v f->Fn Zp 69 [.slice G S.length K,v] w fun u w'=>∃b:Bool,u=.bool b/\Ext w w'/\(b=true->Df shQ f->isB (knS S) f=true):=by
 intro N
 induction N with
 |zero=>intro f hN;have:=szF_pos f;omega
 |succ N ih=>
 intro f hN w v d hf;obtain⟨av,rfl,L,Z,q⟩:=hf.form;obtain⟨a,c,rfl,a0⟩:=id Z;have b4:f.args.length<=9223372036854775807:=by obtain⟨h1,h2,_⟩:=a0;omega
 clear a0;have b5:=BJ f;refine AG Tryz.func69 rfl Tryz.ntmps69 (go ?_);refine Ai (L:=fcC f (.slice a f.args.length c)) rfl (fun R n1=>?_);have m:=n1.D;have r:=n1.E;refine go ?_;have c0:R.cell? ⟨w.heap.size,0+0,none⟩=some (iV f.op):=m.cell rfl;have c1:R.cell? ⟨w.heap.size,0+1,none⟩=some (AK f.name):=m.cell rfl;by_cases Q:f.op=3
 ·have a1:=a3.ext (d.trans r);refine go ?_;refine AE (rfind_ok R _ S f.name a1) rfl ?_;rintro _ R⟨rfl,rfl⟩;refine go ?_;unfold Di;cases hj:S.findIdx? (fun y=>decide (y.name=f.name))with
  |none=>
   simp only;refine AX (rd 0 18 .done) An Dv (fun A I ed=>⟨Ext A,?_,?_⟩)
   ·exact Ew
   exact Fz
  |some j=>
   have b0:j<S.length:=(List.findIdx?_eq_some_iff_getElem.1 hj).1;obtain⟨s,hs⟩:∃s,S[j]?=some s:=⟨_,List.getElem?_eq_getElem b0⟩;obtain⟨_,sb,so,rfl,_,b1⟩:=a1.sig hs;simp only;refine AX (rd 0 18 .done) An Dv (fun A I ed=>⟨Ext A,?_,?_⟩)
   ·exact Ew
   have g:∀V,Ext A V->V.cell? ⟨w.heap.size,0+2,none⟩=some (iV f.val):=fun V e=>(m.E (I.trans e) O).cell rfl;have s2:∀V,Ext A V->V.cell? ⟨sb,so+j*3+2,none⟩=some (iV s.size):=fun V e=>(I.trans e).cell (b1 2 _ rfl) O;by_cases g0:0<=f.val
   case neg=>
    ((apply D_R rfl rfl;(intro W l;refine AY rfl ?_;exact AA ⟨rfl,rfl,rfl⟩))<;>(refine D_geq rfl rfl rfl rfl (fun n=>?_) (fun n=>?_)<;>try omega)<;>(apply D_R rfl rfl;(intro W l;refine AI rfl ?_;exact AA ⟨rfl,rfl,rfl⟩))<;>(apply D_R rfl rfl;(intro W l;(refine AN rfl ?_;refine AD rfl ?_);exact AA ⟨rfl,rfl,rfl⟩))<;>(apply D_R rfl rfl;(intro W l;(refine AN rfl ?_;refine AL rfl (g W l) ?_);exact AA ⟨rfl,rfl,rfl⟩))<;>(refine D_geq rfl rfl rfl rfl (fun n=>?_) (fun n=>?_)<;>try omega)<;>(apply D_R rfl rfl;(intro W l;(refine Am rfl ?_;refine AI rfl ?_);exact AA ⟨rfl,rfl,rfl⟩))<;>(apply D_R rfl rfl;(intro W l;refine AI rfl ?_;exact AA ⟨rfl,rfl,rfl⟩))<;>refine A8 rfl rfl rfl rfl (A8 rfl rfl rfl rfl (A8 rfl rfl rfl rfl (A8 rfl rfl rfl rfl (A8 rfl rfl rfl rfl (A8 rfl rfl rfl rfl (A8 rfl rfl rfl rfl (A8 rfl rfl rfl rfl ?_)))))))<;>(apply D_R rfl rfl;(intro W l;(refine Al rfl ?_;refine AI rfl ?_);exact AA ⟨rfl,rfl,rfl⟩))<;>(apply D_R rfl rfl;(intro W l;(refine AO ?_;refine AI rfl ?_);exact AA ⟨rfl,rfl,rfl⟩))<;>refine Bq ?_)
    exact Fz
   by_cases g1:f.val<s.size
   case neg=>
    ((apply D_R rfl rfl;(intro W l;refine AY rfl ?_;exact AA ⟨rfl,rfl,rfl⟩))<;>(refine D_geq rfl rfl rfl rfl (fun n=>?_) (fun n=>?_)<;>try omega)<;>(apply D_R rfl rfl;(intro W l;refine AI rfl ?_;exact AA ⟨rfl,rfl,rfl⟩))<;>(apply D_R rfl rfl;(intro W l;(refine AN rfl ?_;refine AD rfl ?_);exact AA ⟨rfl,rfl,rfl⟩))<;>(apply D_R rfl rfl;(intro W l;(refine AN rfl ?_;refine AL rfl (g W l) ?_);exact AA ⟨rfl,rfl,rfl⟩))<;>(refine D_geq rfl rfl rfl rfl (fun n=>?_) (fun n=>?_)<;>try omega)<;>(apply D_R rfl rfl;(intro W l;(refine Am rfl ?_;refine AI rfl ?_);exact AA ⟨rfl,rfl,rfl⟩))<;>(apply D_R rfl rfl;(intro W l;refine AI rfl ?_;exact AA ⟨rfl,rfl,rfl⟩))<;>(apply D_R rfl rfl;(intro W l;(refine AN rfl ?_;refine AD rfl ?_);exact AA ⟨rfl,rfl,rfl⟩))<;>(apply D_R rfl rfl;(intro W l;(refine AN rfl ?_;refine AL rfl (g W l) ?_);exact AA ⟨rfl,rfl,rfl⟩))<;>(apply D_R rfl rfl;(intro W l;(refine AN rfl ?_;refine Av rfl ?_);exact AA ⟨rfl,rfl,rfl⟩))<;>(apply D_R rfl rfl;(intro W l;(refine AN rfl ?_;refine AY rfl ?_);exact AA ⟨rfl,rfl,rfl⟩))<;>(apply D_R rfl rfl;(intro W l;(refine AN rfl ?_;refine Cd rfl rfl rfl U ?_);exact AA ⟨rfl,rfl,rfl⟩))<;>(apply D_R rfl rfl;(intro W l;(refine AN rfl ?_;refine AD rfl ?_);exact AA ⟨rfl,rfl,rfl⟩))<;>(apply D_R rfl rfl;(intro W l;(refine AN rfl ?_;refine AL rfl (s2 W l) ?_);exact AA ⟨rfl,rfl,rfl⟩))<;>(refine C8 rfl rfl rfl rfl (fun n=>?_) (fun n=>?_)<;>try omega)<;>(apply D_R rfl rfl;(intro W l;(refine Am rfl ?_;refine AI rfl ?_);exact AA ⟨rfl,rfl,rfl⟩))<;>(apply D_R rfl rfl;(intro W l;(refine AO ?_;refine AI rfl ?_);exact AA ⟨rfl,rfl,rfl⟩))<;>refine Bq ?_)
    exact Fz
   have a8:Df shQ f->isB (knS S) f=true:=fun D=>isB_leaf Q (allF_iff.1 D).1 (knS_of hj hs g1);((apply D_R rfl rfl;(intro W l;refine AY rfl ?_;exact AA ⟨rfl,rfl,rfl⟩))<;>(refine D_geq rfl rfl rfl rfl (fun n=>?_) (fun n=>?_)<;>try omega)<;>(apply D_R rfl rfl;(intro W l;refine AI rfl ?_;exact AA ⟨rfl,rfl,rfl⟩))<;>(apply D_R rfl rfl;(intro W l;(refine AN rfl ?_;refine AD rfl ?_);exact AA ⟨rfl,rfl,rfl⟩))<;>(apply D_R rfl rfl;(intro W l;(refine AN rfl ?_;refine AL rfl (g W l) ?_);exact AA ⟨rfl,rfl,rfl⟩))<;>(refine D_geq rfl rfl rfl rfl (fun n=>?_) (fun n=>?_)<;>try omega)<;>(apply D_R rfl rfl;(intro W l;(refine Am rfl ?_;refine AI rfl ?_);exact AA ⟨rfl,rfl,rfl⟩))<;>(apply D_R rfl rfl;(intro W l;refine AI rfl ?_;exact AA ⟨rfl,rfl,rfl⟩))<;>(apply D_R rfl rfl;(intro W l;(refine AN rfl ?_;refine AD rfl ?_);exact AA ⟨rfl,rfl,rfl⟩))<;>(apply D_R rfl rfl;(intro W l;(refine AN rfl ?_;refine AL rfl (g W l) ?_);exact AA ⟨rfl,rfl,rfl⟩))<;>(apply D_R rfl rfl;(intro W l;(refine AN rfl ?_;refine Av rfl ?_);exact AA ⟨rfl,rfl,rfl⟩))<;>(apply D_R rfl rfl;(intro W l;(refine AN rfl ?_;refine AY rfl ?_);exact AA ⟨rfl,rfl,rfl⟩))<;>(apply D_R rfl rfl;(intro W l;(refine AN rfl ?_;refine Cd rfl rfl rfl U ?_);exact AA ⟨rfl,rfl,rfl⟩))<;>(apply D_R rfl rfl;(intro W l;(refine AN rfl ?_;refine AD rfl ?_);exact AA ⟨rfl,rfl,rfl⟩))<;>(apply D_R rfl rfl;(intro W l;(refine AN rfl ?_;refine AL rfl (s2 W l) ?_);exact AA ⟨rfl,rfl,rfl⟩))<;>(refine C8 rfl rfl rfl rfl (fun n=>?_) (fun n=>?_)<;>try omega)<;>(apply D_R rfl rfl;(intro W l;(refine Am rfl ?_;refine AI rfl ?_);exact AA ⟨rfl,rfl,rfl⟩))<;>(apply D_R rfl rfl;(intro W l;(refine AO ?_;refine AI rfl ?_);exact AA ⟨rfl,rfl,rfl⟩))<;>refine Bq ?_)
   refine go ?_;exact AB rfl ⟨true,rfl,r.trans I,fun _=>a8⟩
 refine go ?_;obtain⟨P,b2⟩:∃P,P=R:=⟨_,rfl⟩;have X:=r;have M:=m;rw[<-b2]at X M⊢;refine Ah (α:=Nat) (fun k=>[(0,.slice G S.length K),(3,pt w.heap.size),(6,iV (k:Int))]) (fun k W=>k<=f.args.length/\Ext P W/\∀(i:Nat)(y:Fml),i<k->f.args[i]?=some y->(Df shQ y->isB (knS S) y=true)) (fun k=>f.args.length-k) 0 (by repeat (first|exact trivial|refine⟨rfl,?_⟩)) ⟨by omega,Ext.refl _,fun i y H=>absurd H U⟩ ?_;rintro k W fr⟨hk,E,a2⟩;have t:=X.trans E;have c4:W.cell? ⟨w.heap.size,0+4,none⟩=some (.slice a f.args.length c):=E.cell (M.cell rfl) O;refine go ?_;by_cases B:k<f.args.length
 ·refine go ?_;obtain⟨x,T⟩:∃x,f.args[k]?=some x:=⟨_,List.getElem?_eq_getElem B⟩;obtain⟨p,C⟩:∃p,L[k]?=some p:=⟨_,List.getElem?_eq_getElem EN⟩;obtain⟨ba,oa,rfl,b3,a5⟩:=Z.fml q.2.1 C B;have b6:=BO (List.mem_of_getElem? T);have a7:FAt AV W (.agg p.toArray) x:=(q.2.2 k p x C T).ext t;have a6:=a5.E t O;refine go ?_;refine AQ (L:=p) rfl (q.2.1 p (List.mem_of_getElem? C)) a6 ?_;refine AE (ih x U W _ (d.trans t) a7) rfl ?_;rintro _ w4⟨b,rfl,k4,hq⟩;cases b with
  |true=>
   refine go ?_;refine⟨k+1,⟨rfl,⟨(by repeat (first|exact trivial|refine⟨rfl,?_⟩)),⟨by omega,E.trans k4,fun i z H o=>?_⟩⟩⟩,by omega⟩;by_cases a9:i=k
   ·subst a9;rw[T]at o;cases o;exact hq rfl
   ·exact a2 i z U o
  |false=>
   refine go ?_;exact AB rfl ⟨false,rfl,t.trans k4,fun h=>by cases h⟩
 ·refine go ?_
  have a4:∀y∈f.args,(Df shQ y->isB (knS S) y=true):=fun y F=>by
   obtain⟨i,H⟩:=List.getElem?_of_mem F;exact a2 i y (by have:=(List.getElem?_eq_some_iff.1 H).1;omega) H
  exact AB rfl ⟨true,rfl,t,fun _=>fun D=>isB_node Q fun y F=>a4 y F ((allF_iff.1 D).2 y F)⟩
def rtQ(S:List Sgn)(f:Fml):Prop:=A5 S=true/\looQ f/\isB (knS S) f=true
theorem right_ok(w:World)(e:Option Addr)(k:Nat)(S:List Sgn)(v:Value)(f:Fml)(p:SlAt sgnR AV w (.slice e S.length k) S)(K:FAt AV w v f):
  Fn Zp 27 [.slice e S.length k,v] w fun u w'=>∃b:Bool,u=.bool b/\Ext w w'/\(b=true->rtQ S f):=by
 obtain⟨B,rfl,L,j,q⟩:=K.form;obtain⟨a,c,rfl,x⟩:=id j;have C:f.args.length<=9223372036854775807:=by obtain⟨X,W,_⟩:=x;omega
 clear x;have i:=BJ f;refine AG Tryz.func27 rfl Tryz.ntmps27 (go ?_);refine Ai (L:=fcC f (.slice a f.args.length c)) rfl (fun R s=>?_);have m:=s.D;have n:=s.E;refine go ?_;clear i;refine go ?_;refine AE (rsvalid_ok R _ S (p.ext n)) rfl ?_;rintro _ z⟨rfl,l⟩;have A:=n.trans l;have d:=m.E l O;cases hv:A5 S with
 |false=>
  refine go ?_;exact E7
 |true=>
 refine go ?_;refine AE (loose3_ok z _ f (K.ext A)) rfl ?_;rintro _ t⟨b,rfl,g,r⟩;have E:=A.trans g;have y:=d.E g O;cases b with
 |false=>
  exact Fc
 |true=>
 refine go ?_;refine AE (fits3_ok t e k S (p.ext E) _ f (Nat.le_refl _) t _ (Ext.refl _) (K.ext E)) rfl ?_;rintro _ D⟨b,rfl,o,Q⟩;cases b with
 |false=>
  refine go ?_;exact AB rfl ⟨false,rfl,E.trans o,fun h=>by cases h⟩
 |true=>
  refine go ?_;exact AB rfl ⟨true,rfl,E.trans o,fun _=>⟨hv,r rfl,Q rfl (r rfl).2.2.1⟩⟩

theorem canG_of{f:Fml}(h:BA f=true):Bc f=As f:=by unfold Bc;rw[if_pos h]
theorem dp_con(N:Int):dpF (conO N)=1:=rfl
theorem dp_join{N:Int}(h:N=5\/N=6){n:Nat}{l:LF}(M:∀c∈l,dpF c<=n):dpF (Dr N l)<=n+1:=by
 rw[joinM_eq h];cases zAny N l with
 |true=>simp only[if_true];rw[dp_con];omega
 |false=>
  simp only[Bool.false_eq_true,if_false]
  have C:∀a∈dist (l.flatMap (Fl N)),dpF a<=n:=fun a I=>by
   obtain⟨c,V,I⟩:=List.mem_flatMap.1 (mem_dist.1 I);have X:=M c V;unfold Fl at I
   split at I
   ·have W:=Bi I;rw[BQ]at X;omega
   ·split at I
    ·cases I
    ·simp at I;rw[I];exact X
  generalize dist (l.flatMap (Fl N))=d at C;rw[joinD_eq]
  split
  ·rw[dp_con];omega
  ·match d,C with
   | [],_=>rw[dp_con];omega
   | [a],C=>have:=C a O;show dpF a<=_;omega
   |a::c::d,C=>
    have:=dpL_le.2 C;show dpL (a::c::d)+1<=_;omega
theorem dp_canon:∀{f:Fml},Sh f->dpF (As f)<=dpF f
 | .mk op nm v b args,hf=>by
  obtain⟨_,⟨_,I,_⟩,Q⟩:=sh_iff.1 hf;rw[canon_eq]
  have M:∀c∈args.map As,dpF c<=dpL args:=fun c V=>by
   obtain⟨a,I,rfl⟩:=List.mem_map.1 V;exact Nat.le_trans (dp_canon (Q a I)) (Bi I)
  have o:dpF (.mk op nm v b args)=dpL args+1:=BQ _;rw[o];have I:Aq op (args.map As).length=true:=by rw[List.length_map];exact I
  generalize args.map As=l at M I
  have G:dpF (.mk op nm v 0 l)<=dpL args+1:=by
   have:=dpL_le.2 M;show dpL l+1<=_;omega
  have t:∀k,k<l.length->dpF (l.getD k Ag)<=dpL args+1:=fun k P=>by
   rw[List.getD_eq_getElem?_getD,List.getElem?_eq_getElem P];have:=M _ (List.getElem_mem P);simp only[Option.getD_some];omega
  by_cases R:op=5\/op=6
  ·unfold Bh;rw[if_pos R];exact dp_join R M
  by_cases d:op=8
  ·subst d;have M:l.length=1:=by simpa[Aq]using I
   rw[canonOp_8];split
   ·exact t 0 U
   ·exact G
  by_cases L:op=9
  ·subst L;have M:l.length=2:=by simpa[Aq]using I
   rw[canonOp_9];split
   ·exact t 1 U
   ·exact G
  by_cases X:op=10
  ·subst X;have M:l.length=2:=by simpa[Aq]using I
   rw[canonOp_10];split
   ·exact t 1 U
   ·exact G
  rw[canonOp_E R d L X];exact G
theorem loose_canon{f:Fml}(h:BA f=true):BA (As f)=true:=by
 obtain⟨X,W,Q⟩:=BG h;have D:=Cy Q;exact loose_mk (Nat.le_trans (canon_sz D) X) (Nat.le_trans (dp_canon D) W) (bare_canon Q)
theorem is_const{k:LU->Int->Bool}(b:Bool):isB k (constF b)=true:=by cases b<;>rfl
theorem is_opF{k:LU->Int->Bool}{N:Int}(h:N≠3){l:LF}(M:∀a∈l,isB k a=true):isB k (opF N l)=true:=is_iff.2 ⟨fun e=>absurd e h,M⟩
theorem is_zeroF{k:LU->Int->Bool}:isB k Ag=true:=rfl
theorem is_getD{k:LU->Int->Bool}{l:LF}(M:∀a∈l,isB k a=true)(i:Nat):isB k (l.getD i Ag)=true:=by
 rw[List.getD_eq_getElem?_getD];cases h:l[i]? with
 |none=>rfl
 |some a=>exact M a (List.mem_of_getElem? h)
theorem is_raw{k:LU->Int->Bool}(x:Vl):∀{f:Fml},isB k f=true->isB k (rawF x f)=true
 | .mk op nm v b args,hk=>by
  obtain⟨e,l⟩:=is_iff.1 hk;rw[raw_eq]
  split
  ·exact is_const _
  ·have d:∀a∈args.map (rawF x),isB k a=true:=fun a I=>by
    obtain⟨c,V,rfl⟩:=List.mem_map.1 I;exact is_raw x (l c V)
   have t:∀a∈args.map (Dn x),isB k a=true:=fun a I=>by
    obtain⟨c,V,rfl⟩:=List.mem_map.1 I;exact is_aged x (l c V)
   have D:=is_aged x hk;unfold rawOp
   split
   ·exact is_opF U d
   split
   ·exact is_getD t 0
   split
   ·refine is_opF D7 fun a I=>?_;simp only[List.mem_cons,List.not_mem_nil,or_false]at I;rcases I with rfl|rfl
    ·exact is_getD d 1
    ·refine is_opF D7 fun a I=>?_;simp only[List.mem_cons,List.not_mem_nil,or_false]at I;rcases I with rfl|rfl
     ·exact is_getD d 0
     ·exact D
   split
   ·refine is_opF D7 fun a I=>?_;simp only[List.mem_cons,List.not_mem_nil,or_false]at I;rcases I with rfl|rfl
    ·exact is_getD d 1
    ·refine is_opF D7 fun a I=>?_;simp only[List.mem_cons,List.not_mem_nil,or_false]at I;rcases I with rfl|rfl
     ·exact is_getD d 0
     ·exact D
   ·exact is_zeroF
def LkS(S:List Sgn)(f:Fml):Prop:=BA f=true/\isB (knS S) f=true
theorem canG_op{f:Fml}(h:(Bc f).op≠0):BA f=true/\Bc f=As f:=by
 unfold Bc at h⊢;by_cases M:BA f=true
 ·exact⟨M,if_pos M⟩
 ·rw[if_neg M]at h;exact absurd rfl h
theorem canG_lk{S:List Sgn}{f:Fml}(h:(Bc f).op≠0)(P:isB (knS S) f=true):LkS S (Bc f)/\∀(s:Wd)(t:Nat),sem s (Bc f) t↔sem s f t:=by
 obtain⟨X,W⟩:=canG_op h;obtain⟨_,_,Q⟩:=BG X;rw[W];exact⟨⟨loose_canon X,is_canon (Cy Q) P⟩,fun s t=>canon_sem s (Cy Q) t⟩
theorem step_sem{S:List Sgn}{f:Fml}{x:Int}(h:(CK S f x).op≠0){s:Wd}(D:s 0=vlS S x):LkS S (CK S f x)/\(sem (tailW s) (CK S f x) 0↔sem s f 0):=by
 unfold CK at h⊢;by_cases V:fitsB S f=true/\0<=x/\x<CQ S
 ·rw[if_pos V]at h⊢;obtain⟨_,M,P⟩:=fits_parts V.1;obtain⟨X,W⟩:=canG_lk (S:=S) (f:=rawF (vlS S x) f) h (is_raw _ P);refine⟨X,(W _ _).trans ?_⟩;rw[<-D];exact raw_sem s f (BG M).2.2
 ·rw[if_neg V]at h;exact absurd rfl h
def dropW(n:Nat)(s:Wd):Wd:=fun t=>s (t+n)
theorem drop_tail(n:Nat)(s:Wd):dropW n (tailW s)=dropW (n+1) s:=by
 funext t
 show s (t+n+1)=s (t+(n+1));rw[Nat.add_assoc]
theorem run_sem{S:List Sgn}:∀(xs:List Int){f:Fml}{s:Wd},LkS S f->(Dc S f xs).op≠0->(∀i x,xs[i]?=some x->s i=vlS S x)->LkS S (Dc S f xs)/\(sem (dropW xs.length s) (Dc S f xs) 0↔sem s f 0)
 | [],f,s,hf,_,_=>⟨hf,Iff.rfl⟩
 |x::xs,f,s,hf,h,hs=>by
  rw[Dc]at h⊢;by_cases a:(CK S f x).op=0
  ·rw[if_pos a]at h;exact absurd rfl h
  ·rw[if_neg a]at h⊢;obtain⟨X,W⟩:=step_sem a (hs 0 x rfl);obtain⟨Q,z⟩:=run_sem xs (s:=tailW s) X h fun i y F=>hs (i+1) y (by simpa using F);rw[drop_tail]at z;exact⟨Q,z.trans W⟩
theorem gl{α:Type}{l:List α}{k:Nat}(h:k<l.length):∃x,l[k]?=some x:=⟨_,List.getElem?_eq_getElem h⟩
theorem nk(k:Nat):iV ((k:Int)+1)=iV ((k+1:Nat):Int):=by rw[Int.natCast_add];rfl
theorem ag{p:Prop}(h:p:=by repeat' first|exact trivial|refine⟨rfl,?_⟩|refine⟨nk _,?_⟩):p:=h
section
variable {mk:Prop}[MK mk]{X:List Nat}{w w':World}{ok:Nat->Prop}
theorem FAt.keep'{v:Value}{f:Fml}(k:Keep X w w')(h:FAt ok w v f)(W:∀b,ok b->b∉X):FAt ok w' v f:=h.E k W
theorem FsAt.keep'{L:List (LV)}{l:LF}(k:Keep X w w')(h:FsAt ok w L l)(W:∀b,ok b->b∉X):FsAt ok w' L l:=h.E k W
theorem RsAt.keep'{α:Type}{R:Rp α}{L:List (LV)}{l:List α}(k:Keep X w w')(h:RsAt R ok w L l)(W:∀b,ok b->b∉X):RsAt R ok w' L l:=h.E k W
theorem SlAt.keep'{α:Type}{R:Rp α}{v:Value}{l:List α}(k:Keep X w w')(h:SlAt R ok w v l)(W:∀b,ok b->b∉X):SlAt R ok w' v l:=h.E k W
theorem PF.keep'{b o:Nat}{f:Fml}(k:Keep X w w')(h:PF ok w b o f)(W:∀b,ok b->b∉X):PF ok w' b o f:=h.E k W
end
end Go.Proofs.YtohodbnnhlddpaaGreatDoor
