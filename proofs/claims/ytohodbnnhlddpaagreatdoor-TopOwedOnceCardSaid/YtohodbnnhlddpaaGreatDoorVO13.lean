/- TopOwedOnce, part 13 of 14: rules, lemmas, walks. Conditions: none. -/
import Derived.Test.YtohodbnnhlddpaaGreatDoorVO12
namespace Go.Proofs.YtohodbnnhlddpaaGreatDoor
open Go.RowKit
set_option linter.unusedVariables false
theorem fidx_hit{α:Type}{l:List α}{p:α->Bool}{k:Nat}{x:α}(T:l[k]?=some x)(a:p x=true)(z:∀(j:Nat)(y:α),j<k->l[j]?=some y->p y=false):l.findIdx? p=some k:=by
 have P:=(List.getElem?_eq_some_iff.1 T).1;refine List.findIdx?_eq_some_iff_getElem.2 ⟨P,?_,fun j v=>?_⟩
 ·have:=(List.getElem?_eq_some_iff.1 T).2;rw[this];exact a
 ·rw[z j _ v (List.getElem?_eq_getElem U)];simp
theorem fidx_miss{α:Type}{l:List α}{p:α->Bool}(z:∀(j:Nat)(y:α),j<l.length->l[j]?=some y->p y=false):l.findIdx? p=none:=by
 refine List.findIdx?_eq_none_iff.2 fun x T=>?_;obtain⟨i,H⟩:=List.getElem?_of_mem T;exact z i x (List.getElem?_eq_some_iff.1 H).1 H
def fidxI{α:Type}(l:List α)(p:α->Bool):Int:=match l.findIdx? p with|some j=>(j:Int)|none=> -1
theorem fidx_any{α:Type}(l:List α)(p:α->Bool):decide (0<=fidxI l p)=l.any p:=by
 unfold fidxI;cases h:l.findIdx? p with
 |none=>
  have:=List.findIdx?_eq_none_iff.1 h;simp only;rw[decide_eq_false U]
  symm
  rw[List.any_eq_false];exact fun x T=>by simpa using this x T
 |some j=>
  obtain⟨X,W,_⟩:=List.findIdx?_eq_some_iff_getElem.1 h;simp only;rw[decide_eq_true U];exact(List.any_eq_true.2 ⟨_,List.getElem_mem X,W⟩).symm
theorem idxW_ok(w:World)(a:Option Addr)(c:Nat)(l:List (Dty×Fml))(F:FuncId)[hF:AF Zp F](v1 v2:LV)(p:Dty×Fml->Bool)(M:SlAt wchR AV w (.slice a l.length c) l)(s:l.length<=100000)
  (K:∀(W:World)(d:LV)(x:Dty×Fml),x∈l->Ext w W->(wchR).fits AV W d x->Fn Zp F (v1++[.agg d.toArray]++v2) W fun u i=>u=.bool (p x)/\Ext W i):
  Fn Zp 76 [.slice a l.length c,.func (.func F) v1.toArray v2.toArray] w fun u w'=>u=iV (fidxI l p)/\Ext w w':=by
 refine AG Tryz.func76 rfl Tryz.ntmps76 (go ?_);refine Ah (α:=Nat) (fun k=>[(0,.slice a l.length c),(1,.func (.func F) v1.toArray v2.toArray),(7,iV (l.length:Int)),(8,iV (k:Int))]) (fun k W=>k<=l.length/\Ext w W/\∀(j:Nat)(y:Dty×Fml),j<k->l[j]?=some y->p y=false) (fun k=>l.length-k) 0 ag ⟨by omega,Ext.refl _,fun j y h=>by omega⟩ ?_;rintro k W Z⟨P,V,e⟩;refine go ?_;by_cases B:k<l.length
 ·obtain⟨x,T⟩:=gl B;obtain⟨b,o,d,rfl,S,C,G⟩:=M.at (sz:=24) rfl T;have r:=C.E V O;have n:=(wchR).E G V (fun _ _=>by simp);have m:d.length=24:=(wchR).len G;refine go ?_;refine AQ (L:=d) rfl m r ?_;refine Az (v1:=v1) (v2:=v2) (vs:=[.agg d.toArray]) rfl (K W d x (List.mem_of_getElem? T) V n) rfl ?_;rintro _ t⟨rfl,g⟩;cases hp:p x with
  |true=>
   exact Fp
  |false=>
   refine go ?_;refine⟨k+1,⟨rfl,ag,⟨by omega,V.trans g,fun j y z f=>?_⟩⟩,by omega⟩;by_cases q:j=k
   ·subst q;rw[T]at f;cases f;exact hp
   ·exact e j y U f
 ·exact Ga
theorem hasW_ok(w:World)(a:Option Addr)(c:Nat)(l:List (Dty×Fml))(F:FuncId)[hF:AF Zp F](v1 v2:LV)(p:Dty×Fml->Bool)(M:SlAt wchR AV w (.slice a l.length c) l)(G:l.length<=100000)
  (K:∀(W:World)(d:LV)(x:Dty×Fml),x∈l->Ext w W->(wchR).fits AV W d x->Fn Zp F (v1++[.agg d.toArray]++v2) W fun u b=>u=.bool (p x)/\Ext W b):
  Fn Zp 42 [.slice a l.length c,.func (.func F) v1.toArray v2.toArray] w fun u w'=>u=.bool (l.any p)/\Ext w w':=by
 have Z:=fidx_any l p;refine AG Tryz.func42 rfl Tryz.ntmps42 (go ?_);refine AE (idxW_ok w a c l F v1 v2 p M G K) rfl ?_;rintro _ R⟨rfl,f⟩;by_cases s:0<=fidxI l p
 ·rw[decide_eq_true s]at Z;exact Fu
 ·rw[decide_eq_false s]at Z;exact Fu
theorem idxF_ok(w:World)(a:Option Addr)(c:Nat)(l:List (Fml))(F:FuncId)[hF:AF Zp F](v1 v2:LV)(p:Fml->Bool)(M:SlAt fmlR AV w (.slice a l.length c) l)(s:l.length<=100000)
  (K:∀(W:World)(d:LV)(x:Fml),x∈l->Ext w W->(fmlR).fits AV W d x->Fn Zp F (v1++[.agg d.toArray]++v2) W fun u i=>u=.bool (p x)/\Ext W i):
  Fn Zp 345 [.slice a l.length c,.func (.func F) v1.toArray v2.toArray] w fun u w'=>u=iV (fidxI l p)/\Ext w w':=by
 refine AG Tryz.func345 rfl Tryz.ntmps345 (go ?_);refine Ah (α:=Nat) (fun k=>[(0,.slice a l.length c),(1,.func (.func F) v1.toArray v2.toArray),(7,iV (l.length:Int)),(8,iV (k:Int))]) (fun k W=>k<=l.length/\Ext w W/\∀(j:Nat)(y:Fml),j<k->l[j]?=some y->p y=false) (fun k=>l.length-k) 0 ag ⟨by omega,Ext.refl _,fun j y h=>by omega⟩ ?_;rintro k W Z⟨P,V,e⟩;refine go ?_;by_cases B:k<l.length
 ·obtain⟨x,T⟩:=gl B;obtain⟨b,o,d,rfl,S,C,G⟩:=M.at (sz:=5) rfl T;have r:=C.E V O;have n:=(fmlR).E G V (fun _ _=>by simp);have m:d.length=5:=(fmlR).len G;refine go ?_;refine AQ (L:=d) rfl m r ?_;refine Az (v1:=v1) (v2:=v2) (vs:=[.agg d.toArray]) rfl (K W d x (List.mem_of_getElem? T) V n) rfl ?_;rintro _ t⟨rfl,g⟩;cases hp:p x with
  |true=>
   exact Fp
  |false=>
   refine go ?_;refine⟨k+1,⟨rfl,ag,⟨by omega,V.trans g,fun j y z f=>?_⟩⟩,by omega⟩;by_cases q:j=k
   ·subst q;rw[T]at f;cases f;exact hp
   ·exact e j y U f
 ·exact Ga
theorem hasF_ok(w:World)(a:Option Addr)(c:Nat)(l:List (Fml))(F:FuncId)[hF:AF Zp F](v1 v2:LV)(p:Fml->Bool)(M:SlAt fmlR AV w (.slice a l.length c) l)(G:l.length<=100000)
  (K:∀(W:World)(d:LV)(x:Fml),x∈l->Ext w W->(fmlR).fits AV W d x->Fn Zp F (v1++[.agg d.toArray]++v2) W fun u b=>u=.bool (p x)/\Ext W b):
  Fn Zp 342 [.slice a l.length c,.func (.func F) v1.toArray v2.toArray] w fun u w'=>u=.bool (l.any p)/\Ext w w':=by
 have Z:=fidx_any l p;refine AG Tryz.func342 rfl Tryz.ntmps342 (go ?_);refine AE (idxF_ok w a c l F v1 v2 p M G K) rfl ?_;rintro _ R⟨rfl,f⟩;by_cases s:0<=fidxI l p
 ·rw[decide_eq_true s]at Z;exact Fu
 ·rw[decide_eq_false s]at Z;exact Fu
theorem idxD_ok(w:World)(a:Option Addr)(c:Nat)(l:List (Dty))(F:FuncId)[hF:AF Zp F](v1 v2:LV)(p:Dty->Bool)(M:SlAt dtyR AV w (.slice a l.length c) l)(s:l.length<=100000)
  (K:∀(W:World)(d:LV)(x:Dty),x∈l->Ext w W->(dtyR).fits AV W d x->Fn Zp F (v1++[.agg d.toArray]++v2) W fun u i=>u=.bool (p x)/\Ext W i):
  Fn Zp 73 [.slice a l.length c,.func (.func F) v1.toArray v2.toArray] w fun u w'=>u=iV (fidxI l p)/\Ext w w':=by
 refine AG Tryz.func73 rfl Tryz.ntmps73 (go ?_);refine Ah (α:=Nat) (fun k=>[(0,.slice a l.length c),(1,.func (.func F) v1.toArray v2.toArray),(7,iV (l.length:Int)),(8,iV (k:Int))]) (fun k W=>k<=l.length/\Ext w W/\∀(j:Nat)(y:Dty),j<k->l[j]?=some y->p y=false) (fun k=>l.length-k) 0 ag ⟨by omega,Ext.refl _,fun j y h=>by omega⟩ ?_;rintro k W Z⟨P,V,e⟩;refine go ?_;by_cases B:k<l.length
 ·obtain⟨x,T⟩:=gl B;obtain⟨b,o,d,rfl,S,C,G⟩:=M.at (sz:=19) rfl T;have r:=C.E V O;have n:=(dtyR).E G V (fun _ _=>by simp);have m:d.length=19:=(dtyR).len G;refine go ?_;refine AQ (L:=d) rfl m r ?_;refine Az (v1:=v1) (v2:=v2) (vs:=[.agg d.toArray]) rfl (K W d x (List.mem_of_getElem? T) V n) rfl ?_;rintro _ t⟨rfl,g⟩;cases hp:p x with
  |true=>
   exact Fp
  |false=>
   refine go ?_;refine⟨k+1,⟨rfl,ag,⟨by omega,V.trans g,fun j y z f=>?_⟩⟩,by omega⟩;by_cases q:j=k
   ·subst q;rw[T]at f;cases f;exact hp
   ·exact e j y U f
 ·exact Ga
theorem mtick_ok(w:World)(b:Option Addr)(K:Nat)(S:List Sgn)(a:Option Addr)(c:Nat)(l:List Dty)(x:Int)(j:SlAt sgnR AV w (.slice b S.length K) S)(t:SlAt dtyR AV w (.slice a l.length c) l)(G:l.length<=1000)(o:∀y∈l,szF y.req.formula<=1000000/\szF y.first<=1000000)(q:GF w)(s:KY w)(e:10<=w.heap.size):
  Fn Zp 13 [.slice b S.length K,.slice a l.length c,iV x] w fun u w'=>Ext w w'/\SlAt dtyR AV w' u (tickF S l x):=by
 refine AG Tryz.func13 rfl Tryz.ntmps13 (go ?_);refine Ai (L:=[.slice b S.length K]) rfl (fun R E=>?_);refine Ai (L:=[iV x]) rfl (fun v N=>?_);have A:=E.E.trans N.E;have k:=E.D.E N.E O;have r:=N.D;refine go ?_;refine AE (mapWatch_ok v a c l 40 [] [pt w.heap.size,pt R.heap.size] (fun y=>(y,CK S y.now x)) (t.ext A) G (fun W d y F D C=>?_)) rfl ?_
 ·have M:=A.trans D;exact tick1_ok W w.heap.size R.heap.size b K S d y x _ (k.E D O) (r.E D O) (j.ext M) C (o y F).1 (o y F).2 (q.ext M) (s.E M O) (Nat.le_trans e M.size)
 rintro u z⟨g,Q⟩;have n:=A.trans g;obtain⟨T,f,rfl,_⟩:=Q.len;refine go ?_;refine AE (hasW_ok z T f _ 43 [] [] (fun p=>decide (p.2.op=0)) Q (by rw[List.length_map];omega) (fun W d y F D C=>gone_ok W d y C)) rfl ?_;rintro _ B⟨rfl,m⟩;have V:=n.trans m;have Z:((l.map fun y=>(y,CK S y.now x)).any fun p=>decide (p.2.op=0))=l.any fun y=>decide ((CK S y.now x).op=0):=by rw[List.any_map];rfl
 rw[Z];unfold tickF;cases hc:l.any fun y=>decide ((CK S y.now x).op=0)with
 |true=>
  rw[if_pos rfl];refine go ?_;exact AB rfl ⟨V,none,0,[],rfl,⟨none,0,rfl,Nat.le_refl _,by omega,fun _=>rfl,.inl rfl⟩,RsAt.nil⟩
 |false=>
  rw[if_neg O];refine go ?_;refine AE (mapNext_ok B T f _ 45 [] [] (fun p=>p.1.to p.2) (Q.ext m) (by rw[List.length_map];omega) (fun W d y F D C=>advanced_ok W d y _ C)) rfl ?_;rintro u H⟨i,h⟩;refine go ?_;refine AB rfl ⟨V.trans i,?_⟩;rw[List.map_map]at h;exact h
theorem mstart_ok(w:World)(f:Option Addr)(K:Nat)(G:Option Addr)(H:Nat)(s:Spc)(t:Int)(ht:0<=t)(j:SlAt sgnR AV w (.slice f s.sigs.length K) s.sigs)(x:SlAt reqR AV w (.slice G s.reqs.length H) s.reqs)(hz:∀r∈s.reqs,szF r.formula<=1000000)(C:GF w)(i:KY w)(l:10<=w.heap.size):
  Fn Zp 21 [.agg #[.slice f s.sigs.length K,.slice G s.reqs.length H],iV t] w fun u w'=>∃(v:Value)(e:Int),u=.tuple #[v,iV e]/\Ext w w'/\(e=0↔chkB s=true)/\(chkB s=true->SlAt dtyR AV w' v (startF s t)):=by
 refine AG Tryz.func21 rfl Tryz.ntmps21 (go ?_);refine Ai (L:=[.slice f s.sigs.length K,.slice G s.reqs.length H]) rfl (fun R q=>?_);refine Ai (L:=[iV t]) rfl (fun w2 N=>?_);have A:=q.E.trans N.E;have Q:=q.D.E N.E O;have S:=N.D;refine go ?_;refine AE (check_ok w2 f K G H s (j.ext A) (x.ext A) (C.ext A) (i.E A O) (Nat.le_trans l A.size)) rfl ?_;rintro v B⟨g,n,xs,ho,a5,a9,p,a0⟩;have E:=A.trans g;have a3:=Q.E g O;have m:=S.E g O;have hs:Sl AV B v n xs:=Aa ho fun _ _=>trivial;obtain⟨va,vc,rfl,a6,a7,a8,a1⟩:=hs;refine go ?_;by_cases c:n=0;rotate_left
 ·have a:¬chkB s=true:=fun h=>c (p.2 h);obtain⟨e,F,a2⟩:=a0 c;obtain⟨b,o,rfl, -,X⟩:=a1.resolve_left c;have T:=X 1 _ a2;refine go ?_;refine AX (rd 0 6 .done) An Dv (fun P I ed=>⟨Ext P,?_,?_⟩)
  ·exact Ew
  have q1:∀V,Ext P V->V.cell? ⟨b,o+0*2+1,none⟩=some (iV e):=fun V k=>k.cell (I.cell (by simpa using T) O) O;refine go ?_;exact C5 rfl ⟨_,e,rfl,E.trans I,by simp[F,a],fun h=>absurd h a⟩
 ·have a:=p.1 c;have a4:s.reqs.length<=16:=by simp[chkB]at a;omega
  subst c;refine go ?_;refine AE (mapStart_ok B G H s.reqs 59 [] [pt R.heap.size] (strD t) (x.ext E) U (fun W d y hy D Z=>?_)) rfl ?_
  ·have M:=E.trans D;exact mstart1_ok W R.heap.size t d y _ Z (m.E D O) (hz y hy) (C.ext M) (i.E M O) (Nat.le_trans l M.size)
  rintro u w4⟨k4,z⟩;refine go ?_;exact C5 rfl ⟨_,0,rfl,E.trans k4,by simp[a],fun _=>z⟩
abbrev tok(c:Nat)(v1 v2:Value)(b:Nat):Prop:=b≠c/\v1.ownBlock≠some b/\v2.ownBlock≠some b
structure TwoA(B c:Nat)(W:World)(v1 v2:Value)(l1 l2:LF):Prop where
 o1:∃L,W.ownsRow B 36 5 v1 l1.length L.flatten/\FsAt (tok c v1 v2) W L l1
 o2:∃L,W.ownsRow B 36 5 v2 l2.length L.flatten/\FsAt (tok c v1 v2) W L l2
 ne:∀g,v1.ownBlock=some g->v2.ownBlock≠some g
 cB:c<B
theorem TwoA.start{B c:Nat}(W:World)(h:c<B):TwoA B c W (.slice none 0 0) (.slice none 0 0) [] []:=
 ⟨⟨[],⟨rfl,.inl ⟨rfl,rfl⟩⟩,FsAt.nil _ _⟩,⟨[],⟨rfl,.inl ⟨rfl,rfl⟩⟩,FsAt.nil _ _⟩,fun g h=>by simp[Value.ownBlock]at h,h⟩
theorem TwoA.swap{B c:Nat}{W:World}{v1 v2:Value}{f p:LF}(h:TwoA B c W v1 v2 f p):TwoA B c W v2 v1 p f:=by
 obtain⟨⟨T,i,K⟩,⟨P,j,Z⟩,e,a⟩:=h;exact⟨⟨P,j,Z.mono fun b S=>⟨S.1,S.2.2,S.2.1⟩⟩,⟨T,i,K.mono fun b S=>⟨S.1,S.2.2,S.2.1⟩⟩,fun g X d=>e g d X,a⟩
theorem TwoA.E{X:List Nat}{B c:Nat}{W l:World}{v1 v2:Value}{f p:LF}(h:TwoA B c W v1 v2 f p)(k:Keep X W l)(a:∀x∈X,x=c):TwoA B c l v1 v2 f p:=by
 obtain⟨⟨T,j,K⟩,⟨P,m,Z⟩,i,e⟩:=h;have q:∀{v:Value}{n:Nat}{d:LV},W.ownsRow B 36 5 v n d->l.ownsRow B 36 5 v n d:=fun R=>Ac R k fun g t y=>by have:=(Ad R t).1;have:=a g y;omega
 exact⟨⟨T,q j,K.E k fun b S y=>S.1 (a b y)⟩,⟨P,q m,Z.E k fun b S y=>S.1 (a b y)⟩,i,e⟩
theorem TwoA.sl{B c:Nat}{W:World}{v1 v2:Value}{f p:LF}(h:TwoA B c W v1 v2 f p):∃a c,v1=.slice a f.length c/\SlAt fmlR AV W v1 f:=by
 obtain⟨⟨T,S,K⟩, -, -⟩:=h;have D:Sl AV W v1 f.length T.flatten:=Aa S fun _ _=>trivial;obtain⟨a,c,e,_⟩:=id D;exact⟨a,c,e,a,c,T,e,D,K.1,fun i d x C b=>⟨K.2.1 d (List.mem_of_getElem? C),(K.2.2 i d x C b).mono fun _ _=>trivial⟩⟩
theorem TwoA.push{B c:Nat}{W i p:World}{v1 v2 w:Value}{d n:LF}{T:List (LV)}{cs:LV}{f:Fml}(h:TwoA B c W v1 v2 d n)(v:W.ownsRow B 36 5 v1 d.length T.flatten)(s:FsAt (tok c v1 v2) W T d)
  (D:Ext W i)(K:FAt (tok c v1 v2) i (.agg cs.toArray) f)(V:cs.length=5)(A:c<W.heap.size)(x:Apd i p B 36 5 v1 w (d.length+1) (T.flatten++cs)):TwoA B c p w v2 (d++[f]) n:=by
 obtain⟨-,⟨P,q,Z⟩,o,r⟩:=h;have z:=D.size;have G:∀g,v1.ownBlock=some g->B<=g/\g<W.heap.size:=fun g t=>Ad v t;have u:∀g,v2.ownBlock=some g->B<=g/\g<W.heap.size:=fun g t=>Ad q t
 have j:∀g,w.ownBlock=some g->v1.ownBlock=some g\/g=i.heap.size:=fun g t=>by
  rcases x.D with e|e
  ·exact .inl (by rw[<-e];exact t)
  ·rw[e]at t;exact .inr (Option.some.inj t).symm
 have k:∀y,y∈v1.ownBlock.toList->v1.ownBlock=some y:=fun y F=>Option.mem_toList.1 F
 have m:∀{L:List (LV)}{l:LF},FsAt (tok c v1 v2) W L l->FsAt (tok c w v2) p L l:=fun K=>by
  refine((K.lt.ext D).E x.E fun b S a=>S.1.2.1 (k b a)).mono fun b S=>⟨S.1.1,fun e=>?_,S.1.2.2⟩;rcases j b e with e|e
  ·exact S.1.2.1 e
  ·have:=S.2;omega
 have C:FAt (tok c w v2) p (.agg cs.toArray) f:=by
  refine(K.lt.E x.E fun b S a=>S.1.2.1 (k b a)).mono fun b S=>⟨S.1.1,fun e=>?_,S.1.2.2⟩;rcases j b e with e|e
  ·exact S.1.2.1 e
  ·have:=S.2;omega
 refine⟨⟨T++[cs],?_,(m s).snoc C V⟩,⟨P,Ac (Ae q D) x.E fun g t a=>o g (k g a) t,m Z⟩,fun g t E=>?_,r⟩
 ·have:=x.own;simpa using this
 ·rcases j g t with e|e
  ·exact o g e E
  ·have:=(u g E).2;omega
theorem sl_new{w w':World}{T:TypeId}{d B D S f:Value}(n:New w w' T [d,B,D,S,f]):Sl AV w' (.slice (sm w.heap.size) 1 1) 1 [d,B,D,S,f]:=
 Aa (n.own (n:=1) (size:=5) rfl D3 (Nat.le_refl _)) fun _ _=>trivial
theorem asms_snoc{l:List Dty}{k:Nat}{x:Dty}(h:l[k]?=some x):asmsF (l.take (k+1))=asmsF (l.take k)++(if asmD x=true then[notR x.now]else[])/\gusF (l.take (k+1))=gusF (l.take k)++(if asmD x=true then[]else[x.now])/\(l.take (k+1)).all kindD=((l.take k).all kindD&&kindD x):=by
 have P:l.take (k+1)=l.take k++[x]:=by rw[List.take_add_one,h];rfl
 rw[P];unfold asmsF gusF;rw[List.filter_append,List.filter_append];cases hx:asmD x<;>simp[hx]
theorem asms_len(l:List Dty):(asmsF l).length<=l.length/\(gusF l).length<=l.length:=by
 unfold asmsF gusF;rw[List.length_map,List.length_map];exact⟨List.length_filter_le _ _,List.length_filter_le _ _⟩
set_option maxHeartbeats 1000000 in
theorem mgoal_ok(w:World)(a:Option Addr)(c:Nat)(l:List Dty)(hl:SlAt dtyR AV w (.slice a l.length c) l)(hn:l.length<=100)(hG:GF w)(hK:KY w)(hN:10<=w.heap.size):
  Fn Zp 15 [.slice a l.length c] w fun u w'=>Ext w w'/\FAt (fun b=>w.heap.size<=b) w' u (Ba l):=by
 have d3:=(hl.lt (show 0<dtyR.size by decide)).mono (ok':=fun b=>b<w.heap.size) fun b S=>S.2;refine AG Tryz.func15 rfl Tryz.ntmps15 (go ?_);refine AS (L:=zero5) (fun w1 n1=>go ?_);refine AS (L:=[.slice none 0 0,.slice none 0 0,.slice none 0 0,.slice none 0 0]) (fun w2 n2=>?_);have z1:=n1.size;have z2:=n2.size;have e2:=n1.E.trans n2.E;have B1:=n1.D.E n2.E O;have B2:=n2.D;refine go ?_
 refine Ah (α:=Nat×Value×Value) (fun y=>[(2,pt w.heap.size),(3,pt w1.heap.size),(7,.slice a l.length c),(8,iV (l.length:Int)),(9,iV (y.1:Int))])
  (fun y W=>y.1<=l.length/\Ext w W/\Blk W w.heap.size 36 zero5/\Blk W w1.heap.size 93 [.slice none 0 0,y.2.1,y.2.2,.slice none 0 0]/\w2.heap.size<=W.heap.size/\TwoA w2.heap.size w1.heap.size W y.2.1 y.2.2 (asmsF (l.take y.1)) (gusF (l.take y.1))/\(l.take y.1).all kindD=true) (fun y=>l.length-y.1) (0,.slice none 0 0,.slice none 0 0) ag ⟨by simp,e2,B1,B2,Nat.le_refl _,TwoA.start _ U,rfl⟩ ?_
 rintro⟨k,C,v2⟩W fr⟨d2,kW,C1,C2,zW,Z,hall⟩;simp only at d2 kW C1 C2 zW Z hall;refine go ?_;by_cases d4:k<l.length
 ·obtain⟨x,hx⟩:=gl d4;obtain⟨b0,b1,b2⟩:=asms_snoc hx;obtain⟨b,o,d,rfl,S,hd,hfx⟩:=d3.at (sz:=19) rfl hx;obtain⟨q0,q1,q2,q3,q4,a0,a1,a2,a3,a4,z,m,A,B,t,rfl, -, -,f3⟩:=dty19 hfx;have a7:=dtyR.one hfx;have hdW:=hd.E kW O;refine go ?_;refine AQ (L:=[AK x.req.part,AK x.req.name,iV x.req.kind,q0,q1,q2,q3,q4,iV x.since,a0,a1,a2,a3,a4,z,m,A,B,t]) rfl rfl hdW ?_;refine Au (cs:=[AK x.req.part,AK x.req.name,iV x.req.kind,q0,q1,q2,q3,q4,iV x.since,a0,a1,a2,a3,a4,z,m,A,B,t]) rfl rfl Dx a7 (fun w5 n5=>?_);have z5:=n5.size;have e5:=kW.trans n5.E;have D1:=C1.E n5.E O;have D2:=C2.E n5.E O;have B5:=n5.D;have c1:=Z.E n5.E O;have a8:=f3.ext e5;have cn:Cells w5 W.heap.size (0+14) [z,m,A,B,t]:=B5.cells.part 14 5;have e1:kindD x=true\/kindD x=false:=by cases kindD x<;>simp
  by_cases X:x.req.kind=1
  ·have ha:asmD x=true:=by unfold asmD;exact decide_eq_true X
   have hkx:kindD x=true:=by unfold kindD;rw[decide_eq_true X];rfl
   refine go ?_;refine AX (.read 0 (.read 2 (.read 3 (.alt 1 (.alt 4 (.alt 5 (.alt 6 (.read 7 (.alt 8 .done .stop)) .stop) .stop) .stop) (.alt 4 (.alt 1 (.alt 5 (.alt 6 (.read 7 (.alt 8 .done .stop)) .stop) .stop) (.alt 5 (.alt 1 (.alt 6 (.read 7 (.alt 8 .done .stop)) .stop) .stop) .stop)) .stop))))) An Dv (fun H I ed=>⟨Keep (w1.heap.size::C.ownBlock.toList) H,?_,?_⟩)
   ·exact FK
   have zd:=I.size;have a5:=e5.trans I;have R:=c1.E I O;have E1:=D1.E I O;have E2:=D2.E I O;have E5:=B5.E I O;have b6:=a8.ext I;have b8:=hG.ext a5;have b9:=hK.E a5 O;have c0:=Nat.le_trans hN a5.size;have c5:Cells H W.heap.size (0+14) [z,m,A,B,t]:=E5.cells.part 14 5;obtain⟨L1,j,fs1⟩:=id R.o1;have a6:=(asms_len (l.take k)).1;have d5:(asmsF (l.take k)).length<=k:=by rw[List.length_take]at a6;omega
   have d8:∀y∈C.ownBlock.toList,w2.heap.size<=y/\y<H.heap.size/\y≠W.heap.size:=fun y F=>by
    have X:=Ad j (Option.mem_toList.1 F);obtain⟨e0,d9, -⟩:=Z.o1;have h2:=Ad d9 (Option.mem_toList.1 F);exact⟨X.1,X.2,by omega⟩
   have d6:W.heap.size∉w1.heap.size::C.ownBlock.toList:=fun p=>by
    rcases List.mem_cons.1 p with h|h
    ·omega
    ·exact(d8 _ h).2.2 rfl
   refine go ?_;refine D_R (v:=.agg [z,m,A,B,t].toArray) rfl rfl (fun V hV=>by refine AQ (L:=[z,m,A,B,t]) rfl rfl (c5.E hV d6) ?_;exact AA ⟨rfl,rfl,rfl⟩) ?_;refine go ?_
   refine D_leaf (α:=Nat×Value×Value×Value×Value×Value) (.alt 6 (.read 7 (.alt 8 .done .stop)) .stop) (fun u=>[(2,pt w.heap.size),(3,pt w1.heap.size),(7,.slice (some ⟨b,o,none⟩) l.length c),(8,iV (l.length:Int)),(9,iV (k:Int)),(20,C),(24,.slice (sm u.1) 1 1)])
    (fun u V=>Ext H V/\Blk V u.1 36 [u.2.1,u.2.2.1,u.2.2.2.1,u.2.2.2.2.1,u.2.2.2.2.2]/\FAt (fun b=>H.heap.size<=b) V (.agg [u.2.1,u.2.2.1,u.2.2.2.1,u.2.2.2.2.1,u.2.2.2.2.2].toArray) (notR x.now)) ?_ (fun b3=>?_)
   ·rintro⟨g,G,M,N,P,i⟩f' V⟨Q,bV,D⟩;simp only at bV D;have hos:oneC [G,M,N,P,i]:=fmlR.one (c:=[G,M,N,P,i]) ⟨rfl,D⟩;have zV:=Q.size;refine D_E rfl ?_;refine Ap (ok:=AV) (v:=C) rfl rfl (Ae j Q) ⟨some ⟨g,0,none⟩,1,rfl,Nat.le_refl _,by omega,(fun h=>by cases h),.inr ⟨g,0,rfl,trivial,bV.cells⟩⟩ U rfl rfl hos U U U (fun T w8 f=>?_);have s:∀y∈(C).ownBlock.toList,w2.heap.size<=y:=fun y F=>(Ad (Ae j Q) (Option.mem_toList.1 F)).1;have F1:=(E1.E Q O).E f.E (fun p=>by have:=s _ p;omega);have F2:=(E2.E Q O).E f.E (fun p=>by have:=s _ p;omega);have hTp:=R.push j fs1 Q (D.mono fun b S=>⟨by omega,fun e=>by have:=(Ad j e).2;omega,fun e=>by obtain⟨L2,o2, -⟩:=R.o2;have:=(Ad o2 e).2;omega⟩) rfl U f;refine wNl (Q.any.trans f.E (fun y F _=>List.mem_cons_of_mem _ F)) ?_;refine go ?_;refine D_E rfl ?_;refine AR (v:=T) rfl rfl (C3 f.own) F2 O (fun w9 n=>?_);have e9:Ext w w9:=((a5.trans Q).E f.E (fun y F=>by have:=s y F;omega)).E n.E Dw;refine wNl ((Q.any.trans f.E (fun y F _=>List.mem_cons_of_mem _ F)).trans n.E (fun y F _=>by rw[List.mem_singleton]at F;rw[F];exact List.mem_cons_self ..)) ?_;have z8:=f.E.size;have z9:=n.size;refine go ?_;refine⟨(k+1,T,v2),⟨rfl,ag,⟨by simp only;omega,e9,F1.E n.E Dw,n.D,by omega,?_,?_⟩⟩,by simp only;omega⟩
    ·simp only;rw[b0,b1,if_pos ha,if_pos ha,List.append_nil];exact hTp.E n.E O
    ·simp only;rw[b2,hall,hkx];rfl
   have K0:∀{V},Ext H V->Keep (w1.heap.size::C.ownBlock.toList) H V:=fun e=>e.any;have d1:=E2.cell (o:=0+1) rfl;refine D_A rfl ?_ (D_E rfl ?_)
   ·refine AL rfl d1 ?_;refine wNl (Keep.refl _ _) ?_;refine go ?_;refine D_E rfl ?_;refine AE (not_ok H _ x.now ((b6.ext (Ext.refl H)).mono fun _ _=>trivial) (b8.ext (Ext.refl H)) (b9.E (Ext.refl H) O) (Nat.le_trans c0 ((Ext.refl H)).size)) rfl ?_;rintro u V⟨K,D⟩;obtain⟨r,rfl,hcs,hos⟩:=D.cells;obtain⟨G,M,N,P,i,rfl⟩:=Ab hcs;refine wNl ((Ext.trans (Ext.refl H) K).any) ?_;exact FE
   ·refine AE (not_ok H _ x.now ((b6.ext (Ext.refl H)).mono fun _ _=>trivial) (b8.ext (Ext.refl H)) (b9.E (Ext.refl H) O) (Nat.le_trans c0 ((Ext.refl H)).size)) rfl ?_;rintro u V⟨K,D⟩;obtain⟨r,rfl,hcs,hos⟩:=D.cells;obtain⟨G,M,N,P,i,rfl⟩:=Ab hcs;refine wNl ((Ext.trans (Ext.refl H) K).any) ?_;refine go ?_;refine D_A rfl ?_ (D_E rfl ?_)
    ·refine AL rfl (K.cell d1 O) ?_;refine wNl K.any ?_;exact FE
    ·refine AP (out:=[G,M,N,P,i]) rfl U D4 (fun V2 q=>?_);refine wNl ((Ext.trans K q.E).any) ?_;refine go ?_;refine D_E rfl ?_;refine AL rfl ((K.trans q.E).cell d1 O) ?_;refine wNl ((K.trans q.E).any) ?_;exact b3 (V.heap.size,G,M,N,P,i) _ _ ag ⟨K.trans q.E,q.D,(D.ext q.E).mono fun b S=>S⟩
  ·have ha:asmD x=false:=by unfold asmD;exact decide_eq_false X
   have R:=c1;obtain⟨L1,j,fs1⟩:=id R.swap.o1;have a6:=(asms_len (l.take k)).2;have d5:(gusF (l.take k)).length<=k:=by rw[List.length_take]at a6;omega
   by_cases b7:x.req.kind=2\/x.req.kind=3
   ·have hkx:kindD x=true:=by unfold kindD;rcases b7 with h|h<;>rw[h]<;>rfl
    have c3:oneC [z,m,A,B,t]:=fmlR.one (c:=[z,m,A,B,t]) ⟨rfl,f3⟩;rcases b7 with h2|h2
    ·refine go ?_;refine AQ (L:=[z,m,A,B,t]) rfl rfl cn ?_;refine AP (out:=[z,m,A,B,t]) rfl U D4 (fun w7 E=>?_);have z7:=E.size;refine Ap (ok:=AV) (v:=v2) rfl rfl (Ae j E.E) (sl_new E) U rfl rfl c3 U U U (fun T w8 f=>?_);have s:∀y∈(v2).ownBlock.toList,w2.heap.size<=y:=fun y F=>(Ad (Ae j E.E) (Option.mem_toList.1 F)).1;have F1:=(D1.E E.E O).E f.E (fun p=>by have:=s _ p;omega);have F2:=(D2.E E.E O).E f.E (fun p=>by have:=s _ p;omega);have hTp:=R.swap.push j fs1 E.E ((a8.ext E.E).mono fun b S=>⟨by omega,fun e=>by have:=(Ad j e).1;omega,fun e=>by obtain⟨L2,o2, -⟩:=R.o1;have:=(Ad o2 e).1;omega⟩) rfl U f;have z8:=f.E.size;refine go ?_;refine AR (v:=T) rfl rfl (C3 f.own) F2 O (fun w9 n=>?_);have z9:=n.size;refine go ?_;refine⟨(k+1,C,T),⟨rfl,ag,⟨by simp only;omega,((e5.trans E.E).E f.E (fun y F=>by have:=s y F;omega)).E n.E Dw,F1.E n.E Dw,n.D,by omega,?_,?_⟩⟩,by simp only;omega⟩
     ·exact GD
     ·simp only;rw[b2,hall,hkx];rfl
    ·refine go ?_;refine AQ (L:=[z,m,A,B,t]) rfl rfl cn ?_;refine AP (out:=[z,m,A,B,t]) rfl U D4 (fun w7 E=>?_);have z7:=E.size;refine Ap (ok:=AV) (v:=v2) rfl rfl (Ae j E.E) (sl_new E) U rfl rfl c3 U U U (fun T w8 f=>?_);have s:∀y∈(v2).ownBlock.toList,w2.heap.size<=y:=fun y F=>(Ad (Ae j E.E) (Option.mem_toList.1 F)).1;have F1:=(D1.E E.E O).E f.E (fun p=>by have:=s _ p;omega);have F2:=(D2.E E.E O).E f.E (fun p=>by have:=s _ p;omega);have hTp:=R.swap.push j fs1 E.E ((a8.ext E.E).mono fun b S=>⟨by omega,fun e=>by have:=(Ad j e).1;omega,fun e=>by obtain⟨L2,o2, -⟩:=R.o1;have:=(Ad o2 e).1;omega⟩) rfl U f;have z8:=f.E.size;refine go ?_;refine AR (v:=T) rfl rfl (C3 f.own) F2 O (fun w9 n=>?_);have z9:=n.size;refine go ?_;refine⟨(k+1,C,T),⟨rfl,ag,⟨by simp only;omega,((e5.trans E.E).E f.E (fun y F=>by have:=s y F;omega)).E n.E Dw,F1.E n.E Dw,n.D,by omega,?_,?_⟩⟩,by simp only;omega⟩
     ·exact GD
     ·simp only;rw[b2,hall,hkx];rfl
   ·have hkx:kindD x=false:=by unfold kindD;rw[decide_eq_false X,decide_eq_false U,decide_eq_false U];rfl
    refine go ?_;refine AH (cs:=zero5) rfl rfl rfl (AW rfl) D1 D0 (fun w9 n=>?_)
    have d0:l.all kindD=false:=by
     rw[List.all_eq_false];exact⟨x,List.mem_of_getElem? hx,by simp[hkx]⟩
    refine go ?_;refine AU rfl rfl rfl n.D.cells ⟨e5.E n.E O,?_⟩;unfold Ba;rw[d0];exact FAt.leaf _ _ 0 [] 0 0
 ·obtain rfl:k=l.length:=by omega
  rw[List.take_length]at Z hall;obtain⟨a6,hl2'⟩:=asms_len l;obtain⟨a2,c2,rfl,c7⟩:=Z.swap.sl;refine go ?_;refine AE (andor_ok W 5 a2 c2 (gusF l) c7 U (hG.ext kW) (hK.E kW O) (Nat.le_trans hN kW.size)).1 rfl ?_;rintro u4 w4⟨k4,f4⟩;obtain⟨r,rfl,hcs,a7⟩:=f4.cells;obtain⟨y0,y1,y2,y3,y4,rfl⟩:=Ab hcs;refine Au (cs:=[y0,y1,y2,y3,y4]) rfl rfl Dx a7 (fun w6 n6=>?_);have k6:=k4.trans n6.E;have e6:=kW.trans k6;have z6:=k6.size;have G1:=C1.E k6 O;have G2:=C2.E k6 O;have B6:Blk w6 w4.heap.size 36 [y0,y1,y2,y3,y4]:=n6.D;have f6:=f4.ext n6.E;obtain⟨L1,j,fs1⟩:=id Z.o1;refine go ?_;refine AP (out:=[y0,y1,y2,y3,y4]) rfl U D4 (fun w7 E=>?_);have k7:=k6.trans E.E;have z7:=E.size;have zz:=k7.size;refine Ap (ok:=AV) (v:=C) rfl rfl (Ae j k7) (sl_new E) U rfl rfl a7 U U U (fun T w8 f=>?_);have s:∀y∈(C).ownBlock.toList,w2.heap.size<=y:=fun y F=>(Ad (Ae j k7) (Option.mem_toList.1 F)).1;have hT9:=Z.push j fs1 k7 ((f6.ext E.E).mono fun b S=>⟨by have:=S.1;omega,fun e=>by have:=(Ad j e).2;have:=S.1;omega,fun e=>by obtain⟨L2,o2, -⟩:=Z.o2;have:=(Ad o2 e).2;have:=S.1;omega⟩) rfl U f;have e9:Ext w w8:=(kW.trans k7).E f.E (fun y F=>by have:=s y F;omega);obtain⟨a9,c9,rfl,c8⟩:=hT9.sl;have H1:=(C1.E k7 O).E f.E (fun p=>by have:=s _ p;omega);refine AE (andor_ok w8 6 a9 c9 (asmsF l++[Db 5 (gusF l)]) c8 Dw (hG.ext e9) (hK.E e9 O) (Nat.le_trans hN e9.size)).2 rfl ?_;rintro e3 e4⟨c4,b5⟩;obtain⟨r,rfl,hcs,d7⟩:=b5.cells;obtain⟨t0,t1,t2,t3,t4,rfl⟩:=Ab hcs;refine AH (cs:=[t0,t1,t2,t3,t4]) rfl rfl rfl d7 (H1.E c4 O) D0 (fun w11 b4=>?_);have c6:=e9.trans c4;have z9:=e9.size;refine go ?_;refine AU rfl rfl rfl b4.D.cells ⟨c6.E b4.E O,?_⟩;unfold Ba;rw[if_pos hall];exact(b5.E b4.E (fun b S p=>by rw[List.mem_singleton]at p;have:=S.1;have:=H1.lt;omega)).mono fun b S=>by have:=S.1;omega
section
variable {mk:Prop}[MK mk]
theorem shape1_ok:∀(n:Nat)(w:World)(j:Nat)(d:LV)(f:Fml),szF f<=n->n<=1000000->Blk w j 50 [.func (.func 344) #[] #[pt j]]->FAt AV w (.agg d.toArray) f->d.length=5->
  Fn Zp 344 [.agg d.toArray,pt j] w fun u w'=>Ext w w'/\FAt (fun b=>w.heap.size<=b) w' u (DI f):=by
 intro n
 induction n with
 |zero=>intro w j d f hn;rw[BJ]at hn;omega
 |succ n ih=>
 intro w j d f hn b7 b1 hf hd;obtain⟨av,e,L,hS,a1⟩:=hf.form;obtain⟨sa,K,rfl,_⟩:=id hS;obtain⟨x0,x1,x2,x3,x4,rfl⟩:=Ab hd;simp only[Value.agg.injEq,List.toArray_eq_iff,List.cons.injEq,and_true]at e;obtain⟨rfl,rfl,rfl,rfl,rfl⟩:=e;obtain⟨N,p,v,m,h⟩:=f;simp only[Fml.op,Fml.name,Fml.val,Fml.bound,Fml.args]at*
 have hz:=BJ (.mk N p v m h);have b9:=Bz h;simp only[Fml.args]at hz;have hl:SlAt fmlR AV w (.slice sa h.length K) h:=⟨sa,K,L,rfl,hS,a1.1,fun i c g hi t=>⟨a1.2.1 c (List.mem_of_getElem? hi),a1.2.2 i c g hi t⟩⟩;have b8:oneC [iV N,AK p,iV v,iV m,.slice sa h.length K]:=oneC_fml _ _ _ _ _ _ _ rfl rfl rfl rfl;refine AG Tryz.func344 rfl Tryz.ntmps344 (go ?_);refine Ai (L:=[iV N,AK p,iV v,iV m,.slice sa h.length K]) rfl (fun w1 n1=>?_);refine AS (L:=zero5) (fun l n2=>?_);have z1:=n1.size;have z2:=n2.size;have e2:=n1.E.trans n2.E;have B1:=n1.D.E n2.E O;have B2:=n2.D;by_cases h3:N=3
 ·have ev:(if N=3 then v else 0)=v:=if_pos h3;have e3:=e2;have b5:l.heap.size=l.heap.size:=rfl;refine go ?_;refine W_make0S (n:=h.length) (DJ _ _) rfl rfl rfl rfl U U (fun w4 n4 z4 o4=>go ?_);refine Ah (α:=Nat×Value) (fun y=>[(1,pt j),(2,pt w.heap.size),(3,pt w1.heap.size),(4,y.2),(16,.slice sa h.length K),(17,iV (h.length:Int)),(18,iV (y.1:Int))]) (fun y W=>y.1<=h.length/\Ext l W/\Acc (fun b=>(l).heap.size<=b) fmlR 36 5 (l).heap.size W y.2 ((h.take y.1).map DI)) (fun y=>h.length-y.1) (0,.slice (sm ((l).heap.size)) 0 h.length) ag ⟨by omega,n4,⟨[],o4,RsAt.nil⟩⟩ ?_;rintro⟨k,u⟩W fr⟨hk,V,E⟩;simp only at hk V E;refine go ?_;by_cases a7:k<h.length
  ·obtain⟨x,T⟩:=gl a7;obtain⟨b,o,d,rfl,S,hd,X⟩:=hl.at (sz:=5) rfl T;obtain⟨z,A,C,M,D,rfl⟩:=Ab X.1;have b4:=BO (List.mem_of_getElem? T);have ew:=(e2).trans V;have a6:=hd.E ew O;refine go ?_;refine AQ (L:=[z,A,C,M,D]) rfl rfl a6 ?_;refine Au (cs:=[z,A,C,M,D]) rfl rfl Dx (fmlR.one X) (fun w5 I=>?_);have B5:=I.D;have e5:=ew.trans I.E;have a4:=b1.E e5 O;refine go ?_;refine Az (v1:=[]) (v2:=[pt j]) (vs:=[.agg [z,A,C,M,D].toArray]) rfl (ih w5 j [z,A,C,M,D] x U U a4 (X.2.ext e5) rfl) rfl ?_;rintro q w6⟨k6,f6⟩;obtain⟨cs,rfl,a5,ho6⟩:=f6.cells;obtain⟨s0,s1,s2,s3,s4,rfl⟩:=Ab a5;have z5:=I.size;refine AP (out:=[s0,s1,s2,s3,s4]) rfl U D4 (fun w7 n7=>?_);obtain⟨H,P,B⟩:=E.ex;have G:=(I.E.trans k6).trans n7.E;have b6:=G.size;have zW:=V.size;have b2:((h.take k).map DI).length=k:=by rw[List.length_map,List.length_take];omega
   refine Ap (ok:=AV) (v:=u) rfl rfl (Ae P G) (Aa (n7.own (n:=1) (size:=5) rfl D3 (Nat.le_refl _)) fun _ _=>trivial) U rfl rfl ho6 U U U (fun v8 w8 a8=>?_);have Q:∀y∈u.ownBlock.toList,(l).heap.size<=y/\y<W.heap.size:=fun y F=>Ad P (Option.mem_toList.1 F);exact Et
  ·obtain rfl:k=h.length:=by omega
   rw[List.take_length]at E;have E1:=(B1).E V O;have E2:=(B2).E V O;obtain⟨H,P,B⟩:=E.ex;have Q:∀g,u.ownBlock=some g->(l).heap.size<=g/\g<W.heap.size:=fun g t=>Ad P t;refine go ?_;refine AR (v:=u) rfl rfl (C3 P) E1 O (fun w8 s=>?_);have F1:Blk w8 w.heap.size 36 [iV N,AK p,iV v,iV m,u]:=s.D;have F2:=E2.E s.E Dw;have a0:Ext w w8:=((e2).trans V).E s.E O;refine go ?_
   have a9:oneC [iV N,AK p,iV v,iV m,u]:=by
    intro q hq;simp at hq;rcases hq with rfl|rfl|rfl|rfl|rfl<;>first|rfl|exact C3 P
   refine AH (cs:=[iV N,AK p,iV v,iV m,u]) rfl rfl rfl a9 F2 D0 (fun w9 p9=>go ?_);refine AU rfl rfl rfl p9.D.cells ⟨a0.E p9.E Dw,?_⟩;have e8:DI (.mk N p v m h)=⟨N,p,v,m,h.map DI⟩:=by rw[DI,shpL_eq,ev]
   rw[e8];have zW:=V.size;have b3:(h.map DI).length=h.length:=List.length_map ..;have a3:Sl (fun b=>(l).heap.size<=b) W u (h.map DI).length H.flatten:=Aa P fun g t=>(Q g t).1;have a2:FsAt (fun b=>(l).heap.size<=b) W H (h.map DI):=⟨B.1,B.len,fun i c g hi t=>((B.2 i c g hi t).2).mono fun b S=>S.1⟩;have hN:=FAt.node N p v m a3 a2;exact Fg
 ·have ev:(if N=3 then v else 0)=0:=if_neg h3;refine go ?_;refine AR (v:=iV 0) rfl rfl rfl B1 O (fun r p3=>?_);have e3:Ext w r:=e2.E p3.E O;have b5:=p3.size;have C1:Blk r w.heap.size 36 [iV N,AK p,iV 0,iV m,.slice sa h.length K]:=p3.D;have C2:=B2.E p3.E Dw;refine go ?_;refine W_make0S (n:=h.length) (DJ _ _) rfl rfl rfl rfl U U (fun w4 n4 z4 o4=>go ?_);refine Ah (α:=Nat×Value) (fun y=>[(1,pt j),(2,pt w.heap.size),(3,pt w1.heap.size),(4,y.2),(16,.slice sa h.length K),(17,iV (h.length:Int)),(18,iV (y.1:Int))]) (fun y W=>y.1<=h.length/\Ext r W/\Acc (fun b=>(r).heap.size<=b) fmlR 36 5 (r).heap.size W y.2 ((h.take y.1).map DI)) (fun y=>h.length-y.1) (0,.slice (sm ((r).heap.size)) 0 h.length) ag ⟨by omega,n4,⟨[],o4,RsAt.nil⟩⟩ ?_;rintro⟨k,u⟩W fr⟨hk,V,E⟩;simp only at hk V E;refine go ?_;by_cases a7:k<h.length
  ·obtain⟨x,T⟩:=gl a7;obtain⟨b,o,d,rfl,S,hd,X⟩:=hl.at (sz:=5) rfl T;obtain⟨z,A,C,M,D,rfl⟩:=Ab X.1;have b4:=BO (List.mem_of_getElem? T);have ew:=(e3).trans V;have a6:=hd.E ew O;refine go ?_;refine AQ (L:=[z,A,C,M,D]) rfl rfl a6 ?_;refine Au (cs:=[z,A,C,M,D]) rfl rfl Dx (fmlR.one X) (fun w5 I=>?_);have B5:=I.D;have e5:=ew.trans I.E;have a4:=b1.E e5 O;refine go ?_;refine Az (v1:=[]) (v2:=[pt j]) (vs:=[.agg [z,A,C,M,D].toArray]) rfl (ih w5 j [z,A,C,M,D] x U U a4 (X.2.ext e5) rfl) rfl ?_;rintro q w6⟨k6,f6⟩;obtain⟨cs,rfl,a5,ho6⟩:=f6.cells;obtain⟨s0,s1,s2,s3,s4,rfl⟩:=Ab a5;have z5:=I.size;refine AP (out:=[s0,s1,s2,s3,s4]) rfl U D4 (fun w7 n7=>?_);obtain⟨H,P,B⟩:=E.ex;have G:=(I.E.trans k6).trans n7.E;have b6:=G.size;have zW:=V.size;have b2:((h.take k).map DI).length=k:=by rw[List.length_map,List.length_take];omega
   refine Ap (ok:=AV) (v:=u) rfl rfl (Ae P G) (Aa (n7.own (n:=1) (size:=5) rfl D3 (Nat.le_refl _)) fun _ _=>trivial) U rfl rfl ho6 U U U (fun v8 w8 a8=>?_);have Q:∀y∈u.ownBlock.toList,(r).heap.size<=y/\y<W.heap.size:=fun y F=>Ad P (Option.mem_toList.1 F);exact Et
  ·obtain rfl:k=h.length:=by omega
   rw[List.take_length]at E;have E1:=(C1).E V O;have E2:=(C2).E V O;obtain⟨H,P,B⟩:=E.ex;have Q:∀g,u.ownBlock=some g->(r).heap.size<=g/\g<W.heap.size:=fun g t=>Ad P t;refine go ?_;refine AR (v:=u) rfl rfl (C3 P) E1 O (fun w8 s=>?_);have F1:Blk w8 w.heap.size 36 [iV N,AK p,iV 0,iV m,u]:=s.D;have F2:=E2.E s.E Dw;have a0:Ext w w8:=((e3).trans V).E s.E O;refine go ?_
   have a9:oneC [iV N,AK p,iV 0,iV m,u]:=by
    intro q hq;simp at hq;rcases hq with rfl|rfl|rfl|rfl|rfl<;>first|rfl|exact C3 P
   refine AH (cs:=[iV N,AK p,iV 0,iV m,u]) rfl rfl rfl a9 F2 D0 (fun w9 p9=>go ?_);refine AU rfl rfl rfl p9.D.cells ⟨a0.E p9.E Dw,?_⟩;have e8:DI (.mk N p v m h)=⟨N,p,0,m,h.map DI⟩:=by rw[DI,shpL_eq,ev]
   rw[e8];have zW:=V.size;have b3:(h.map DI).length=h.length:=List.length_map ..;have a3:Sl (fun b=>(r).heap.size<=b) W u (h.map DI).length H.flatten:=Aa P fun g t=>(Q g t).1;have a2:FsAt (fun b=>(r).heap.size<=b) W H (h.map DI):=⟨B.1,B.len,fun i c g hi t=>((B.2 i c g hi t).2).mono fun b S=>S.1⟩;have hN:=FAt.node N p 0 m a3 a2;exact Fg
theorem shape_ok(w:World)(v:Value)(f:Fml)(K:FAt AV w v f)(o:szF f<=1000000):Fn Zp 341 [v] w fun u w'=>Ext w w'/\FAt (fun b=>w.heap.size<=b) w' u (DI f):=by
 obtain⟨c,rfl,j,F⟩:=K.cells;obtain⟨T,R,h,l,a,rfl⟩:=Ab j;refine AG Tryz.func341 rfl Tryz.ntmps341 (go ?_);refine Ai (L:=[T,R,h,l,a]) rfl (fun G E=>?_);refine AS (L:=zero5) (fun d N=>go ?_);refine AS (fun H Z=>?_);have X:=E.size;have M:=N.size;have A:=Z.size;have z:=(E.E.trans N.E).trans Z.E;refine go ?_;refine AR (v:=.func (.func 344) #[] #[pt d.heap.size]) rfl rfl rfl Z.D O (fun e m=>?_);have V:Ext w e:=z.E m.E Dw;have k:=((E.D.E N.E O).E Z.E O).E m.E Dw;have r:=(N.D.E Z.E O).E m.E Dw;have n:Blk e d.heap.size 50 [.func (.func 344) #[] #[pt d.heap.size]]:=m.D;have z4:=m.size;refine go ?_;refine Az (v1:=[]) (v2:=[pt d.heap.size]) (vs:=[.agg [T,R,h,l,a].toArray]) rfl (shape1_ok _ e d.heap.size [T,R,h,l,a] f (Nat.le_refl _) o n (K.ext V) rfl) rfl ?_;rintro q I⟨Q,P⟩;obtain⟨p,rfl,x,s⟩:=P.cells;obtain⟨C,g,D,t,i,rfl⟩:=Ab x;refine AH (cs:=[C,g,D,t,i]) rfl rfl rfl s (r.E Q O) D0 (fun W S=>go ?_);exact AU rfl rfl rfl S.D.cells ⟨(V.trans Q).E S.E Dw,(P.E S.E (fun b B y=>by rw[List.mem_singleton]at y;omega)).mono fun b B=>by omega⟩
end
theorem shapeW_ok(w:World)(v:Value)(f:Fml)(K:FAt AV w v f)(o:szF f<=1000000):Fn Zp 341 [v] w fun u w'=>Ext w w'/\FAt (fun b=>w.heap.size<=b/\Unm w' b) w' u (DI f):=by
 refine Fn.mono (@shape_ok True strMK w v f K o) fun u w' h=>?_;exact⟨@Keep.weak False weakMK strMK _ _ _ h.1,h.2.mono fun b S=>⟨S,@Keep.fresh strMK _ _ _ h.1 _ S⟩⟩
theorem conj_ok(w:World)(v:Value)(f:Fml)(d:FAt AV w v f):Fn Zp 340 [v] w fun u w'=>Ext w w'/\SlAt fmlR AV w' u (conjF f):=by
 obtain⟨p,rfl,L,j,b⟩:=d.form;obtain⟨a,K,rfl,_⟩:=id j;have o:oneC [iV f.op,AK f.name,iV f.val,iV f.bound,.slice a f.args.length K]:=oneC_fml _ _ _ _ _ _ _ rfl rfl rfl rfl;refine AG Tryz.func340 rfl Tryz.ntmps340 (go ?_);refine Ai (L:=[iV f.op,AK f.name,iV f.val,iV f.bound,.slice a f.args.length K]) rfl (fun R E=>?_);have k:=E.D;refine go ?_;unfold conjF;by_cases X:f.op=1
 ·rw[if_pos X];refine go ?_;exact AB rfl ⟨E.E,none,0,[],rfl,⟨none,0,rfl,Nat.le_refl _,by omega,fun _=>rfl,.inl rfl⟩,RsAt.nil⟩
 ·rw[if_neg X];by_cases S:f.op=5
  ·rw[if_pos S];refine go ?_;exact AB rfl ⟨E.E,a,K,L,rfl,j.ext E.E,b.1,fun i c g H t=>⟨b.2.1 c (List.mem_of_getElem? H),(b.2.2 i c g H t).ext E.E⟩⟩
  ·rw[if_neg S];refine go ?_;refine AP (out:=[iV f.op,AK f.name,iV f.val,iV f.bound,.slice a f.args.length K]) rfl U D4 (fun e N=>?_);refine go ?_;have A:=E.E.trans N.E;exact AB rfl ⟨A,some ⟨R.heap.size,0,none⟩,1,[[iV f.op,AK f.name,iV f.val,iV f.bound,.slice a f.args.length K]],rfl,sl_new N,RsAt.one ⟨rfl,d.ext A⟩⟩
theorem same1_ok(w:World)(d:LV)(m:Fml)(X:Nat)(M:Fml)(cs:LV)(z:Nat->Prop)(C:fmlR.fits AV w d m)(e:Blk w X 36 cs)(D:fmlR.fits z w cs M)(n:∀b,z b->Unm w b)(o:szF m<=1000000):
  Fn Zp 343 [.agg d.toArray,pt X] w fun u w'=>u=.bool (decide (BY m M=0))/\Ext w w':=by
 obtain⟨T,g,c,h,a,rfl⟩:=Ab C.1;obtain⟨y,I,N,p,q,rfl⟩:=Ab D.1;have f:=D.2.lt;refine AG Tryz.func343 rfl Tryz.ntmps343 (go ?_);refine Ai (L:=[T,g,c,h,a]) rfl (fun R E=>?_);have k:=E.D;have i:=e.E E.E O;refine go ?_;refine AE (DO R _ _ m M AV _ (C.2.ext E.E) (f.ext E.E) (.inr fun b S=>(n b S.1).eq (E.E.block b S.2 O)) o) rfl ?_;rintro _ j⟨rfl,l⟩;have A:=E.E.trans l;by_cases s:BY m M=0
 ·refine go ?_;exact AB rfl ⟨by rw[decide_eq_true s];rfl,A⟩
 ·refine go ?_;exact AB rfl ⟨by rw[decide_eq_false s];rfl,A⟩
theorem can_sz{f:Fml}(h:(Bc f).op≠0):szF (Bc f)<=400:=by
 obtain⟨X,W⟩:=canG_op h;rw[W];exact(BG (loose_canon X)).1
theorem conj_sz{f c:Fml}(V:c∈conjF f):szF c<=szF f:=by
 unfold conjF at V
 split at V
 ·cases V
 ·split at V
  ·have:=BO V;have h:=BJ f;omega
  ·simp at V;rw[V];exact Nat.le_refl _
theorem conj_len(f:Fml):(conjF f).length<=szF f/\szL (conjF f)<=szF f:=by
 have h:=BJ f;have W:=Bz f.args;unfold conjF
 split
 ·simp[szL]
 ·split
  ·omega
  ·simp[szL];omega
mutual
theorem shp_sz:∀f:Fml,szF (DI f)=szF f
 | .mk op nm v b args=>by
  rw[BJ,BJ,DI];show szL (shpL args)+1=szL args+1;rw[shpL_sz args]
theorem shpL_sz:∀l:LF,szL (shpL l)=szL l
 | []=>rfl
 |a::l=>by simp only[shpL,szL,shp_sz a,shpL_sz l]
end
theorem szL_filter(p:Fml->Bool):∀l:LF,szL (l.filter p)<=szL l
 | []=>Nat.le_refl _
 |a::l=>by
  have:=szL_filter p l;rw[List.filter_cons]
  split
  ·simp only[szL];omega
  ·simp only[szL];omega
set_option maxHeartbeats 1000000 in
theorem pending_ok(w:World)(d:LV)(y:Dty)(hd:dtyR.fits AV w d y)(hG:GF w)(hK:KY w)(hN:10<=w.heap.size):
  Fn Zp 338 [.agg d.toArray] w fun u w'=>Ext w w'/\FAt (fun b=>w.heap.size<=b) w' u (Cq y.first y.now):=by
 have hd:=dtyR.lt hd;have f0:=dtyR.one hd;obtain⟨q0,q1,q2,q3,q4,a0,a1,a2,a3,a4,b0,b1,b2,b3,b4,rfl,f1,f2,f3⟩:=dty19 hd;refine AG Tryz.func338 rfl Tryz.ntmps338 (go ?_);refine Ai (L:=[AK y.req.part,AK y.req.name,iV y.req.kind,q0,q1,q2,q3,q4,iV y.since,a0,a1,a2,a3,a4,b0,b1,b2,b3,b4]) rfl (fun w1 n1=>?_);refine AS (L:=zero5) (fun w2 n2=>?_);have z1:=n1.size;have z2:=n2.size;have e2:Ext w w2:=n1.E.trans n2.E;have B1:=n1.D.E n2.E O;have B2:=n2.D;refine go ?_;refine AX (.read 0 (.read 1 (.read 3 (.read 4 (.alt 2 (.alt 5 (.alt 6 (.alt 7 (.alt 8 (.alt 9 .done .stop) .stop) .stop) (.alt 7 (.alt 6 (.alt 8 (.alt 9 .done .stop) .stop) .stop) .stop)) (.alt 6 (.alt 5 (.alt 7 (.alt 8 (.alt 9 .done .stop) .stop) .stop) (.alt 7 (.alt 5 (.alt 8 (.alt 9 .done .stop) .stop) .stop) .stop)) (.alt 7 (.alt 5 (.alt 6 (.alt 8 (.alt 9 .done .stop) .stop) .stop) (.alt 6 (.alt 5 (.alt 8 (.alt 9 .done .stop) .stop) .stop) .stop)) .stop))) (.alt 6 (.alt 2 (.alt 5 (.alt 7 (.alt 8 (.alt 9 .done .stop) .stop) .stop) (.alt 7 (.alt 5 (.alt 8 (.alt 9 .done .stop) .stop) .stop) .stop)) (.alt 7 (.alt 2 (.alt 5 (.alt 8 (.alt 9 .done .stop) .stop) .stop) .stop) .stop)) (.alt 7 (.alt 2 (.alt 5 (.alt 6 (.alt 8 (.alt 9 .done .stop) .stop) .stop) (.alt 6 (.alt 5 (.alt 8 (.alt 9 .done .stop) .stop) .stop) .stop)) (.alt 6 (.alt 2 (.alt 5 (.alt 8 (.alt 9 .done .stop) .stop) .stop) .stop) .stop)) .stop))))))) An Dv (fun H kd ed=>⟨Ext H,?_,?_⟩)
 ·exact Ew
 have B1d:=B1.E kd O;have c8:=B2.E kd O;have c2:Cells H w.heap.size (0+9) [a0,a1,a2,a3,a4]:=B1d.cells.part 9 5;have c3:Cells H w.heap.size (0+14) [b0,b1,b2,b3,b4]:=B1d.cells.part 14 5;have a7:=e2.trans kd;have f2d:FAt AV H (.agg [a0,a1,a2,a3,a4].toArray) y.first:=(f2.ext a7).mono fun _ _=>trivial
 have Z:FAt AV H (.agg [b0,b1,b2,b3,b4].toArray) y.now:=(f3.ext a7).mono fun _ _=>trivial;have T:=hG.ext a7;have hKd:=hK.E a7 O;have hNd:=Nat.le_trans hN a7.size;have zd:=kd.size;have k0:Ext H H:=Ext.refl H;refine go ?_;refine D_R (v:=.agg [a0,a1,a2,a3,a4].toArray) rfl rfl (fun V hV=>by refine AQ (L:=[a0,a1,a2,a3,a4]) rfl rfl (c2.E hV O) ?_;exact AA ⟨rfl,rfl,rfl⟩) ?_;refine go ?_;refine D_R (v:=.agg [b0,b1,b2,b3,b4].toArray) rfl rfl (fun V hV=>by refine AQ (L:=[b0,b1,b2,b3,b4]) rfl rfl (c3.E hV O) ?_;exact AA ⟨rfl,rfl,rfl⟩) ?_;refine go ?_
 refine D_leaf (α:=Nat×Nat×Value×Value×Value×Value×Value×Value×Value×Value×Value×Value) (.alt 8 (.alt 9 .done .stop) .stop) (fun u=>[(2,pt w1.heap.size),(3,pt u.1),(4,pt u.2.1),(14,.agg [u.2.2.1,u.2.2.2.1,u.2.2.2.2.1,u.2.2.2.2.2.1,u.2.2.2.2.2.2.1].toArray),(17,.agg [u.2.2.2.2.2.2.2.1,u.2.2.2.2.2.2.2.2.1,u.2.2.2.2.2.2.2.2.2.1,u.2.2.2.2.2.2.2.2.2.2.1,u.2.2.2.2.2.2.2.2.2.2.2].toArray)])
  (fun u V=>Ext H V/\H.heap.size<=u.1/\H.heap.size<=u.2.1/\u.1≠u.2.1/\Blk V u.1 36 zero5/\Blk V u.2.1 36 zero5/\FAt (fun b=>H.heap.size<=b/\b≠u.1/\b≠u.2.1) V (.agg [u.2.2.1,u.2.2.2.1,u.2.2.2.2.1,u.2.2.2.2.2.1,u.2.2.2.2.2.2.1].toArray) (Bc y.first)/\FAt (fun b=>H.heap.size<=b/\b≠u.1/\b≠u.2.1) V (.agg [u.2.2.2.2.2.2.2.1,u.2.2.2.2.2.2.2.2.1,u.2.2.2.2.2.2.2.2.2.1,u.2.2.2.2.2.2.2.2.2.2.1,u.2.2.2.2.2.2.2.2.2.2.2].toArray) (Bc y.now)) ?_ (fun leaf=>?_)
 rotate_left
 ·refine id ?_;refine D_A rfl ?_ ?_
  ·refine AE (BN H _ y.first (f2d.ext k0) (T.ext k0) (hKd.E k0 O) (Nat.le_trans hNd k0.size)) rfl ?_;rintro ua V1⟨j1,D⟩;have D:=D.lt;have z1:=j1.size;obtain⟨csa,rfl,hcsa, -⟩:=D.cells;obtain⟨Q,F,P,t,i,rfl⟩:=Ab hcsa;have f:=k0.trans j1;refine wNl f ?_;refine D_A rfl ?_ ?_
   ·refine AE (BN V1 _ y.now (Z.ext f) (T.ext f) (hKd.E f O) (Nat.le_trans hNd f.size)) rfl ?_;rintro ub B⟨m,I⟩;have I:=I.lt;have z2:=m.size;obtain⟨csb,rfl,E, -⟩:=I.cells;obtain⟨C,s,X,z,n,rfl⟩:=Ab E;have l:=f.trans m;refine wNl l ?_;refine D_A rfl ?_ ?_
    ·refine AS (L:=zero5) (fun r G=>?_);have A:=G.size;have M:=G.E;have g:=l.trans M;refine wNl g ?_;refine D_E rfl ?_;refine AS (L:=zero5) (fun K p=>?_);have z4:=p.size;have N:=p.E;have j:=g.trans N;refine wNl j ?_;exact leaf (B.heap.size,r.heap.size,Q,F,P,t,i,C,s,X,z,n) _ _ ag ⟨j,by simp only;omega,by simp only;omega,by simp only;omega,(G.D.E N O),p.D,((((D.ext m).ext M).ext N).mono fun b S=>by simp only;omega),(((I.ext M).ext N).mono fun b S=>by simp only;omega)⟩
    ·refine D_E rfl ?_;refine AS (L:=zero5) (fun r p=>?_);have A:=p.size;have M:=p.E;have g:=l.trans M;refine wNl g ?_;refine D_E rfl ?_;refine AS (L:=zero5) (fun K G=>?_);have z4:=G.size;have N:=G.E;have j:=g.trans N;refine wNl j ?_;exact leaf (r.heap.size,B.heap.size,Q,F,P,t,i,C,s,X,z,n) _ _ ag ⟨j,by simp only;omega,by simp only;omega,by simp only;omega,G.D,(p.D.E N O),((((D.ext m).ext M).ext N).mono fun b S=>by simp only;omega),(((I.ext M).ext N).mono fun b S=>by simp only;omega)⟩
   ·refine D_A rfl ?_ ?_
    ·refine AS (L:=zero5) (fun B G=>?_);have z2:=G.size;have m:=G.E;have l:=f.trans m;refine wNl l ?_;refine D_A rfl ?_ ?_
     ·refine AE (BN B _ y.now (Z.ext l) (T.ext l) (hKd.E l O) (Nat.le_trans hNd l.size)) rfl ?_;rintro ub r⟨M,I⟩;have I:=I.lt;have A:=M.size;obtain⟨csb,rfl,E, -⟩:=I.cells;obtain⟨C,s,X,z,n,rfl⟩:=Ab E;have g:=l.trans M;refine wNl g ?_;refine D_E rfl ?_;refine AS (L:=zero5) (fun K p=>?_);have z4:=p.size;have N:=p.E;have j:=g.trans N;refine wNl j ?_;exact leaf (V1.heap.size,r.heap.size,Q,F,P,t,i,C,s,X,z,n) _ _ ag ⟨j,by simp only;omega,by simp only;omega,by simp only;omega,((G.D.E M O).E N O),p.D,((((D.ext m).ext M).ext N).mono fun b S=>by simp only;omega),((I.ext N).mono fun b S=>by simp only;omega)⟩
     ·refine D_E rfl ?_;refine AS (L:=zero5) (fun r p=>?_);have A:=p.size;have M:=p.E;have g:=l.trans M;refine wNl g ?_;refine D_E rfl ?_;refine AE (BN r _ y.now (Z.ext g) (T.ext g) (hKd.E g O) (Nat.le_trans hNd g.size)) rfl ?_;rintro ub K⟨N,I⟩;have I:=I.lt;have z4:=N.size;obtain⟨csb,rfl,E, -⟩:=I.cells;obtain⟨C,s,X,z,n,rfl⟩:=Ab E;have j:=g.trans N;refine wNl j ?_;exact leaf (V1.heap.size,B.heap.size,Q,F,P,t,i,C,s,X,z,n) _ _ ag ⟨j,by simp only;omega,by simp only;omega,by simp only;omega,((G.D.E M O).E N O),(p.D.E N O),((((D.ext m).ext M).ext N).mono fun b S=>by simp only;omega),(I.mono fun b S=>by simp only;omega)⟩
    ·refine D_E rfl ?_;refine AS (L:=zero5) (fun B p=>?_);have z2:=p.size;have m:=p.E;have l:=f.trans m;refine wNl l ?_;refine D_A rfl ?_ ?_
     ·refine AE (BN B _ y.now (Z.ext l) (T.ext l) (hKd.E l O) (Nat.le_trans hNd l.size)) rfl ?_;rintro ub r⟨M,I⟩;have I:=I.lt;have A:=M.size;obtain⟨csb,rfl,E, -⟩:=I.cells;obtain⟨C,s,X,z,n,rfl⟩:=Ab E;have g:=l.trans M;refine wNl g ?_;refine D_E rfl ?_;refine AS (L:=zero5) (fun K G=>?_);have z4:=G.size;have N:=G.E;have j:=g.trans N;refine wNl j ?_;exact leaf (r.heap.size,V1.heap.size,Q,F,P,t,i,C,s,X,z,n) _ _ ag ⟨j,by simp only;omega,by simp only;omega,by simp only;omega,G.D,((p.D.E M O).E N O),((((D.ext m).ext M).ext N).mono fun b S=>by simp only;omega),((I.ext N).mono fun b S=>by simp only;omega)⟩
     ·refine D_E rfl ?_;refine AS (L:=zero5) (fun r G=>?_);have A:=G.size;have M:=G.E;have g:=l.trans M;refine wNl g ?_;refine D_E rfl ?_;refine AE (BN r _ y.now (Z.ext g) (T.ext g) (hKd.E g O) (Nat.le_trans hNd g.size)) rfl ?_;rintro ub K⟨N,I⟩;have I:=I.lt;have z4:=N.size;obtain⟨csb,rfl,E, -⟩:=I.cells;obtain⟨C,s,X,z,n,rfl⟩:=Ab E;have j:=g.trans N;refine wNl j ?_;exact leaf (B.heap.size,V1.heap.size,Q,F,P,t,i,C,s,X,z,n) _ _ ag ⟨j,by simp only;omega,by simp only;omega,by simp only;omega,(G.D.E N O),((p.D.E M O).E N O),((((D.ext m).ext M).ext N).mono fun b S=>by simp only;omega),(I.mono fun b S=>by simp only;omega)⟩
  ·refine D_A rfl ?_ ?_
   ·refine AS (L:=zero5) (fun V1 G=>?_);have z1:=G.size;have j1:=G.E;have f:=k0.trans j1;refine wNl f ?_;refine D_A rfl ?_ ?_
    ·refine AE (BN V1 _ y.first (f2d.ext f) (T.ext f) (hKd.E f O) (Nat.le_trans hNd f.size)) rfl ?_;rintro ua B⟨m,D⟩;have D:=D.lt;have z2:=m.size;obtain⟨csa,rfl,hcsa, -⟩:=D.cells;obtain⟨Q,F,P,t,i,rfl⟩:=Ab hcsa;have l:=f.trans m;refine wNl l ?_;refine D_A rfl ?_ ?_
     ·refine AE (BN B _ y.now (Z.ext l) (T.ext l) (hKd.E l O) (Nat.le_trans hNd l.size)) rfl ?_;rintro ub r⟨M,I⟩;have I:=I.lt;have A:=M.size;obtain⟨csb,rfl,E, -⟩:=I.cells;obtain⟨C,s,X,z,n,rfl⟩:=Ab E;have g:=l.trans M;refine wNl g ?_;refine D_E rfl ?_;refine AS (L:=zero5) (fun K p=>?_);have z4:=p.size;have N:=p.E;have j:=g.trans N;refine wNl j ?_;exact leaf (H.heap.size,r.heap.size,Q,F,P,t,i,C,s,X,z,n) _ _ ag ⟨j,by simp only;omega,by simp only;omega,by simp only;omega,(((G.D.E m O).E M O).E N O),p.D,(((D.ext M).ext N).mono fun b S=>by simp only;omega),((I.ext N).mono fun b S=>by simp only;omega)⟩
     ·refine D_E rfl ?_;refine AS (L:=zero5) (fun r p=>?_);have A:=p.size;have M:=p.E;have g:=l.trans M;refine wNl g ?_;refine D_E rfl ?_;refine AE (BN r _ y.now (Z.ext g) (T.ext g) (hKd.E g O) (Nat.le_trans hNd g.size)) rfl ?_;rintro ub K⟨N,I⟩;have I:=I.lt;have z4:=N.size;obtain⟨csb,rfl,E, -⟩:=I.cells;obtain⟨C,s,X,z,n,rfl⟩:=Ab E;have j:=g.trans N;refine wNl j ?_;exact leaf (H.heap.size,B.heap.size,Q,F,P,t,i,C,s,X,z,n) _ _ ag ⟨j,by simp only;omega,by simp only;omega,by simp only;omega,(((G.D.E m O).E M O).E N O),(p.D.E N O),(((D.ext M).ext N).mono fun b S=>by simp only;omega),(I.mono fun b S=>by simp only;omega)⟩
    ·refine D_E rfl ?_;refine AS (L:=zero5) (fun B p=>?_);have z2:=p.size;have m:=p.E;have l:=f.trans m;refine wNl l ?_;refine D_E rfl ?_;refine AE (BN B _ y.first (f2d.ext l) (T.ext l) (hKd.E l O) (Nat.le_trans hNd l.size)) rfl ?_;rintro ua r⟨M,D⟩;have D:=D.lt;have A:=M.size;obtain⟨csa,rfl,hcsa, -⟩:=D.cells;obtain⟨Q,F,P,t,i,rfl⟩:=Ab hcsa;have g:=l.trans M;refine wNl g ?_;refine D_E rfl ?_;refine AE (BN r _ y.now (Z.ext g) (T.ext g) (hKd.E g O) (Nat.le_trans hNd g.size)) rfl ?_;rintro ub K⟨N,I⟩;have I:=I.lt;have z4:=N.size;obtain⟨csb,rfl,E, -⟩:=I.cells;obtain⟨C,s,X,z,n,rfl⟩:=Ab E;have j:=g.trans N;refine wNl j ?_;exact leaf (H.heap.size,V1.heap.size,Q,F,P,t,i,C,s,X,z,n) _ _ ag ⟨j,by simp only;omega,by simp only;omega,by simp only;omega,(((G.D.E m O).E M O).E N O),((p.D.E M O).E N O),((D.ext N).mono fun b S=>by simp only;omega),(I.mono fun b S=>by simp only;omega)⟩
   ·refine D_E rfl ?_;refine AS (L:=zero5) (fun V1 p=>?_);have z1:=p.size;have j1:=p.E;have f:=k0.trans j1;refine wNl f ?_;refine D_A rfl ?_ ?_
    ·refine AE (BN V1 _ y.first (f2d.ext f) (T.ext f) (hKd.E f O) (Nat.le_trans hNd f.size)) rfl ?_;rintro ua B⟨m,D⟩;have D:=D.lt;have z2:=m.size;obtain⟨csa,rfl,hcsa, -⟩:=D.cells;obtain⟨Q,F,P,t,i,rfl⟩:=Ab hcsa;have l:=f.trans m;refine wNl l ?_;refine D_A rfl ?_ ?_
     ·refine AE (BN B _ y.now (Z.ext l) (T.ext l) (hKd.E l O) (Nat.le_trans hNd l.size)) rfl ?_;rintro ub r⟨M,I⟩;have I:=I.lt;have A:=M.size;obtain⟨csb,rfl,E, -⟩:=I.cells;obtain⟨C,s,X,z,n,rfl⟩:=Ab E;have g:=l.trans M;refine wNl g ?_;refine D_E rfl ?_;refine AS (L:=zero5) (fun K G=>?_);have z4:=G.size;have N:=G.E;have j:=g.trans N;refine wNl j ?_;exact leaf (r.heap.size,H.heap.size,Q,F,P,t,i,C,s,X,z,n) _ _ ag ⟨j,by simp only;omega,by simp only;omega,by simp only;omega,G.D,(((p.D.E m O).E M O).E N O),(((D.ext M).ext N).mono fun b S=>by simp only;omega),((I.ext N).mono fun b S=>by simp only;omega)⟩
     ·refine D_E rfl ?_;refine AS (L:=zero5) (fun r G=>?_);have A:=G.size;have M:=G.E;have g:=l.trans M;refine wNl g ?_;refine D_E rfl ?_;refine AE (BN r _ y.now (Z.ext g) (T.ext g) (hKd.E g O) (Nat.le_trans hNd g.size)) rfl ?_;rintro ub K⟨N,I⟩;have I:=I.lt;have z4:=N.size;obtain⟨csb,rfl,E, -⟩:=I.cells;obtain⟨C,s,X,z,n,rfl⟩:=Ab E;have j:=g.trans N;refine wNl j ?_;exact leaf (B.heap.size,H.heap.size,Q,F,P,t,i,C,s,X,z,n) _ _ ag ⟨j,by simp only;omega,by simp only;omega,by simp only;omega,(G.D.E N O),(((p.D.E m O).E M O).E N O),(((D.ext M).ext N).mono fun b S=>by simp only;omega),(I.mono fun b S=>by simp only;omega)⟩
    ·refine D_E rfl ?_;refine AS (L:=zero5) (fun B G=>?_);have z2:=G.size;have m:=G.E;have l:=f.trans m;refine wNl l ?_;refine D_E rfl ?_;refine AE (BN B _ y.first (f2d.ext l) (T.ext l) (hKd.E l O) (Nat.le_trans hNd l.size)) rfl ?_;rintro ua r⟨M,D⟩;have D:=D.lt;have A:=M.size;obtain⟨csa,rfl,hcsa, -⟩:=D.cells;obtain⟨Q,F,P,t,i,rfl⟩:=Ab hcsa;have g:=l.trans M;refine wNl g ?_;refine D_E rfl ?_;refine AE (BN r _ y.now (Z.ext g) (T.ext g) (hKd.E g O) (Nat.le_trans hNd g.size)) rfl ?_;rintro ub K⟨N,I⟩;have I:=I.lt;have z4:=N.size;obtain⟨csb,rfl,E, -⟩:=I.cells;obtain⟨C,s,X,z,n,rfl⟩:=Ab E;have j:=g.trans N;refine wNl j ?_;exact leaf (V1.heap.size,H.heap.size,Q,F,P,t,i,C,s,X,z,n) _ _ ag ⟨j,by simp only;omega,by simp only;omega,by simp only;omega,((G.D.E M O).E N O),(((p.D.E m O).E M O).E N O),((D.ext N).mono fun b S=>by simp only;omega),(I.mono fun b S=>by simp only;omega)⟩
 rintro⟨c3,c4,Q,F,P,t,i,C,s,X,z,n⟩f' V⟨eV,h3,h4,d4,E3,E4,fa,fb⟩;simp only at h3 h4 d4 E3 E4 fa fb;have zV:=eV.size;have E2:=c8.E eV O;obtain rfl:=fa.op0;obtain rfl:=fb.op0;refine D_E rfl ?_;refine AH (cs:=[iV (Bc y.first).op,F,P,t,i]) rfl rfl rfl (fmlR.one ⟨rfl,fa⟩) E3 D0 (fun V1 p1=>?_);have F3:Blk V1 c3 36 [iV (Bc y.first).op,F,P,t,i]:=p1.D;have x1:Ext H V1:=eV.E p1.E Dw;refine wNl x1 ?_;refine D_E rfl ?_;refine AH (cs:=[iV (Bc y.now).op,s,X,z,n]) rfl rfl rfl (fmlR.one ⟨rfl,fb⟩) (E4.E p1.E Dw) D0 (fun B p2=>?_);have F4:Blk B c4 36 [iV (Bc y.now).op,s,X,z,n]:=p2.D;have x2:Ext H B:=x1.E p2.E Dw;replace F3:=F3.E p2.E Dw;have d1:=(fa.E p1.E (fun b S hm=>by rw[List.mem_singleton]at hm;exact S.2.1 hm)).E p2.E (fun b S hm=>by rw[List.mem_singleton]at hm;exact S.2.2 hm);have d2:=(fb.E p1.E (fun b S hm=>by rw[List.mem_singleton]at hm;exact S.2.1 hm)).E p2.E (fun b S hm=>by rw[List.mem_singleton]at hm;exact S.2.2 hm);have F2:=(E2.E p1.E Dw).E p2.E Dw;have y2:=a7.trans x2;refine wNl x2 ?_;have hzer:∀{W:World},Cq y.first y.now=Ag->Ext B W->True:=fun _ _=>trivial
 unfold Cq;by_cases c1:(Bc y.first).op=0
 ·rw[if_pos (.inl c1)];exact Fj
 by_cases c2:(Bc y.now).op=0
 ·rw[if_pos (.inr c2)];exact Fj
 rw[if_neg (fun h=>h.elim c1 c2)];have sA:=can_sz c1;have sB:=can_sz c2;refine go ?_;refine AE (conj_ok B _ (Bc y.first) (d1.mono fun _ _=>trivial)) rfl ?_;rintro u3 r⟨M,hA⟩;have y3:=y2.trans M;obtain⟨ca,cc,rfl,_⟩:=hA.len;have d5:=conj_len (Bc y.first);have b6:∀c∈conjF (Bc y.first),szF c<=400:=fun c hc=>Nat.le_trans (conj_sz hc) sA;unfold pendL;generalize conjF (Bc y.first)=LA at hA d5 b6⊢;refine go ?_;refine Ah (α:=Nat×Value) (fun u=>[(2,pt w1.heap.size),(4,pt c4),(5,u.2),(28,.slice ca LA.length cc),(29,iV (LA.length:Int)),(30,iV (u.1:Int))]) (fun u W=>u.1<=LA.length/\Ext r W/\Acc AV fmlR 36 5 r.heap.size W u.2 ((LA.take u.1).map DI)) (fun u=>LA.length-u.1) (0,.slice none 0 0) ag ⟨by simp,Ext.refl _,⟨[],⟨rfl,.inl ⟨rfl,rfl⟩⟩,RsAt.nil⟩⟩ ?_;rintro⟨k,v⟩W fr⟨hk,kW,hac⟩;simp only at hk kW hac;refine go ?_;by_cases e3:k<LA.length
 ·obtain⟨x,hx⟩:=gl e3;obtain⟨b,o,d,rfl,S,hd,a5⟩:=hA.at (sz:=5) rfl hx;obtain⟨g0,g1,g2,g3,g4,rfl⟩:=Ab a5.1;have b8:=hd.E kW O;refine go ?_;refine AQ (L:=[g0,g1,g2,g3,g4]) rfl rfl b8 ?_;refine Au (cs:=[g0,g1,g2,g3,g4]) rfl rfl Dx (fmlR.one a5) (fun w5 n5=>?_);have B5:=n5.D;have e5:=kW.trans n5.E;have z5:=n5.size;refine go ?_;refine AE (shapeW_ok w5 _ x (a5.2.ext e5) (Nat.le_trans (b6 x (List.mem_of_getElem? hx)) U)) rfl ?_;rintro q w6⟨k6,f6⟩;obtain⟨cs,rfl,hcs,b9⟩:=f6.cells;obtain⟨m0,m1,m2,m3,m4,rfl⟩:=Ab hcs;refine AP (out:=[m0,m1,m2,m3,m4]) rfl U D4 (fun w7 n7=>?_);obtain⟨LL,oA,fA⟩:=hac.ex;have k57:=(n5.E.trans k6).trans n7.E;have f4:=k57.size;have zW:=kW.size;have hll:((LA.take k).map DI).length=k:=by rw[List.length_map,List.length_take];omega
  refine Ap (ok:=AV) (v:=v) rfl rfl (Ae oA k57) (sl_new n7) U rfl rfl b9 U U U (fun v8 w8 a8=>?_);have hX:∀y∈v.ownBlock.toList,r.heap.size<=y/\y<W.heap.size:=fun y hy=>Ad oA (Option.mem_toList.1 hy);have hP:=Acc.push (R:=fmlR) oA fA k57 (c:=[m0,m1,m2,m3,m4]) (a:=DI x) ⟨rfl,(f6.ext n7.E).mono fun b S=>⟨trivial,fun e=>by have:=Ad oA e;omega⟩⟩ a8;refine go ?_;refine⟨(k+1,v8),⟨rfl,ag,⟨by simp only;omega,(kW.trans k57).E a8.E (fun y hy=>(hX y hy).1),?_⟩⟩,by simp only;omega⟩;simp only;have htk:LA.take (k+1)=LA.take k++[x]:=by rw[List.take_add_one,hx];rfl
  rw[htk,List.map_append];exact hP
 ·obtain rfl:k=LA.length:=by omega
  rw[List.take_length]at hac;have G4:=(F4.E M O).E kW O;have d3:=(d2.ext M).ext kW;refine go ?_;refine AE (conj_ok W _ (Bc y.now) (d3.mono fun _ _=>trivial)) rfl ?_;rintro u4 K⟨N,hB⟩;have c7:=kW.trans N;obtain⟨da,dc,rfl,_⟩:=hB.len;obtain⟨d6,d7⟩:=conj_len (Bc y.now);have hBz:∀c∈conjF (Bc y.now),szF c<=400:=fun c hc=>Nat.le_trans (conj_sz hc) sB;generalize conjF (Bc y.now)=LB at hB d6 d7 hBz⊢;have b7:=(hac.ext N).sl;obtain⟨na,G,rfl,_⟩:=b7.len
  have c5:∀c∈LA.map DI,szF c<=1000000:=fun c hc=>by
   obtain⟨x,hx,rfl⟩:=List.mem_map.1 hc;have:=b6 x hx;rw[shp_sz];omega
  have d8:(LA.map DI).length<=400:=by rw[List.length_map];omega
  generalize LA.map DI=KN at b7 c5 d8⊢;refine go ?_;refine Ah (α:=Nat×Value) (fun u=>[(2,pt w1.heap.size),(5,.slice na KN.length G),(8,u.2),(41,.slice da LB.length dc),(42,iV (LB.length:Int)),(43,iV (u.1:Int))]) (fun u W=>u.1<=LB.length/\Ext K W/\Acc AV fmlR 36 5 K.heap.size W u.2 ((LB.take u.1).filter (pendB KN))) (fun u=>LB.length-u.1) (0,.slice none 0 0) ag ⟨by simp,Ext.refl _,⟨[],⟨rfl,.inl ⟨rfl,rfl⟩⟩,RsAt.nil⟩⟩ ?_;rintro⟨k,v⟩W2 e9⟨hk,a6,a9⟩;simp only at hk a6 a9;refine go ?_;by_cases e4:k<LB.length
  ·obtain⟨x,hx⟩:=gl e4;obtain⟨b,o,d,rfl,S,hd,a5⟩:=hB.at (sz:=5) rfl hx;obtain⟨g0,g1,g2,g3,g4,rfl⟩:=Ab a5.1;have b8:=hd.E a6 O;have htk:LB.take (k+1)=LB.take k++[x]:=by rw[List.take_add_one,hx];rfl
   refine go ?_;refine AQ (L:=[g0,g1,g2,g3,g4]) rfl rfl b8 ?_;refine Au (cs:=[g0,g1,g2,g3,g4]) rfl rfl Dx (fmlR.one a5) (fun w5 n5=>?_);have B5:=n5.D;have e5:=a6.trans n5.E;have z5:=n5.size;refine go ?_;refine AE (shapeW_ok w5 _ x (a5.2.ext e5) (Nat.le_trans (hBz x (List.mem_of_getElem? hx)) U)) rfl ?_;rintro q w6⟨k6,f6⟩;obtain⟨cs,rfl,hcs,b9⟩:=f6.cells;obtain⟨m0,m1,m2,m3,m4,rfl⟩:=Ab hcs;refine Au (cs:=[m0,m1,m2,m3,m4]) rfl rfl Dx b9 (fun w7 n7=>?_);have f7:=f6.lt.ext n7.E;have e7:=(e5.trans k6).trans n7.E;have c9:=(B5.E k6 O).E n7.E O;have B7:=n7.D;refine go ?_;refine AE (hasF_ok w7 na G KN 343 [] [pt w6.heap.size] (fun kf=>decide (BY kf (DI x)=0)) (b7.ext e7) U (fun Wc dd kf e1 eW d9=>?_)) rfl ?_
   ·have f8:=f7.lt.ext eW;exact same1_ok Wc dd kf w6.heap.size (DI x) _ _ d9 (B7.E eW O) ⟨rfl,f8⟩ (fun b S=>(S.1.1.2.eq (n7.E.block b S.1.2 O)).eq (eW.block b S.2 O)) (c5 kf e1)
   rintro _ w8⟨rfl,k8⟩;have e8:=e7.trans k8;have B58:=c9.E k8 O;have z8:=e8.size;have b5:=((n5.E.trans k6).trans n7.E).trans k8;have f5:=b5.size;obtain⟨LL,oA,fA⟩:=a9.ex;have hX:∀y∈v.ownBlock.toList,K.heap.size<=y/\y<W2.heap.size:=fun y hy=>Ad oA (Option.mem_toList.1 hy);have hll:((LB.take k).filter (pendB KN)).length<=400:=by have:=List.length_filter_le (pendB KN) (LB.take k);rw[List.length_take]at this;omega
   cases hp:KN.any (fun kf=>decide (BY kf (DI x)=0))with
   |true=>
    have c0:pendB KN x=false:=by unfold pendB;rw[hp];rfl
    refine go ?_;refine⟨(k+1,v),⟨rfl,ag,⟨by simp only;omega,a6.trans b5,?_⟩⟩,by simp only;omega⟩;simp only;rw[htk,List.filter_append];simp only[List.filter_cons,c0,List.filter_nil,List.append_nil,Bool.false_eq_true,if_false];exact a9.ext b5
   |false=>
    have c0:pendB KN x=true:=by unfold pendB;rw[hp];rfl
    refine go ?_;refine AP (out:=[g0,g1,g2,g3,g4]) rfl U D4 (fun w9 n9=>?_);have z9:=n9.size;have k9:=b5.trans n9.E;refine Ap (ok:=AV) (v:=v) rfl rfl (Ae oA k9) (sl_new n9) U rfl rfl (fmlR.one a5) U U U (fun v8 e6 a8=>?_);have hP:=Acc.push (R:=fmlR) oA fA k9 (c:=[g0,g1,g2,g3,g4]) (a:=x) ⟨rfl,((a5.2.lt.ext a6).ext k9).mono fun b S=>⟨trivial,fun e=>by have:=Ad oA e;omega⟩⟩ a8;refine go ?_;refine⟨(k+1,v8),⟨rfl,ag,⟨by simp only;omega,(a6.trans k9).E a8.E (fun y hy=>(hX y hy).1),?_⟩⟩,by simp only;omega⟩;simp only;rw[htk,List.filter_append];simp only[List.filter_cons,c0,List.filter_nil,if_true];exact hP
  ·obtain rfl:k=LB.length:=by omega
   rw[List.take_length]at a9;have y4:=(y3.trans c7).trans a6;have hS:=a9.sl;obtain⟨d0,fc,rfl,_⟩:=hS.len;have e0:szL (LB.filter (pendB KN))<=1000:=Nat.le_trans (szL_filter _ LB) U;have H2:=((F2.E M O).E c7 O).E a6 O;refine go ?_;refine AE (andor_ok W2 5 d0 fc (LB.filter (pendB KN)) hS (.inr e0) (hG.ext y4) (hK.E y4 O) (Nat.le_trans hN y4.size)).1 rfl ?_;rintro u10 e6⟨c6,f10⟩;obtain⟨cs,rfl,hcs,hone10⟩:=f10.cells;obtain⟨r0,r1,r2,r3,r4,rfl⟩:=Ab hcs;have h1:=H2.lt;refine AH (cs:=[r0,r1,r2,r3,r4]) rfl rfl rfl hone10 (H2.E c6 O) D0 (fun w11 p11=>?_);have y10:=y4.trans c6;have z4:=y4.size;refine go ?_;exact AU rfl rfl rfl p11.D.cells ⟨y10.E p11.E Dw,(f10.E p11.E (fun b S hm=>by rw[List.mem_singleton]at hm;have:=S.1;omega)).mono (ok':=fun b=>w.heap.size<=b) fun b S=>by have:=S.1;omega⟩
def fx3(y:Dty):List (Nat×Value):=[(0,AK y.req.part),(1,AK y.req.name),(2,iV y.req.kind),(8,iV y.since)]
theorem ocopied_ok(w:World)(d:LV)(Y:Dty)(X:Nat->Prop)(hd:dtyR.fits X w d Y)(hz:szF Y.req.formula+szF Y.first+szF Y.now<=1000000):
  Fn Zp 38 [.agg d.toArray] w fun u w'=>∃e:LV,u=.agg e.toArray/\Ext w w'/\dtyR.fits (fun b=>X b\/w.heap.size<=b) w' e Y:=by
 have d5:=dtyR.lt hd;have f5:=dtyR.one hd;obtain⟨q0,q1,q2,q3,q4,a0,a1,a2,a3,a4,b0,b1,b2,b3,b4,rfl,f1,f2,f3⟩:=dty19 d5;refine AG Tryz.func38 rfl Tryz.ntmps38 (go ?_);refine Ai (L:=[AK Y.req.part,AK Y.req.name,iV Y.req.kind,q0,q1,q2,q3,q4,iV Y.since,a0,a1,a2,a3,a4,b0,b1,b2,b3,b4]) rfl (fun R n1=>?_);refine AS (fun m n2=>?_);have z1:=n1.size;have z2:=n2.size;have kk:=n1.E.trans n2.E;have B1:=n1.D.E n2.E O;obtain⟨G,e9,b7⟩:∃G:LV,Blk m R.heap.size 40 G/\G.length=19:=⟨_,n2.D,rfl⟩;refine go ?_;refine CT (out:=[.pointer (some ⟨w.heap.size,0+0+3,none⟩),.pointer (some ⟨w.heap.size,0+9,none⟩),.pointer (some ⟨w.heap.size,0+14,none⟩)]) rfl U rfl rfl (fun w3 Z=>?_);have z3:=Z.size;have k3:=kk.trans Z.E;have I:=B1.E Z.E O
 have M:Cpy X w.heap.size m.heap.size R.heap.size 40 G (fx3 Y) [(w.heap.size,3,Y.req.formula),(w.heap.size,9,Y.first),(w.heap.size,14,Y.now)] [(w.heap.size,3,Y.req.formula),(w.heap.size,9,Y.first),(w.heap.size,14,Y.now)] w3 (.slice (sm m.heap.size) 3 3):=by
  have r:∀b,X b/\b<w.heap.size->cok X w.heap.size R.heap.size (Value.slice (sm m.heap.size) 3 3) b:=fun b S=>⟨.inl S.1,by omega,by simp[Value.ownBlock];omega⟩;have C:cok X w.heap.size R.heap.size (Value.slice (sm m.heap.size) 3 3) w.heap.size:=⟨.inr (Nat.le_refl _),by omega,by simp[Value.ownBlock];omega⟩;have p1:PF (cok X w.heap.size R.heap.size (Value.slice (sm m.heap.size) 3 3)) w3 w.heap.size 3 Y.req.formula:=⟨C,_,rfl,(by have:=I.cells.part 3 5;simpa using this),(f1.ext k3).mono r⟩;have p2:PF (cok X w.heap.size R.heap.size (Value.slice (sm m.heap.size) 3 3)) w3 w.heap.size 9 Y.first:=⟨C,_,rfl,(by have:=I.cells.part 9 5;simpa using this),(f2.ext k3).mono r⟩
  have p3:PF (cok X w.heap.size R.heap.size (Value.slice (sm m.heap.size) 3 3)) w3 w.heap.size 14 Y.now:=⟨C,_,rfl,(by have:=I.cells.part 14 5;simpa using this),(f3.ext k3).mono r⟩
  have hin:∀p∈[(w.heap.size,3,Y.req.formula),(w.heap.size,9,Y.first),(w.heap.size,14,Y.now)],p.1=w.heap.size/\PF (cok X w.heap.size R.heap.size (Value.slice (sm m.heap.size) 3 3)) w3 p.1 p.2.1 p.2.2:=by
   intro p hp;simp at hp;rcases hp with rfl|rfl|rfl
   ·exact⟨rfl,p1⟩
   ·exact⟨rfl,p2⟩
   ·exact⟨rfl,p3⟩
  refine⟨Z.own (n:=3) (size:=1) (B:=m.heap.size) rfl D3 (Nat.le_refl _),fun p hp'=>(hin p (hp'.elim id id)).2,fun p hp'=>?_,e9.E Z.E O,by omega,fun q hq=>?_,fun q hq a n c e=>?_⟩
  ·rw[(hin p hp').1];exact⟨Nat.le_refl _,_,_,I⟩
  ·simp[fx3]at hq;rcases hq with rfl|rfl|rfl|rfl<;>exact I.cell rfl
  ·simp[fx3]at hq;rcases hq with rfl|rfl|rfl|rfl<;>cases e
 have e8:wtP [(w.heap.size,3,Y.req.formula),(w.heap.size,9,Y.first),(w.heap.size,14,Y.now)]<=1000000:=by simp[wtP];omega
 refine go ?_
 refine Ah (α:=List Pn×List Pn×Value) (fun y=>[(1,pt w.heap.size),(2,pt R.heap.size),(3,y.2.2)])
  (fun y W=>Ext w W/\(∀p∈[(w.heap.size,3,Y.req.formula),(w.heap.size,9,Y.first),(w.heap.size,14,Y.now)],p∈y.2.1)/\wtP y.1<=1000000/\Cpy X w.heap.size m.heap.size R.heap.size 40 G (fx3 Y) y.2.1 y.1 W y.2.2) (fun y=>wtP y.1) ([(w.heap.size,3,Y.req.formula),(w.heap.size,9,Y.first),(w.heap.size,14,Y.now)],[(w.heap.size,3,Y.req.formula),(w.heap.size,9,Y.first),(w.heap.size,14,Y.now)],.slice (sm m.heap.size) 3 3) ag ⟨k3,fun p h=>h,e8,M⟩ ?_
 rintro⟨ps,rs,v⟩W fr⟨kW,C,hw,M⟩;simp only at C hw M;have ho:=M.own;obtain⟨va,j,rfl,f8,f9,g0,e6⟩:=Aa (ok:=AV) ho fun _ _=>trivial;refine go ?_;by_cases h0:ps≠[]
 ·obtain⟨N,p,rfl⟩:=last_of h0;have hl:(N++[p]).length=N.length+1:=by simp
  obtain⟨a2,cap2,A,hP,hA,T,L,S⟩:=M.pop;rw[hl]at A;cases A;obtain⟨H,f,rfl, -,e7⟩:=e6.resolve_left U;have f6:W.cell? ⟨H,f+N.length,none⟩=some (ptrV p):=e7 _ _ O;have hj:(((N++[p]).length:Nat):Int)-1=(N.length:Int):=by omega
  obtain⟨g,o,x⟩:=p;have a6:=hP.all (g,o,x) (.inl O);simp only at a6 hA S;obtain⟨b5,d,hd,hcd,d9⟩:=id a6;obtain⟨f0,A,L2,hS2,a5,h52,b9⟩:=d9.form;obtain⟨d0,d1,d2,d3,d4,rfl⟩:=Ab hd;simp only[Value.agg.injEq,List.toArray_eq_iff,List.cons.injEq,and_true]at A;obtain⟨rfl,rfl,rfl,rfl,rfl⟩:=A;obtain⟨aa,cc,rfl,r1,r2,r3,r4⟩:=id hS2;have a7:W.cell? ⟨g,o+4,none⟩=some (.slice aa x.args.length cc):=hcd 4 _ rfl;have hF2:FsAt (cok X w.heap.size R.heap.size (Value.slice (some ⟨H,f,none⟩) N.length j)) W L2 x.args:=⟨a5,h52,b9⟩;have g4:wtP N+szF x=wtP (N++[(g,o,x)]):=by rw[wtP_app];simp[wtP]
  have g6:=BJ x;have g7:=Bz x.args;have f7:=wtP_len N;refine go ?_;have ht:((((N++[(g,o,x)]).length:Nat):Int)-1).toNat=N.length:=by omega
  rw[ht];refine AE (clone_ok W aa cc x.args L2 _ hS2 hF2 U) rfl ?_;rintro u w4⟨k4,o4⟩;have l:Sl (fun b=>W.heap.size<=b) w4 u x.args.length L2.flatten:=Aa o4 fun b S=>(Ad o4 S).1;obtain⟨ua,uc,rfl,u1,u2,u3,u4⟩:=id l;have c4:=hP.ext k4;have hb4:=S.E k4 O;have g1:(Value.slice (some ⟨H,f,none⟩) N.length j).ownBlock≠some R.heap.size:=fun e=>by have:=(Ad hP.own e).1;omega
  have hgW:=S.lt;have zW:=kW.size;have g2:R.heap.size<W.heap.size:=M.D.lt;have hLg:=S.un a7;have c3:=(List.getElem?_eq_some_iff.1 hLg).1;refine go ?_;refine AR (v:=.slice ua x.args.length uc) rfl rfl rfl hb4 c3 (fun w5 s=>?_)
  have hcp:∀(n:Nat)(L:List (LV)),L.flatten.length=n*5->Sl (cok X w.heap.size R.heap.size (Value.slice (some ⟨H,f,none⟩) N.length j)) w4 (.slice aa x.args.length cc) n L.flatten->Sl (cok X w.heap.size R.heap.size (Value.slice (some ⟨H,f,none⟩) N.length j)) w5 (.slice ua x.args.length uc) n L.flatten:=fun n L hL h=>by
   refine cpy_of (hS2.ext k4) (by rw[CM 5 L2 h52,a5]) ?_ n L hL h;exact(l.E s.E (fun b S r=>by rw[List.mem_singleton]at r;omega)).mono fun b S=>⟨.inr U,by omega,fun e=>by have:=(Ad hP.own e).2;omega⟩
  have hR:=Rtg.of_put hb4 (k4.cell a7 O) ⟨_,_,_,rfl⟩ s hcp;have c5:=c4.store hR s b5.2.1 b5.2.2;have c9:w5.cell? ⟨g,o+4,none⟩=some (.slice ua x.args.length uc):=hR.new;have e5:Ext w w5:=(kW.trans k4).E s.E Dw
  obtain⟨Q,D,b6⟩:∃Q D,0<x.args.length->ua=some ⟨Q,D,none⟩/\w.heap.size<=Q/\∃T L,Blk w5 Q T L:=by
   by_cases g5:x.args.length=0
   ·exact⟨0,0,fun h=>by omega⟩
   ·rcases o4.2 with⟨_,h⟩|⟨g',cap',b8,e,h1,h2, -⟩
    ·omega
    ·cases e;have e2:g'≠g:=fun e=>by omega
     have c7:Blk w4 g' 36 b8.toList:=by simpa[Blk]using h2
     exact⟨g',0,fun _=>⟨rfl,by omega,_,_,c7.E s.E (by simpa using e2)⟩⟩
  refine go ?_
  refine Ah (α:=Nat×Value) (fun y=>[(1,pt w.heap.size),(2,pt R.heap.size),(3,y.2),(4,.pointer (some ⟨g,o,none⟩)),(37,iV (x.args.length:Int)),(38,iV (y.1:Int))])
   (fun y V=>y.1<=x.args.length/\Ext w V/\V.cell? ⟨g,o+4,none⟩=some (.slice ua x.args.length uc)/\(0<x.args.length->∃T L,Blk V Q T L)/\Cpy X w.heap.size m.heap.size R.heap.size 40 G (fx3 Y) ((g,o,x)::rs) (N++chP Q D 0 (x.args.take y.1)) V y.2) (fun y=>x.args.length-y.1) (0,.slice (some ⟨H,f,none⟩) N.length j) ag ⟨by simp,e5,c9,fun h=>(b6 h).2.2,by simpa[chP]using c5⟩ ?_
  rintro⟨k,v⟩V fr⟨hk,kV,hcV,hbV,z⟩;simp only at hk hcV z;refine go ?_;by_cases e1:k<x.args.length
  ·obtain⟨y,F⟩:=gl e1;obtain⟨rfl,e4, -⟩:=b6 U;have hgx:=z.all (g,o,x) (.inl O);obtain⟨g8,g9,e,hch⟩:=hgx.child hcV F;cases e;have e0:=hgx.1.2.2;have huo:=hch.1.2.2;refine go ?_;refine CT (out:=[.pointer (some ⟨Q,D+k*5,none⟩)]) rfl U rfl rfl (fun w6 E=>?_);have f4:(N++chP Q D 0 (x.args.take k)).length=N.length+k:=by rw[List.length_append,chP_len,List.length_take];omega
   have hX:∀y,y∈v.ownBlock.toList->v.ownBlock=some y:=fun y F=>Option.mem_toList.1 F;have z6:=E.size;have zV:m.heap.size<=V.heap.size:=by have:=z.D.lt;omega
   refine Ap (v:=v) rfl rfl (Ae z.own E.E) (Aa (ok:=AV) (E.own (n:=1) (size:=1) rfl D3 (Nat.le_refl _)) fun _ _=>trivial) U rfl rfl (AW rfl) U U U (fun v8 w8 a8=>?_);have hCp:=z.push (p:=(Q,D+k*5,y)) E.E a8 hch ⟨e4,hbV U⟩ fun e=>by have:=(Ad z.own e).1;omega
   have c6:∀y∈v.ownBlock.toList,w.heap.size<=y:=fun y F=>by have:=(Ad z.own (hX y F)).1;have:=M.ab;omega
   refine go ?_;refine⟨(k+1,v8),⟨rfl,ag,⟨by simp only;omega,(kV.trans E.E).E a8.E c6,a8.E.cell (E.E.cell hcV O) (fun r=>e0 (hX _ r)),fun h=>?_,?_⟩⟩,by simp only;omega⟩
   ·obtain⟨T,L,S⟩:=hbV h;exact⟨T,L,(S.E E.E O).E a8.E fun r=>huo (hX _ r)⟩
   ·simp only;have e3:x.args.take (k+1)=x.args.take k++[y]:=by rw[List.take_add_one,F];rfl
    rw[e3,chP_snoc,List.length_take,Nat.min_eq_left hk,Nat.zero_add,<-List.append_assoc];exact hCp
  ·obtain rfl:k=x.args.length:=by omega
   rw[List.take_length]at z;refine go ?_;have g3:wtP (N++chP Q D 0 x.args)=wtP N+szL x.args:=by rw[wtP_app,chP_wt]
   exact⟨(N++chP Q D 0 x.args,(g,o,x)::rs,v),⟨rfl,ag,⟨kV,fun p hp=>List.mem_cons_of_mem _ (C p hp),by simp only;omega,z⟩⟩,by simp only;omega⟩
 ·have h0:ps=[]:=Classical.not_not.1 h0;subst h0;have hl:([]:List Pn).length=0:=rfl;refine go ?_;obtain⟨⟨-, -, -⟩,d1,hd1,K,d6⟩:=M.all (w.heap.size,3,Y.req.formula) (.inl (C _ O));obtain⟨⟨-, -, -⟩,d2,hd2,P,d7⟩:=M.all (w.heap.size,9,Y.first) (.inl (C _ O));obtain⟨⟨-, -, -⟩,d3,hd3,hc3,d8⟩:=M.all (w.heap.size,14,Y.now) (.inl (C _ O));obtain⟨u0,u1,u2,u3,u4,rfl⟩:=Ab hd1;obtain⟨v0,v1,v2,v3,v4,rfl⟩:=Ab hd2;obtain⟨m0,m1,m2,m3,m4,rfl⟩:=Ab hd3;have c0:=M.fix (0,AK Y.req.part) (by simp[fx3]);have c1:=M.fix (1,AK Y.req.name) (by simp[fx3]);have c2:=M.fix (2,iV Y.req.kind) (by simp[fx3]);have c8:=M.fix (8,iV Y.since) (by simp[fx3])
  have hcs:Cells W w.heap.size 0 [AK Y.req.part,AK Y.req.name,iV Y.req.kind,u0,u1,u2,u3,u4,iV Y.since,v0,v1,v2,v3,v4,m0,m1,m2,m3,m4]:=by
   intro i u l;rw[Nat.zero_add]
   match i,l with
   |0,l=>rw[<-Option.some.inj l];exact c0
   |1,l=>rw[<-Option.some.inj l];exact c1
   |2,l=>rw[<-Option.some.inj l];exact c2
   |3,l=>exact K 0 u l
   |4,l=>exact K 1 u l
   |5,l=>exact K 2 u l
   |6,l=>exact K 3 u l
   |7,l=>exact K 4 u l
   |8,l=>rw[<-Option.some.inj l];exact c8
   |9,l=>exact P 0 u l
   |10,l=>exact P 1 u l
   |11,l=>exact P 2 u l
   |12,l=>exact P 3 u l
   |13,l=>exact P 4 u l
   |14,l=>exact hc3 0 u l
   |15,l=>exact hc3 1 u l
   |16,l=>exact hc3 2 u l
   |17,l=>exact hc3 3 u l
   |18,l=>exact hc3 4 u l
   |i+19,l=>simp at l
  have hfit:=dty_of (p:=Y.req.part) (n:=Y.req.name) (k:=Y.req.kind) (t:=Y.since) d6 d7 d8;refine AQ (L:=[AK Y.req.part,AK Y.req.name,iV Y.req.kind,u0,u1,u2,u3,u4,iV Y.since,v0,v1,v2,v3,v4,m0,m1,m2,m3,m4]) rfl rfl hcs ?_;refine AH (cs:=[AK Y.req.part,AK Y.req.name,iV Y.req.kind,u0,u1,u2,u3,u4,iV Y.since,v0,v1,v2,v3,v4,m0,m1,m2,m3,m4]) rfl rfl rfl (dtyR.one hfit) M.D (by simp[b7]) (fun w9 p9=>?_);have a9:=p9.D;rw[BV G _ (by rw[b7];rfl)]at a9;refine go ?_;exact AU rfl rfl rfl a9.cells ⟨_,rfl,kW.E p9.E Dw,dtyR.mono (dtyR.E hfit p9.E (fun b S r=>by rw[List.mem_singleton]at r;exact S.2.1 r)) fun b S=>S.1⟩
section
attribute [local semireducible] WC AT Bo BI Bj Cw DV Be
variable {P:Program}{all:Array Oper}{Z:Fr->DS->List PanicEntry->World->Prop}{K:Fr->DS->World->Prop}{rest:List Oper}{f:Fr}{ds:DS}{w:World}{d:Nat}{ty:TypeId}{pos:String}{af:Array Edge}
def nptr:TypeDesc->Bool
 | .pointer _=>false
 |_=>true
class MethT (P:Program) (T:TypeId) (name:String) (g:outParam FuncId):Prop where
 out:((P.info? T).bind fun i=>(i.methods.find? (·.name==name)).map fun m=>(m.path,m.func))=some (#[],some (g,false))
 und:∃d,P.underlying T=some d/\nptr d=true
theorem meth_row{T:TypeId}{name:String}{g:FuncId}[hT:MethT P T name g]:∃i m,P.info? T=some i/\i.methods.find? (·.name==name)=some m/\m.path= #[]/\m.func=some (g,false):=by
 have h:=hT.out;cases hi:P.info? T with
 |none=>rw[hi]at h;cases h
 |some i=>
  rw[hi]at h;simp only[Option.bind_some]at h;cases hm:i.methods.find? (·.name==name)with
  |none=>rw[hm]at h;cases h
  |some m=>
   rw[hm]at h;simp only[Option.map_some,Option.some.injEq,Prod.mk.injEq]at h;exact⟨i,m,rfl,hm,h.1,h.2⟩
theorem run_receiver{T:TypeId}{v:Value}{o:Option String}{Q:TypeDesc}(X:P.underlying T=some Q)(W:nptr Q=true):(receiverAt T (.val v) false o).run P w=.ok v w:=by
 simp only[receiverAt,Sem.run_bind,run_underlying X,Result.andThen_ok];cases Q<;>first|(cases W;done)|simp[Place.get]
theorem run_method{T:TypeId}{name:String}{g:FuncId}{v:Value}[hT:MethT P T name g]:(method (P.types.size+Made.depth) T v name).run P w=.ok (g,v) w:=by
 obtain⟨i,m,X,W,Q,z⟩:=meth_row (P:=P) (T:=T) (name:=name) (g:=g);obtain⟨a,S,V⟩:=hT.und;rw[show P.types.size+Made.depth=(P.types.size+99)+1 from rfl];generalize P.types.size+99=n;have e:(typeInfo T).run P w=.ok i w:=by simp[typeInfo,X]
 have A:(follow ([]:List FieldStep) T (.val v)).run P w=.ok (T,.val v) w:=by simp[follow]
 have E:=fun o=>run_receiver (P:=P) (w:=w) (v:=v) (o:=o) S V;unfold method;simp only[Sem.run_bind,e,Result.andThen_ok,W,Q,z];simp only[A,Result.andThen_ok,E,Sem.run_pure]
theorem W_invoke{T:TypeId}{name:String}{g:FuncId}{v:Value}{x:Operand}{xs:List Operand}{B:Array TypeId}{vs:LV}{R:Value->World->Prop}[hT:MethT P T name g][hg:AF P g]
  (b:ev f x=.iface T v)(V:Fn P g (v::vs) w R)(I:evL f xs=vs)(h:∀v w',R v w'->AT P all Z K rest (upd f d v) ds w'):
  AT P all Z K (⟨some d,.call ⟨.invoke x name,xs.toArray,B⟩,ty,pos,af,none⟩::rest) f ds w:=by
 obtain⟨j,X,W,Q⟩:=hg.out
 have a:(execOp (ev f) ⟨some d,.call ⟨.invoke x name,xs.toArray,B⟩,ty,pos,af,none⟩).run P w=.ok (.enter g (v::vs).toArray) w:=by
  rw[evL_map]at I;simp only[execOp,resolve,b,Sem.run_bind,Sem.run_pure,Result.andThen_ok,invoke,callMethod];simp[run_method (P:=P) (T:=T) (name:=name) (g:=g),callFunc,program,Sem.run,X,W,Q,<-I];exact List.take_of_length_le O
 unfold AT;simp only[BH,if_true,Be,a];refine Calls.mono V fun e w' F=>?_;cases e with
 |returned v=>exact h v w' F
 |panicked ch=>exact F.elim
 |outgrown=>exact F
theorem W_someeql{R C a:TypeId}{X:Value}{x:Operand}[hT:IfT P R](c:ev f x=.iface a X)(h:AT P all Z K rest (upd f d (.bool false)) ds w):
  AT P all Z K (⟨some d,.binOp .eql R x (.const .nilIface) C,ty,pos,af,none⟩::rest) f ds w:=by
 obtain⟨e,b⟩:=hT.out;refine Aw rfl ?_ h
 have T:(Op.equalIn Op.maxDepth R (.iface a X) .nilIface).run P w=.ok false w:=by
  rw[show Op.maxDepth=9999+1 from rfl];generalize 9999=n;unfold Op.equalIn;simp[run_underlying b]
 have F:ev f (.const .nilIface)=.nilIface:=rfl;simp[execOp,c,F,eqGuard,binOp,Op.equal,T]
theorem W_makeMeth{name:String}{u:List Operand}{v1:LV}(X:evL f u=v1)(h:AT P all Z K rest (upd f d (.func (.method name) v1.toArray #[])) ds w):
  AT P all Z K (⟨some d,.makeFunc (.method name) u.toArray #[],ty,pos,af,none⟩::rest) f ds w:=by
 refine Aw rfl ?_ h;rw[evL_map]at X;simp[execOp,Instr.makeFunc,<-X]
theorem run_nilAhead{T:TypeId}{name:String}{g:FuncId}{v:Value}[hT:MethT P T name g]:(nilAhead (P.types.size+Made.depth) T v name).run P w=.ok (some false) w:=by
 obtain⟨i,m,X,W,a,z⟩:=meth_row (P:=P) (T:=T) (name:=name) (g:=g);obtain⟨Q,S,V⟩:=hT.und;rw[show P.types.size+Made.depth=(P.types.size+99)+1 from rfl];generalize P.types.size+99=n;have e:(typeInfo T).run P w=.ok i w:=by simp[typeInfo,X]
 unfold nilAhead;simp only[Sem.run_bind,e,Result.andThen_ok,W,a,z];simp only[followBlind,Sem.run_pure,Result.andThen_ok];simp only[Sem.run_bind,run_underlying S,Result.andThen_ok];cases Q<;>first|(cases V;done)|rfl
theorem W_nilCheckM{T:TypeId}{name:String}{g:FuncId}{v:Value}{x:Operand}[hT:MethT P T name g](b:ev f x=.func (.method name) #[.iface T v] #[])(h:AT P all Z K rest (upd f d (.func (.method name) #[.iface T v] #[])) ds w):
  AT P all Z K (⟨some d,.nilCheck x,ty,pos,af,none⟩::rest) f ds w:=by
 refine Aw rfl ?_ h;simp only[execOp,b];have:=run_nilAhead (P:=P) (w:=w) (T:=T) (name:=name) (g:=g) (v:=v);have a:(program).run P w=.ok P w:=rfl;have u:((#[Value.iface T v]:Array Value)[0]?:Option Value)=some (.iface T v):=rfl;simp only[u];simp only[Sem.run_bind,a,Result.andThen_ok,this];rfl
end
instance ifChange:IfT Zp 69:=⟨_,Tryz.underlying69⟩
instance mtCheck:MethT Zp 133 "foresight/owe.check" 333:=⟨by kernel_rfl,_,Tryz.underlying133,rfl⟩
instance mtClash:MethT Zp 133 "foresight/owe.clash" 334:=⟨by kernel_rfl,_,Tryz.underlying133,rfl⟩
instance mtMake:MethT Zp 133 "foresight/owe.make" 335:=⟨by kernel_rfl,_,Tryz.underlying133,rfl⟩
theorem inForce_ok(w:World)(d:LV)(y:Dty)(C:dtyR.fits AV w d y):Fn Zp 37 [.agg d.toArray] w fun u w'=>u=.bool (decide (y.req.kind=1)||decide (y.req.kind=2))/\Ext w w':=by
 obtain⟨f,h,i,r,Q,H,a,t,T,v,g,m,b,c,e,rfl, -, -, -⟩:=dty19 C;refine AG Tryz.func37 rfl Tryz.ntmps37 (go ?_);refine Ai (L:=[AK y.req.part,AK y.req.name,iV y.req.kind,f,h,i,r,Q,iV y.since,H,a,t,T,v,g,m,b,c,e]) rfl (fun R E=>?_);have k:=E.D;by_cases X:y.req.kind=1
 ·rw[decide_eq_true X];exact Fa
 ·rw[decide_eq_false X];by_cases W:y.req.kind=2
  ·rw[decide_eq_true W];exact Fa
  ·rw[decide_eq_false W];exact Fa
theorem tfits_ok(w:World)(d:Option Addr)(K:Nat)(S:List Sgn)(b tv v:Value)(f:Fml)(j:SlAt sgnR AV w (.slice d S.length K) S)(h:FAt AV w v f)(X:b.oneCell'=true)(W:tv.oneCell'=true)(C:GF w)(l:KY w)(e:10<=w.heap.size):
  Fn Zp 72 [.agg [.slice d S.length K,b,tv].toArray,v] w fun u w'=>u=.bool (decide ((runG S f []).op≠0))/\Ext w w':=by
 obtain⟨c,rfl,m,o⟩:=h.cells;obtain⟨T,R,p,t,a,rfl⟩:=Ab m;refine AG Tryz.func72 rfl Tryz.ntmps72 (go ?_);refine Ai (L:=[.slice d S.length K,b,tv]) rfl (fun F i=>?_);refine Ai (L:=[T,R,p,t,a]) rfl (fun n N=>?_);have A:=i.E.trans N.E;have B:=i.D.E N.E O;have r:=N.D;refine go ?_;refine AE (Run_ok n d K S _ f none 0 [] (j.ext A) (h.ext A) (C.ext A) (l.E A O) (Nat.le_trans e A.size) ⟨none,0,rfl,Nat.le_refl _,by omega,fun _=>rfl,.inl rfl⟩) rfl ?_;rintro u G⟨g,k⟩;obtain⟨D,rfl,x, -⟩:=k.cells;obtain⟨y,I,z,M,q,rfl⟩:=Ab x;obtain rfl:=k.op0;refine W_field rfl (show[iV (runG S f []).op,I,z,M,q][0]?=some (iV (runG S f []).op)from rfl) ?_;have E:=A.trans g;by_cases s:(runG S f []).op=0
 ·rw[decide_eq_false U];refine go ?_;exact AB rfl ⟨by rfl,E⟩
 ·rw[decide_eq_true s];refine go ?_;exact AB rfl ⟨by rfl,E⟩
def hitB(nm:LU)(y:Dty):Bool:=(decide (y.req.kind=1)||decide (y.req.kind=2))&&decide (y.req.name=nm)
theorem ofind1_ok(w:World)(d:LV)(y:Dty)(G:Nat)(nm:LU)(C:dtyR.fits AV w d y)(S:Blk w G 9 [AK nm]):Fn Zp 74 [.agg d.toArray,pt G] w fun u w'=>u=.bool (hitB nm y)/\Ext w w':=by
 have n:=C;obtain⟨f,h,X,r,Q,H,a,t,T,v,g,m,b,c,e,rfl, -, -, -⟩:=dty19 C;refine AG Tryz.func74 rfl Tryz.ntmps74 (go ?_);refine Ai (L:=[AK y.req.part,AK y.req.name,iV y.req.kind,f,h,X,r,Q,iV y.since,H,a,t,T,v,g,m,b,c,e]) rfl (fun R E=>?_);have k:=E.D;refine go ?_;refine AE (inForce_ok R _ y (dtyR.ext n E.E)) rfl ?_;rintro _ j⟨rfl,l⟩;have i:=k.E l O;have A:=E.E.trans l;have z:=S.E A O;unfold hitB;cases hk:(decide (y.req.kind=1)||decide (y.req.kind=2))with
 |false=>
  refine go ?_;exact AB rfl ⟨rfl,A⟩
 |true=>
  refine go ?_;refine Bn rfl rfl (fun V=>?_) (fun V=>?_)
  ·refine go ?_;exact AB rfl ⟨by rw[decide_eq_true V];rfl,A⟩
  ·refine go ?_;exact AB rfl ⟨by rw[decide_eq_false V];rfl,A⟩
theorem ofind_ok(w:World)(sv:Value)(a:Option Addr)(c:Nat)(l:List Dty)(tv:Value)(nm:LU)(M:SlAt dtyR AV w (.slice a l.length c) l)(G:l.length<=1000):
  Fn Zp 36 [.agg [sv,.slice a l.length c,tv].toArray,AK nm] w fun u w'=>u=iV (fidxI l (hitB nm))/\Ext w w':=by
 refine AG Tryz.func36 rfl Tryz.ntmps36 (go ?_);refine Ai (L:=[sv,.slice a l.length c,tv]) rfl (fun R E=>?_);refine Ai (L:=[AK nm]) rfl (fun b N=>?_);have A:=E.E.trans N.E;have k:=E.D.E N.E O;have r:=N.D;refine go ?_;refine AE (idxD_ok b a c l 74 [] [pt R.heap.size] (hitB nm) (M.ext A) U (fun W d y F D C=>ofind1_ok W d y _ nm C (r.E D O))) rfl ?_;rintro _ e⟨rfl,g⟩;refine go ?_;exact AB rfl ⟨rfl,A.trans g⟩
theorem dcheck_ok(w:World)(nm:LU)(sv:Value):Fn Zp 333 [.agg #[AK nm],sv] w fun u w'=>u=iV 0/\Ext w w':=by
 refine AG Tryz.func333 rfl Tryz.ntmps333 (go ?_);refine Ai (L:=[AK nm]) rfl (fun R E=>go ?_);exact AB rfl ⟨rfl,E.E⟩
theorem dclash_ok(w:World)(nm:LU):Fn Zp 334 [.agg #[AK nm],.bool true] w fun u w'=>u=iV 0/\Ext w w':=by
 refine AG Tryz.func334 rfl Tryz.ntmps334 (go ?_);refine Ai (L:=[AK nm]) rfl (fun a E=>go ?_);refine AE (R:=fun u w'=>u=iV 0/\w'=a) ?_ rfl ?_
 ·refine AG Tryz.func336 rfl Tryz.ntmps336 (go ?_);exact AB rfl ⟨rfl,rfl⟩
 rintro _ _⟨rfl,rfl⟩;exact Fa
theorem tcheck_ok(w:World)(a:Option Addr)(K:Nat)(S:List Sgn)(z:Option Addr)(G:Nat)(y:Dty)(t:Int)(v:Value)(j:SlAt sgnR AV w (.slice a S.length K) S)(hl:SlAt dtyR AV w (.slice z 1 G) [y])(hk:y.req.kind=2)(ht:0<=t)(C:GF w)(s:KY w)(Z:10<=w.heap.size):
  Fn Zp 33 [.agg [.slice a S.length K,.slice z 1 G,iV t].toArray,.iface 133 v] w fun u w'=>∃e:Int,u=iV e/\Ext w w'/\(e=0↔A5 S=true/\(runG S y.first []).op≠0/\(runG S y.now []).op≠0):=by
 refine AG Tryz.func33 rfl Tryz.ntmps33 (go ?_);refine Ai (L:=[.slice a S.length K,.slice z 1 G,iV t]) rfl (fun w1 E=>?_);have B1:=E.D;have f:=E.E;refine go ?_;refine W_someeql rfl (go ?_);refine AE (Dt w1 _ S (j.ext f) (s.E f O)) rfl ?_;rintro _ w2⟨rfl,l⟩;have A:=f.trans l;have B2:=B1.E l O;cases hv:A5 S with
 |false=>
  refine go ?_;exact AB rfl ⟨1,rfl,A,by simp⟩
 |true=>
  refine go ?_;refine Ah (α:=Nat) (fun k=>[(2,pt w.heap.size),(27,.slice z 1 G),(28,iV 1),(29,iV (k:Int))]) (fun k W=>k<=1/\Ext w2 W/\(k=1->(runG S y.first []).op≠0/\(runG S y.now []).op≠0)) (fun k=>1-k) 0 ag ⟨by omega,Ext.refl _,fun h=>by omega⟩ ?_;rintro k W fr⟨a7,V,hq⟩;refine go ?_;by_cases a8:k<1
  ·obtain rfl:k=0:=by omega
   obtain⟨b,o,d,rfl,hb,hd,F⟩:=hl.at (sz:=19) (k:=0) rfl rfl;have a5:=dtyR.one F;have a4:=F;obtain⟨q0,q1,q2,q3,q4,H,i,n,T,p,g,m,q,r,x,rfl,f1,f2,f3⟩:=dty19 F;have M:=A.trans V;have a3:=hd.E M O;have BW:=B2.E V O;refine go ?_;refine AQ (L:=[AK y.req.part,AK y.req.name,iV y.req.kind,q0,q1,q2,q3,q4,iV y.since,H,i,n,T,p,g,m,q,r,x]) rfl rfl a3 ?_;refine Au (cs:=[AK y.req.part,AK y.req.name,iV y.req.kind,q0,q1,q2,q3,q4,iV y.since,H,i,n,T,p,g,m,q,r,x]) rfl rfl Dx a5 (fun w5 I=>?_);have B5:=I.D;have R:=M.trans I.E;have a1:=BW.E I.E O;refine go ?_;refine AE (inForce_ok w5 _ y (dtyR.ext a4 R)) rfl ?_;rintro _ w6⟨rfl,D⟩;have N:=R.trans D;have P:=B5.E D O;have a2:=a1.E D O;rw[hk];have ca:Cells w6 W.heap.size (0+9) [H,i,n,T,p]:=P.cells.part 9 5;refine go ?_;refine AQ (L:=[H,i,n,T,p]) rfl rfl ca (go ?_);refine AE (tfits_ok w6 a K S _ _ _ y.first (j.ext N) (f2.ext N) rfl rfl (C.ext N) (s.E N O) (Nat.le_trans Z N.size)) rfl ?_;rintro _ w7⟨rfl,c⟩;have Q:=N.trans c;have a0:=P.E c O;have a6:=a2.E c O;by_cases X:(runG S y.first []).op≠0
   ·rw[decide_eq_true X];have cb:Cells w7 W.heap.size (0+14) [g,m,q,r,x]:=a0.cells.part 14 5;refine go ?_;refine AQ (L:=[g,m,q,r,x]) rfl rfl cb (go ?_);refine AE (tfits_ok w7 a K S _ _ _ y.now (j.ext Q) (f3.ext Q) rfl rfl (C.ext Q) (s.E Q O) (Nat.le_trans Z Q.size)) rfl ?_;rintro _ w8⟨rfl,k8⟩;by_cases B:(runG S y.now []).op≠0
    ·rw[decide_eq_true B];refine go ?_;exact⟨1,⟨rfl,ag,⟨Nat.le_refl _,((((V.trans I.E).trans D).trans c).trans k8),fun _=>⟨X,B⟩⟩⟩,by omega⟩
    ·rw[decide_eq_false B];refine go ?_;exact AB rfl ⟨1,rfl,Q.trans k8,by simp[B]⟩
   ·rw[decide_eq_false X];refine go ?_;exact AB rfl ⟨1,rfl,Q,by simp[X]⟩
  ·obtain rfl:k=1:=by omega
   refine go ?_;exact AB rfl ⟨0,rfl,A.trans V,by simpa using hq rfl⟩
section
attribute [local semireducible] WC AT Bo BI Bj Cw DV Be
variable {P:Program}{all:Array Oper}{Z:Fr->DS->List PanicEntry->World->Prop}{K:Fr->DS->World->Prop}{rest:List Oper}{f:Fr}{ds:DS}{w:World}{d:Nat}{ty:TypeId}{pos:String}{af:Array Edge}
theorem W_append0{T e size F:Nat}{z:Value}{s x:Operand}{a b:Option Addr}{n c g:Nat}[hT:SlT P T e size F z](i:ev f s=.slice a n c)(j:ev f x=.slice b 0 g)(G:n<=c)
  (h:AT P all Z K rest (upd f d (.slice a n c)) ds w):AT P all Z K (⟨some d,.call ⟨.builtin .append,#[s,x],#[T,T]⟩,ty,pos,af,none⟩::rest) f ds w:=by
 obtain⟨q,l,_,D,_⟩:=hT.out
 have m:(Builtin.append_ #[T,T] ty #[.slice a n c,.slice b 0 g]).run P w=.ok (.slice a n c) w:=by
  have k:(Builtin.firstCells size 0 (.slice b 0 g)).run P w=.ok #[] w:=by
   cases b<;>simp[Builtin.firstCells,loadCells,loadCellsFrom]
  have X:(sizeOf e).run P w=.ok size w:=by simp[sizeOf,typeInfo,l,D]
  simp only[Builtin.append_];simp[run_underlying hT.und,X,Builtin.lenOf,G,k];cases a<;>simp[storeCells]
 refine Aw rfl ?_ h;simp only[execOp,resolve,invoke,builtin,Sem.run_bind,Sem.run_pure,Result.andThen_ok,List.map_toArray,List.map_cons,List.map_nil,i,j];simp[i,j,m]
theorem W_slice_lhm{T e size F:Nat}{z:Value}{g b H G:Operand}{a:Option Addr}{n c:Nat}{k A S:IntKind}{l h m:Nat}[hT:SlT P T e size F z](p:ev f g=.slice a n c)(M:ev f b=.int S (l:Int))(i:ev f H=.int k (h:Int))(y:ev f G=.int A (m:Int))(s:l<=h)(X:h<=m)(W:m<=c)
  (j:AT P all Z K rest (upd f d (.slice (if m=l then a else a.map fun(x:Addr)=>x.add (l*size)) (h-l) (m-l))) ds w):AT P all Z K (⟨some d,.slice T g (some b) (some H) (some G),ty,pos,af,none⟩::rest) f ds w:=by
 obtain⟨q,o,_,D,_⟩:=hT.out;refine Aw rfl ?_ j;simp only[execOp,p,M,i,y,Option.map_some,Option.map_none,Instr.sliceAt,Sem.run_bind,run_underlying hT.und,Result.andThen_ok,Instr.slice,Instr.sliceBounds,Instr.sliceBound,asIntOf,Sem.run_pure,sizeOf,typeInfo,program];simp[Sem.run,o,D,show(m:Int)<=c by omega,X,s]
end
theorem cloneD_ok(w:World)(a:Option Addr)(c:Nat)(l:List Dty)(M:SlAt dtyR AV w (.slice a l.length c) l)(G:l.length<=1000)(s:0<l.length):
  Fn Zp 332 [.slice a l.length c] w fun u w'=>Ext w w'/\Acc AV dtyR 40 19 w.heap.size w' u l:=by
 have D:=M.lt (show 0<dtyR.size by decide);obtain⟨X,z,L,e,j,h⟩:=D;cases e;have f:=j;obtain⟨t,k,e,_,_,_,T⟩:=j;cases e;obtain⟨b,o,rfl,d,V⟩:=T.resolve_left U;have g:L.flatten.length=l.length*19:=h.flat;refine AG Tryz.func332 rfl Tryz.ntmps332 (go ?_);refine W_slNil rfl (go ?_);refine AP (out:=[]) rfl U (congrArg some (List.eq_nil_of_length_eq_zero EQ)) (fun q E=>go ?_);have r:=E.size;have S:=E.own (n:=0) (size:=19) rfl D3 (Nat.le_refl _);refine Ap (B:=w.heap.size) (n:=0) rfl rfl S (f.ext E.E) U Dx g h.oneC U U U (fun m p x=>go ?_);have R:=x.own;rw[Nat.zero_add,List.nil_append]at R;refine AB rfl ⟨E.E.E x.E (fun y F=>(Ad S (Option.mem_toList.1 F)).1),⟨L,R,?_⟩⟩;refine((h.ext E.E).E x.E (fun b d i=>?_)).mono fun b d=>⟨trivial,fun e=>?_⟩
 ·have:=(Ad S (Option.mem_toList.1 i)).1;omega
 ·have:=(Ad R e).1;omega
theorem own_set1{w:World}{B e sz:Nat}{v:Value}{xs:LV}(h:w.ownsRow B e sz v 1 xs):
  ∃g cap L,v=.slice (sm g) 1 cap/\B<=g/\Blk w g e L/\sz<=L.length/\1<=cap/\cap*sz=L.length/\cap<=maxLen/\∀w' cs,cs.length=sz->Blk w' g e (splice L 0 cs)->w'.ownsRow B e sz v 1 cs:=by
 obtain⟨M,q⟩:=h;rcases q with⟨_,s⟩|⟨g,cap,b,rfl,f,t,X,W,Q,z⟩
 ·omega
 ·have l:sz<=b.toList.length:=by
   have:1*sz<=cap*sz:=Nat.mul_le_mul_right sz X;simp;omega
  refine⟨g,cap,b.toList,rfl,f,by simpa[Blk]using t,l,X,by simp[Q],W,fun w' cs V a=>⟨by omega,.inr ⟨g,cap,(splice b.toList 0 cs).toArray,rfl,f,a,X,W,?_,?_⟩⟩⟩
  ·simp[splice,V];simp at l;omega
  ·simp only[splice,List.take_zero,List.nil_append];rw[List.take_append_of_le_length U,List.take_of_length_le U]
theorem fidx_one{y:Dty}(P:y.req.kind=2):fidxI [y] (hitB y.req.name)=0:=by
 unfold fidxI hitB;simp[List.findIdx?_cons,P]
theorem deleteD_ok(w:World)(B:Nat)(v:Value)(xs:LV)(j:w.ownsRow B 40 19 v 1 xs):
  Fn Zp 339 [v,iV 0,iV 1] w fun u w'=>∃g c,u=.slice (sm g) 0 c/\v.ownBlock=some g/\Keep [g] w w'/\w'.ownsRow B 40 19 u 0 []:=by
 obtain⟨g,d,L,rfl,f,S,A,K,P,i,p⟩:=own_set1 j;refine AG Tryz.func339 rfl Tryz.ntmps339 (go ?_);refine W_slice_lhm (l:=0) (h:=1) (m:=1) rfl rfl rfl rfl U U U (go ?_);refine AX (rd 0 6 (.alt 6 (.read 7 .done) .stop)) An Dv (fun H I G=>⟨Ext H,?_,?_⟩)
 ·exact Ew
 have Z:=S.E I O;refine go ?_;refine D_E rfl ?_;refine W_append0 rfl rfl U ?_;refine wNl (Ext.refl _) ?_;refine go ?_
 have R:adv d 0 19 (sm g)=some ⟨g,0,none⟩:=by
  unfold adv;rw[if_neg U];simp[Addr.add_lit]
 refine W_clear (b:=g) (o:=0) (n:=1) (c:=d) (congrArg (fun a=>Value.slice a 1 d) R) U (AW rfl) Z Dw (fun q X k e=>?_);refine go ?_;refine AB rfl ⟨g,d,rfl,rfl,I.any.trans e.E (fun x h _=>h),rfl,.inr ⟨g,d,_,rfl,f,e.D,by omega,i,?_,?_⟩⟩
 ·simp only[splice,List.take_zero,List.nil_append,List.size_toArray,List.length_append,List.length_drop,k];simp;omega
 ·simp
theorem without_ok(w:World)(sv tv:Value)(da:Option Addr)(G:Nat)(y:Dty)(t:Int)(b8:tv=iV t)(h1:sv.oneCell'=true)(M:SlAt dtyR AV w (.slice da 1 G) [y])(hk:y.req.kind=2)(hG:GF w)(hK:KY w)(hN:10<=w.heap.size):
  Fn Zp 337 [.agg [sv,.slice da 1 G,tv].toArray,AK y.req.name] w fun u w'=>Ext w w'/\Acc AV dtyR 40 19 w.heap.size w' u (CA y t):=by
 subst b8;have b4:=M.lt (show 0<dtyR.size by decide);obtain⟨b,o,d,rfl,S,hd,a2⟩:=b4.at (sz:=19) (k:=0) rfl rfl;have b5:=dtyR.one a2;obtain⟨c,h,X,r,Q,H,B,C,T,D,F,I,N,P,R,rfl,f1,f2,f3⟩:=dty19 a2
 have hot:oneC [sv,.slice (some ⟨b,o,none⟩) 1 G,iV t]:=by
  intro u hu;simp at hu;rcases hu with rfl|rfl|rfl
  ·exact h1
  ·rfl
  ·rfl
 refine AG Tryz.func337 rfl Tryz.ntmps337 (go ?_);refine Ai (L:=[sv,.slice (some ⟨b,o,none⟩) 1 G,iV t]) rfl (fun w1 E=>?_);have B1:=E.D;have k1:=E.E;refine go ?_;refine AE (ofind_ok w1 sv (some ⟨b,o,none⟩) G [y] (iV t) y.req.name (M.ext k1) O) rfl ?_;rintro _ w2⟨rfl,l⟩;rw[fidx_one hk];have e2:=k1.trans l;have B2:=B1.E l O;have b2:=hd.E e2 O;have c9:=e2.size;have d1:=E.size;have d0:=l.size;refine go ?_;refine AQ (L:=[AK y.req.part,AK y.req.name,iV y.req.kind,c,h,X,r,Q,iV y.since,H,B,C,T,D,F,I,N,P,R]) rfl rfl b2 ?_;refine Au (cs:=[AK y.req.part,AK y.req.name,iV y.req.kind,c,h,X,r,Q,iV y.since,H,B,C,T,D,F,I,N,P,R]) rfl rfl Dx b5 (fun w3 Z=>?_);have e3:=e2.trans Z.E;have B3:=Z.D;have a4:=B2.E Z.E O;have z3:=Z.size;refine go ?_;refine AE (cloneD_ok w3 (some ⟨b,o,none⟩) G [y] (M.ext e3) O O) rfl ?_;rintro u w4⟨a,hA⟩;have V:=e3.trans a;have B4:=B3.E a O;have a5:=a4.E a O;obtain⟨L4,o4,F4⟩:=hA.ex;obtain⟨g,c1,Lg,rfl,hg,a0,c2,c3,c4,c5,b7⟩:=own_set1 o4;have z4:=a.size;refine go ?_;refine AE (pending_ok w4 _ y (dtyR.mono (dtyR.ext (dty_of (p:=y.req.part) (n:=y.req.name) (k:=y.req.kind) (t:=y.since) (f1.ext V) (f2.ext V) (f3.ext V)) (Ext.refl _)) fun _ _=>trivial) (hG.ext V) (hK.E V O) (Nat.le_trans hN V.size)) rfl ?_;rintro u5 w5⟨k5,f5⟩;obtain⟨W,rfl,b1,b6⟩:=f5.cells;obtain⟨p0,q,j,K,m,rfl⟩:=Ab b1;obtain rfl:=f5.op0;refine Au (cs:=[iV (Cq y.first y.now).op,q,j,K,m]) rfl rfl Dx b6 (fun w6 z=>?_);have z6:=z.size;have A:=k5.trans z.E;have e6:=V.trans A;have B6:=z.D;have a7:=B4.E A O;have a6:=a5.E A O;have a8:=f5.lt.ext z.E;have a9:=a0.E A O;have c6:=a0.lt;have c8:=A.size;have z5:=k5.size;unfold CA;by_cases a3:(Cq y.first y.now).op=1
 ·rw[if_pos a3];refine go ?_;refine AE (deleteD_ok w6 w3.heap.size _ _ (Ae o4 A)) rfl ?_;rintro u7 s⟨g7,c7,rfl,b3,k7,o7⟩;cases b3;refine go ?_;refine AB rfl ⟨e6.E k7 Dw,⟨[],?_,RsAt.nil⟩⟩;exact Bl o7 U
 ·rw[if_neg a3];refine go ?_;refine AR (v:=iV 3) rfl rfl rfl a7 O (fun s i=>?_);have B7:Blk s w2.heap.size 40 [AK y.req.part,AK y.req.name,iV 3,c,h,X,r,Q,iV y.since,H,B,C,T,D,F,I,N,P,R]:=i.D;have e7:Ext w s:=e6.E i.E Dw;have b9:=a6.E i.E Dw;have c0:=B6.E i.E Dw;have b0:=a9.E i.E Dw;have f7:=a8.E i.E (fun b S x=>by rw[List.mem_singleton]at x;omega);have z7:=i.size;have cr:Cells s w2.heap.size (0+0) [AK y.req.part,AK y.req.name,iV 3,c,h,X,r,Q]:=B7.cells.part 0 8;refine go ?_;refine AQ (L:=[AK y.req.part,AK y.req.name,iV 3,c,h,X,r,Q]) rfl rfl cr (go ?_);have a1:=dty_of (ok:=fun b=>b<w6.heap.size/\b≠g) (w:=s) (p:=y.req.part) (n:=y.req.name) (k:=3) (t:=t) (q0:=c) (q1:=h) (q2:=X) (q3:=r) (q4:=Q) (f:=y.req.formula) ((f1.ext e7).mono fun b S=>by omega) (f7.mono fun b S=>by omega) (f7.mono fun b S=>by omega);refine AH (cs:=[AK y.req.part,AK y.req.name,iV 3,c,h,X,r,Q,iV t,iV (Cq y.first y.now).op,q,j,K,m,iV (Cq y.first y.now).op,q,j,K,m]) rfl rfl rfl (dtyR.one a1) b0 Dw (fun w8 p8=>?_);have e8:Ext w w8:=e7.E p8.E Dw;refine go ?_;refine AB rfl ⟨e8,⟨[[AK y.req.part,AK y.req.name,iV 3,c,h,X,r,Q,iV t,iV (Cq y.first y.now).op,q,j,K,m,iV (Cq y.first y.now).op,q,j,K,m]],?_,RsAt.one (dtyR.mono (dtyR.E a1 p8.E fun b S x=>by rw[List.mem_singleton]at x;exact S.2 x) fun b S=>⟨trivial,fun e=>S.2 (Option.some.inj e).symm⟩)⟩⟩;exact Bl (b7 w8 _ rfl p8.D) U
end Go.Proofs.YtohodbnnhlddpaaGreatDoor
