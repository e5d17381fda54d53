/- TopOwedOnce, part 4 of 14: rules, lemmas, walks. Conditions: none. -/
import Derived.Test.YtohodbnnhlddpaaGreatDoorVO3
namespace Go.Proofs.YtohodbnnhlddpaaGreatDoor
open Go.RowKit
set_option linter.unusedVariables false
section
variable {mk:Prop}[MK mk]
structure PW(w:World)(E:Env)(ts:List Tok):Prop where
 st:PSt w E ts
 gk:GK w
 ge:10<=E.s
theorem PW.next{w w':World}{E:Env}{b r:List Tok}(h:PW w E b)(k:Keep [E.s] w w')(a:PSt w' E r):PW w' E r:=
 ⟨a,h.gk.E k (by have:=h.ge;simpa using this),h.ge⟩
theorem PW.ext{w w':World}{E:Env}{a:List Tok}(h:PW w E a)(k:Ext w w'):PW w' E a:=⟨h.st.ext k,h.gk.ext k,h.ge⟩
theorem PW.E{X:List Nat}{w w':World}{E:Env}{a:List Tok}(h:PW w E a)(k:Keep X w w')(W:∀x∈X,E.s<x):PW w' E a:=
 ⟨h.st.E k W,h.gk.E k (fun x T=>by have:=W x T;have:=h.ge;omega),h.ge⟩
theorem psnode_ok(w:World)(N:Int)(ok:Nat->Prop)(a:Option Addr)(cap:Nat)(L:List (LV))(l:LF)(q:Sl ok w (.slice a l.length cap) l.length L.flatten)(h:FsAt ok w L l)(M:l≠[]):
  Fn Zp 288 [iV N,.slice a l.length cap] w fun v w'=>Ext w w'/\FAt ok w' v (nodeF N l):=by
 refine AG Tryz.func288 rfl Tryz.ntmps288 (go ?_);refine AS (fun t E=>?_);have m:Blk t w.heap.size 36 zero5:=E.D;refine go ?_;have T:=q.ext E.E;have C:=h.ext E.E;by_cases X:l.length=1
 ·match l,L,X,C,T with
  | [f],[c],_,C,T=>
   have j:=C.2.1 c O;have K:=C.2.2 0 c f rfl rfl;obtain⟨z,R,_,s⟩:=K.cells;have S:c=z:=by simpa using R
   subst S;obtain⟨b,o,rfl,x,i⟩:=T.fml C.2.1 (k:=0) rfl O;have P:[f].length=1:=rfl;refine go ?_;refine AQ (L:=c) rfl j i ?_;refine AH (cs:=c) rfl rfl j s m D0 (fun p e=>?_)
   have d:Blk p w.heap.size 36 c:=by
    have:=e.D
    match c,j with
    | [c0,c1,c2,c3,c4],_=>exact this
   refine go ?_;have g:Ext w p:=E.E.E e.E O;refine AU rfl rfl j d.cells ⟨g,?_⟩;exact(h.2.2 0 c f rfl rfl).ext g
 ·refine go ?_;refine AH (cs:=[iV N,AK [],iV 0,iV 0,.slice a l.length cap]) rfl rfl rfl (by intro u n;simp at n;rcases n with rfl|rfl|rfl|rfl|rfl<;>rfl) m D0 (fun p e=>?_);have d:Blk p w.heap.size 36 [iV N,AK [],iV 0,iV 0,.slice a l.length cap]:=e.D;refine go ?_;have g:Ext w p:=E.E.E e.E O
  have r:nodeF N l=⟨N,[],0,0,l⟩:=by
   match l,X,M with
   |_::_::_,_,_=>rfl
  rw[r];exact AU rfl rfl rfl d.cells ⟨g,FAt.node N [] 0 0 (q.ext g) (h.ext g)⟩
structure ChainP(sep:LU)(pi:G Fml)(pl:G (LF)):Prop where
 done:∀{t t'},Run (Bb sep) t (.ok (false,t'))->Run pl t (.ok ([],t'))
 more:∀{t t1 t2 t3 a l},Run (Bb sep) t (.ok (true,t1))->Run pi t1 (.ok (a,t2))->Run pl t2 (.ok (l,t3))->Run pl t (.ok (a::l,t3))
 err1:∀{t t1 e},Run (Bb sep) t (.ok (true,t1))->Run pi t1 (.error e)->Run pl t (.error e)
 err2:∀{t t1 t2 a e},Run (Bb sep) t (.ok (true,t1))->Run pi t1 (.ok (a,t2))->Run pl t2 (.error e)->Run pl t (.error e)
def prepA(l:LF):Ans (LF)->Ans (LF)
 | .ok y=>.ok (l++y.1,y.2)
 | .error e=>.error e
theorem ChainP.step{B:LU}{S:G Fml}{N:G (LF)}(h:ChainP B S N){t R b:List Tok}{a:Fml}(X:Run (Bb B) t (.ok (true,R)))(W:Run S R (.ok (a,b))){r:Ans (LF)}(x:Run N b r):Run N t (prepA [a] r):=by
 cases r with
 |ok y=>exact h.more X W x
 |error e=>exact h.err2 X W x
theorem prepA_app(l m:LF)(r:Ans (LF)):prepA l (prepA m r)=prepA (l++m) r:=by
 cases r<;>simp[prepA]
theorem accepts_inv{t:LU}{k r:List Tok}{b:Bool}(h:Run (Bb t) k (.ok (b,r))):(b=true/\r.length+1=k.length/\C4 t (k.head?.map bare)=true/\r=k.tail)\/(b=false/\r=k/\C4 t (k.head?.map bare)=false):=by
 cases hs:C4 t (k.head?.map bare)with
 |true=>
  have e:=h.det (run_accepts_t hs);cases e;cases k with
  |nil=>simp[C4]at hs
  |cons x l=>exact .inl ⟨rfl,rfl,rfl,rfl⟩
 |false=>
  have e:=h.det (run_accepts_f hs);cases e;exact .inr ⟨rfl,rfl,rfl⟩
def Cm(E:Env)(N:Nat)(g:FuncId)(S:G Fml):Prop:=∀(w:World)(k:List Tok),PW w E k->k.length<=N->PDo E g [pt E.s] w S k (fun Z v a=>FAt (fresh w) Z v a)
theorem chain_ok(E:Env)(N:Nat)(g:FuncId)[AF Zp g](B:LU)(pi:G Fml)(F:G (LF))(M:ChainP B pi F)(hI:Cm E N g pi)(w:World)(k:List Tok)(h:PW w E k)(hN:k.length<=N):
  PDo E 289 [pt E.s,AK B,.func (.func g) #[pt E.s] #[]] w (pi.bind fun a=>F.bind fun l=>.ret (a::l)) k
   (fun w' v l=>∃a c L,v=.slice a l.length c/\l≠[]/\Sl (fresh w) w' v l.length L.flatten/\FsAt (fresh w) w' L l):=by
 have b4:=h.st.slt;unfold PDo;refine A7 Tryz.func289 rfl Tryz.ntmps289 nlr Dv (go ?_);refine C0 (v1:=[pt E.s]) (v2:=[]) (vs:=[]) rfl (hI w k h hN) rfl ?_ ?_;rotate_left
 ·rintro ch A⟨f,l,q,rfl⟩;refine go ?_;exact Aj ⟨f,l,Run.bindE q,rfl⟩
 rintro v A⟨f,H,R,q,q1,f1⟩;have h1:=h.next f q1
 have a6:=f1.lt;obtain⟨av,rfl,_⟩:=f1.form;refine AP (out:=[iV H.op,AK H.name,iV H.val,iV H.bound,av]) rfl U D4 (fun w2 p=>?_);have z2:=p.size;have o2:=p.own (n:=1) (size:=5) rfl D3 (Nat.le_refl _);have h2:=h1.ext p.E;have b8:=f.size;refine go ?_;have b5:R.length<=k.length:=(show R<:+k from q.suffix).length_le
 refine Ah (α:=Value×List (LV)×LF×List Tok) (fun x=>[(0,pt E.s),(1,AK B),(2,.func (.func g) #[pt E.s] #[]),(7,x.1)])
  (fun x W=>Keep [E.s] w W/\PW W E x.2.2.2/\x.2.2.2.length<=R.length/\x.2.2.1.length+x.2.2.2.length<=k.length+1/\x.1.ownBlock≠none/\W.ownsRow A.heap.size 36 5 x.1 x.2.2.1.length x.2.1.flatten/\FsAt (fun b=>fresh w b/\x.1.ownBlock≠some b) W x.2.1 x.2.2.1/\
   ∃d,x.2.2.1=H::d/\∀r,Run F x.2.2.2 r->Run F R (prepA d r))
  (fun x=>x.2.2.2.length) (.slice (sm A.heap.size) 1 1,[[iV H.op,AK H.name,iV H.val,iV H.bound,av]],[H],R)
  ⟨rfl,rfl,rfl,rfl,trivial⟩ ⟨f.ext p.E,h2,Nat.le_refl _,by simp;omega,by simp[Value.ownBlock],by simpa using o2,?_,[],rfl,fun r hr=>by cases r<;>simpa[prepA]using hr⟩ ?_
 ·exact FsAt.one ((a6.ext p.E).mono fun b S=>⟨S.1,by simp[Value.ownBlock];omega⟩) rfl
 rintro⟨v,L,l,a5⟩w3 f3⟨k3,Q,a8,a2,a3,o3,F3,d,rfl,C⟩;simp only at k3 Q a8 a2 a3 o3 F3 C⊢;refine go ?_;refine AE (CG E w3 a5 B Q.st) rfl ?_;rintro _ w4⟨o,b,V,rfl,I,q4⟩;have h4:=Q.next o q4
 have Z:∀g,v.ownBlock=some g->A.heap.size<=g/\g<w3.heap.size:=fun g t=>Ad o3 t;have o4:=Ac o3 o (fun g t=>by have:=Z g t;simp;omega);have F4:=F3.E o (fun b S=>by have:=S.1;simp[fresh]at this⊢;omega);have a1:=k3.trans o O;rcases accepts_inv I with⟨rfl,b2,_,_⟩|⟨rfl,rfl,_⟩
 ·refine go ?_;refine C0 (v1:=[pt E.s]) (v2:=[]) (vs:=[]) rfl (hI w4 V h4 U) rfl ?_ ?_;rotate_left
  ·rintro ch w5⟨i,l,X,rfl⟩;refine go ?_;exact Aj ⟨a1.trans i O,l,q.bind (Run.bindE (C _ (M.err1 I X))),rfl⟩
  rintro u w5⟨i,a,D,X,q5,f5⟩;have h5:=h4.next i q5
  have b1:D.length<=V.length:=(show D<:+V from X.suffix).length_le;have o5:=Ac o4 i (fun g t=>by have:=Z g t;simp;omega);have F5:=F4.E i (fun b S=>by have:=S.1;simp[fresh]at this⊢;omega);have a9:=a1.trans i O;have a7:=f5.lt;have b9:=o.size;have z5:=i.size;have z3:=k3.size;obtain⟨b0,rfl,L5,S5,_⟩:=f5.form;obtain⟨z,K,rfl,_⟩:=id S5
  have b7:A.heap.size<=w3.heap.size:=by
   obtain⟨g,t⟩:=Option.ne_none_iff_exists'.1 a3;have:=Z g t;omega
  refine AP (out:=[iV a.op,AK a.name,iV a.val,iV a.bound,.slice z a.args.length K]) rfl U D4 (fun w6 m=>?_);have z6:=m.size;have o6:=m.own (n:=1) (size:=5) rfl D3 (Nat.le_refl _);have b6:=h.st.cnt;have b3:(H::d).length=d.length+1:=rfl;refine Ap (ok:=AV) (v:=v) (sv:=.slice (sm w5.heap.size) 1 1) rfl rfl (Ae o5 m.E) (Aa o6 fun _ _=>trivial) U rfl rfl (by intro y hy;simp at hy;rcases hy with rfl|rfl|rfl|rfl|rfl<;>rfl) U U U (fun P w7 j=>?_);refine go ?_;have o7:=j.own;have e7:Ext w5 w7->True:=fun _=>trivial;have h7:=(h5.ext m.E).E j.E (fun x T=>by have:=Z x (Option.mem_toList.1 T);omega)
  have a4:∀b,P.ownBlock=some b->v.ownBlock=some b\/b=w6.heap.size:=fun b S=>by
   rcases j.D with e|e
   ·exact .inl ET
   ·rw[e]at S;exact .inr (Option.some.inj S).symm
  have F7:FsAt (fun b=>fresh w b/\P.ownBlock≠some b) w7 L (H::d):=by
   refine((F5.lt.E m.E fun _ _=>by simp).E j.E ?_).mono ?_
   ·rintro b⟨⟨_,S⟩,_⟩T;exact S (Option.mem_toList.1 T)
   ·rintro b⟨⟨h1,S⟩,a0⟩;refine⟨h1,fun e=>?_⟩;rcases a4 b e with e|e
    ·exact S e
    ·omega
  have f7:FAt (fun b=>fresh w b/\P.ownBlock≠some b) w7 (.agg [iV a.op,AK a.name,iV a.val,iV a.bound,.slice z a.args.length K].toArray) a:=by
   refine((a7.ext m.E).E j.E ?_).mono ?_
   ·rintro b⟨S,a0⟩T;have:=Z b (Option.mem_toList.1 T);simp[fresh]at S;omega
   ·rintro b⟨S,a0⟩;simp only[fresh]at S⊢;refine⟨by omega,fun e=>?_⟩;rcases a4 b e with e|e
    ·have:=Z b e;omega
    ·omega
  refine⟨(P,L++[[iV a.op,AK a.name,iV a.val,iV a.bound,.slice z a.args.length K]],(H::d)++[a],D),⟨rfl,⟨rfl,rfl,rfl,rfl,trivial⟩,⟨?_,h7,by simp only;omega,by simp only[List.length_append,List.length_cons,List.length_nil]at a2⊢;omega,j.some O,?_,F7.snoc f7 rfl,d++[a],by simp,fun r hr=>?_⟩⟩,by simp only;omega⟩
  ·exact(a9.ext m.E).trans j.E (fun x T a0=>by have:=Z x (Option.mem_toList.1 T);omega)
  ·have e1:(L++[[iV a.op,AK a.name,iV a.val,iV a.bound,.slice z a.args.length K]]).flatten=L.flatten++[iV a.op,AK a.name,iV a.val,iV a.bound,.slice z a.args.length K]:=by simp
   simp only;rw[e1,List.length_append];exact o7
  ·rw[<-prepA_app];exact C _ (M.step I X hr)
 ·refine go ?_;have hS:=Aa (ok:=fresh w) o4 (fun g t=>by have:=Z g t;simp only[fresh];omega);obtain⟨sa,sc,rfl,_⟩:=id hS;refine go ?_;refine AB rfl ⟨a1,H::d,_,q.bind ((C _ (M.done I)).bind ?_),q4,_,_,L,rfl,by simp,hS,F4.mono fun b S=>S.1⟩;simp only[List.append_nil];exact Run.ret _ _
structure Rp(α:Type)where
 fits:(Nat->Prop)->World->LV->α->Prop
 size:Nat
 len:∀{ok w c a},fits ok w c a->c.length=size
 one:∀{ok w c a},fits ok w c a->oneC c
 E:∀{ok X w w' c a},fits ok w c a->Keep X w w'->(∀b,ok b->b∉X)->fits ok w' c a
 lt:∀{ok w c a},fits ok w c a->fits (fun b=>ok b/\b<w.heap.size) w c a
 mono:∀{ok ok':Nat->Prop}{w c a},fits ok w c a->(∀b,ok b->ok' b)->fits ok' w c a
theorem Rp.ext{α:Type}(R:Rp α){ok:Nat->Prop}{w w':World}{c:LV}{a:α}(h:R.fits ok w c a)(k:Ext w w'):R.fits ok w' c a:=R.E h k fun _ _=>by simp
def RsAt{α:Type}(R:Rp α)(ok:Nat->Prop)(w:World)(L:List (LV))(l:List α):Prop:=
 L.length=l.length/\∀(i:Nat)(c:LV)(a:α),L[i]?=some c->l[i]?=some a->R.fits ok w c a
section
variable {α:Type}{R:Rp α}{ok:Nat->Prop}{w w':World}{L:List (LV)}{l:List α}
theorem RsAt.nil:RsAt R ok w [] []:=⟨rfl,fun i c g h=>by simp at h⟩
theorem RsAt.E{X:List Nat}(h:RsAt R ok w L l)(k:Keep X w w')(W:∀b,ok b->b∉X):RsAt R ok w' L l:=⟨h.1,fun i c a V I=>R.E (h.2 i c a V I) k W⟩
theorem RsAt.ext(h:RsAt R ok w L l)(k:Ext w w'):RsAt R ok w' L l:=h.E k fun _ _=>by simp
theorem RsAt.lt(h:RsAt R ok w L l):RsAt R (fun b=>ok b/\b<w.heap.size) w L l:=⟨h.1,fun i c a V I=>R.lt (h.2 i c a V I)⟩
theorem RsAt.mono{ok':Nat->Prop}(h:RsAt R ok w L l)(e:∀b,ok b->ok' b):RsAt R ok' w L l:=⟨h.1,fun i c a V I=>R.mono (h.2 i c a V I) e⟩
theorem RsAt.app{M:List (LV)}{m:List α}(h:RsAt R ok w L l)(b:RsAt R ok w M m):RsAt R ok w (L++M) (l++m):=by
 refine⟨by simp[h.1,b.1],fun i c a V I=>?_⟩;by_cases H:i<L.length
 ·rw[List.getElem?_append_left H]at V;rw[List.getElem?_append_left (by rw[<-h.1];exact H)]at I;exact h.2 i c a V I
 ·rw[List.getElem?_append_right U]at V;rw[List.getElem?_append_right (by rw[<-h.1];omega),<-h.1]at I;exact b.2 _ c a V I
theorem RsAt.one{c:LV}{a:α}(h:R.fits ok w c a):RsAt R ok w [c] [a]:=by
 refine⟨rfl,fun i d b C S=>?_⟩;cases i with
 |zero=>simp at C S;subst C;subst S;exact h
 |succ i=>simp at C
theorem RsAt.snoc{c:LV}{a:α}(h:RsAt R ok w L l)(b:R.fits ok w c a):RsAt R ok w (L++[c]) (l++[a]):=h.app (RsAt.one b)
theorem RsAt.len(h:RsAt R ok w L l):∀c∈L,c.length=R.size:=by
 intro c V;obtain⟨i,H⟩:=List.getElem?_of_mem V;have B:i<l.length:=by have:=(List.getElem?_eq_some_iff.1 H).1;rw[h.1]at this;exact this
 exact R.len (h.2 i c _ H (List.getElem?_eq_getElem B))
theorem CM(n:Nat):∀L:List (LV),(∀c∈L,c.length=n)->L.flatten.length=L.length*n
 | [],_=>by simp
 |c::L,h=>by
  have:=h c O;have k:=CM n L fun d C=>h d (by simp[C]);simp only[List.flatten_cons,List.length_append,List.length_cons,k,Nat.succ_mul];omega
theorem RsAt.flat(h:RsAt R ok w L l):L.flatten.length=l.length*R.size:=by rw[<-h.1];exact CM _ L h.len
theorem RsAt.oneC(h:RsAt R ok w L l):oneC L.flatten:=by
 intro u n;obtain⟨c,V,n⟩:=List.mem_flatten.1 n;obtain⟨i,H⟩:=List.getElem?_of_mem V;have B:i<l.length:=by have:=(List.getElem?_eq_some_iff.1 H).1;rw[h.1]at this;exact this
 exact R.one (h.2 i c _ H (List.getElem?_eq_getElem B)) u n
end
def SlAt{α:Type}(R:Rp α)(ok:Nat->Prop)(w:World)(v:Value)(l:List α):Prop:=∃a c L,v=.slice a l.length c/\Sl ok w v l.length L.flatten/\RsAt R ok w L l
theorem Sl_ltR{α:Type}{R:Rp α}{ok:Nat->Prop}{w:World}{v:Value}{L:List (LV)}{l:List α}(q:0<R.size)(h:Sl ok w v l.length L.flatten)(a:RsAt R ok w L l):Sl (fun b=>ok b/\b<w.heap.size) w v l.length L.flatten:=by
 refine h.lt fun s e=>?_;have:=a.flat;rw[e]at this;have X:0<l.length*R.size:=Nat.mul_pos U q;simp at this;omega
def sgnC(x:Sgn):LV:=[AK x.name,.bool x.input,iV x.size]
def sgnR:Rp Sgn where
 fits _ _ c x:=c=sgnC x
 size:=3
 len h:=by subst h;rfl
 one h:=by subst h;intro u n;simp[sgnC]at n;rcases n with rfl|rfl|rfl<;>rfl
 E h _ _:=h
 lt h:=h
 mono h _:=h
def reqR:Rp Rqm where
 fits ok w c x:=∃d:LV,c=[AK x.part,AK x.name,iV x.kind]++d/\d.length=5/\FAt ok w (.agg d.toArray) x.formula
 size:=8
 len h:=by obtain⟨d,rfl,C,_⟩:=h;simp[C]
 one h:=by
  obtain⟨d,rfl,C,a⟩:=h;obtain⟨b,e,_,X⟩:=a.cells;have:d=b:=by simpa using e
  subst this;intro u n;rcases List.mem_append.1 n with n|n
  ·simp at n;rcases n with rfl|rfl|rfl<;>rfl
  ·exact X u n
 E h k hX:=by obtain⟨d,e,C,a⟩:=h;exact⟨d,e,C,a.E k hX⟩
 lt h:=by obtain⟨d,e,C,a⟩:=h;exact⟨d,e,C,a.lt⟩
 mono h hk:=by obtain⟨d,e,C,a⟩:=h;exact⟨d,e,C,a.mono hk⟩
theorem AW{l:LV}(h:l.all (fun v=>v.oneCell')=true):oneC l:=fun u n=>List.all_eq_true.1 h u n
def spcR:Rp Spc where
 fits ok w c x:=∃t A,c=[t,A]/\SlAt sgnR ok w t x.sigs/\SlAt reqR ok w A x.reqs
 size:=2
 len h:=by obtain⟨_,_,rfl,_⟩:=h;rfl
 one h:=by
  obtain⟨_,_,rfl,⟨_,_,_,rfl,_⟩,⟨_,_,_,rfl,_⟩⟩:=h;intro u n;simp at n;rcases n with rfl|rfl<;>rfl
 E h k hX:=by
  obtain⟨t,A,e,⟨a,c,L,g,X,W⟩,⟨b,d,M,i,Q,z⟩⟩:=h;exact⟨t,A,e,⟨a,c,L,g,X.E k hX,W.E k hX⟩,⟨b,d,M,i,Q.E k hX,z.E k hX⟩⟩
 lt h:=by
  obtain⟨t,A,e,⟨a,c,L,g,X,W⟩,⟨b,d,M,i,Q,z⟩⟩:=h;exact⟨t,A,e,⟨a,c,L,g,Sl_ltR (by show 0<3;decide) X W,W.lt⟩,⟨b,d,M,i,Sl_ltR (by show 0<8;decide) Q z,z.lt⟩⟩
 mono h hk:=by
  obtain⟨t,A,e,⟨a,c,L,g,X,W⟩,⟨b,d,M,i,Q,z⟩⟩:=h;exact⟨t,A,e,⟨a,c,L,g,X.mono hk,W.mono hk⟩,⟨b,d,M,i,Q.mono hk,z.mono hk⟩⟩
def fmlR:Rp Fml where
 fits ok w c x:=c.length=5/\FAt ok w (.agg c.toArray) x
 size:=5
 len h:=h.1
 one h:=by
  obtain⟨z,e,_,X⟩:=h.2.cells;simp only[Value.agg.injEq]at e;have A:=congrArg Array.toList e;simp only[List.toList_toArray]at A;exact A▸X
 E h k hX:=⟨h.1,h.2.E k hX⟩
 lt h:=⟨h.1,h.2.lt⟩
 mono h hk:=⟨h.1,h.2.mono hk⟩
theorem CR(n:Nat):∀(L:List (LV))(k j:Nat)(c:LV)(v:Value),(∀c∈L,c.length=n)->L[k]?=some c->c[j]?=some v->L.flatten[k*n+j]?=some v
 | [],k,j,c,v,_,h,_=>by simp at h
 |d::L,0,j,c,v,h5,h,hv=>by
  simp at h;subst h;rw[List.flatten_cons,Nat.zero_mul,Nat.zero_add,List.getElem?_append_left (List.getElem?_eq_some_iff.1 hv).1];exact hv
 |d::L,k+1,j,c,v,h5,h,hv=>by
  have C:=h5 d O;rw[List.flatten_cons,List.getElem?_append_right (by rw[C,Nat.succ_mul];omega),C,show(k+1)*n+j-n=k*n+j by rw[Nat.succ_mul];omega];exact CR n L k j c v (fun c V=>h5 c D9) EC hv
theorem Sl.recs{α:Type}{R:Rp α}{ok:Nat->Prop}{w:World}{a:Option Addr}{n cap k sz:Nat}{L:List (LV)}{l:List α}{c:LV}(h:Sl ok w (.slice a n cap) n L.flatten)(e:RsAt R ok w L l)(i:R.size=sz)(g:L[k]?=some c)(G:k<n):
  ∃b o,a=some ⟨b,o,none⟩/\ok b/\Cells w b (o+k*sz) c:=by
 obtain⟨X,m,q,p,W,Q,z⟩:=h;cases q;obtain⟨b,o,rfl,S,V⟩:=z.resolve_left U;refine⟨b,o,rfl,S,fun j v q=>?_⟩;have:=V _ _ (CR sz L k j c v (fun c V=>by rw[e.len c V,i]) g q)
 rwa [<-Nat.add_assoc]at this
theorem SlAt.ext{α:Type}{R:Rp α}{ok:Nat->Prop}{w w':World}{v:Value}{l:List α}(h:SlAt R ok w v l)(k:Ext w w'):SlAt R ok w' v l:=by
 obtain⟨a,c,L,e,X,W⟩:=h;exact⟨a,c,L,e,X.ext k,W.ext k⟩
theorem SlAt.mono{α:Type}{R:Rp α}{ok ok':Nat->Prop}{w:World}{v:Value}{l:List α}(h:SlAt R ok w v l)(g:∀b,ok b->ok' b):SlAt R ok' w v l:=by
 obtain⟨a,c,L,e,X,W⟩:=h;exact⟨a,c,L,e,X.mono g,W.mono g⟩
theorem Sl.row{α:Type}{R:Rp α}{ok:Nat->Prop}{w:World}{a:Option Addr}{n c k:Nat}{l:List α}{L:List (LV)}{d:LV}(g:Sl ok w (.slice a n c) n L.flatten)(q:RsAt R ok w L l)(C:L[k]?=some d)(m:k<n):∃b o,a=some ⟨b,o,none⟩/\ok b/\Cells w b (o+k*R.size) d:=by
 obtain⟨X,z,e,_,_,_,h⟩:=g;cases e;rcases h with s|⟨b,o,rfl,S,V⟩
 ·omega
 ·refine⟨b,o,rfl,S,fun j u i=>?_⟩;have:=V (k*R.size+j) u (CR R.size L k j d u q.len C i);rw[<-Nat.add_assoc]at this;exact this
abbrev FV(w:World)(v:Value)(f:Fml):Prop:=FAt AV w v f
def fcC(f:Fml)(p:Value):LV:=[iV f.op,AK f.name,iV f.val,iV f.bound,p]
def PF(ok:Nat->Prop)(w:World)(b o:Nat)(f:Fml):Prop:=ok b/\∃d:LV,d.length=5/\Cells w b o d/\FAt ok w (.agg d.toArray) f
theorem PF.E{ok:Nat->Prop}{X:List Nat}{w w':World}{b o:Nat}{f:Fml}(h:PF ok w b o f)(k:Keep X w w')(W:∀b,ok b->b∉X):PF ok w' b o f:=by
 obtain⟨S,d,C,V,a⟩:=h;exact⟨S,d,C,V.E k (W b S),a.E k W⟩
theorem PF.lt{ok:Nat->Prop}{w:World}{b o:Nat}{f:Fml}(h:PF ok w b o f):PF (fun b=>ok b/\b<w.heap.size) w b o f:=by
 obtain⟨S,d,C,V,a⟩:=h;obtain⟨c,Q,e,T,v,rfl⟩:=Ab C;exact⟨⟨S,World.block_lt_of_cell? w _ (V 0 _ rfl)⟩,_,rfl,V,a.lt⟩
theorem PF.mono{ok ok':Nat->Prop}{w:World}{b o:Nat}{f:Fml}(h:PF ok w b o f)(a:∀b,ok b->ok' b):PF ok' w b o f:=by
 obtain⟨S,d,C,V,c⟩:=h;exact⟨a b S,d,C,V,c.mono a⟩
theorem PF.form{ok:Nat->Prop}{w:World}{b o:Nat}{f:Fml}(h:PF ok w b o f):ok b/\∃a c L,Cells w b o (fcC f (.slice a f.args.length c))/\Sl ok w (.slice a f.args.length c) f.args.length L.flatten/\FsAt ok w L f.args:=by
 obtain⟨S,d,C,V,g⟩:=h;obtain⟨p,e,L,j,X,W,Q⟩:=g.form;obtain⟨a,c,rfl,_⟩:=id j;have e:=congrArg Array.toList (Value.agg.inj e);have e:d=fcC f (.slice a f.args.length c):=e;subst e;exact⟨S,a,c,L,V,j,X,W,Q⟩
section
variable {P:Program}{all:Array Oper}{Z:Fr->DS->List PanicEntry->World->Prop}{K:Fr->DS->World->Prop}{rest:List Oper}{f:Fr}{ds:DS}{w:World}
 {d:Nat}{ty ty':TypeId}{pos pos':String}{af af':Array Edge}
theorem BV(L cs:LV)(h:cs.length=L.length):splice L 0 cs=cs:=by
 simp[splice,h]
theorem Au{T n:Nat}{x:Operand}{cs z:LV}[hZ:Bf P T z][hT:BU P T n](c:ev (upd f d (.pointer (sm w.heap.size))) x=.agg cs.toArray)(G:cs.length=n)(i:z.length=n)(X:oneC cs)
  (h:∀w',New w w' T cs->AT P all Z K rest (upd f d (.pointer (sm w.heap.size))) ds w'):
  AT P all Z K (⟨some d,.alloc T,ty,pos,af,none⟩::⟨none,.store T (.tmp d) x,ty',pos',af',none⟩::rest) f ds w:=by
 refine AS (L:=z) fun j E=>?_;refine AH (b:=w.heap.size) (o:=0) (cs:=cs) (by simp[ev,upd]) c G X E.D U fun g a=>?_;have e:=a.D;rw[BV z cs U]at e;refine h g ⟨E.E.E a.E O,by rw[a.size,E.size],e⟩
theorem CL{T c b:Nat}{a x:Operand}{v:Value}{g:Fml}{ok:Nat->Prop}{L:LV}[hT:BU P T 5](I:ev f a=.pointer (sm b))(k:ev f x=v)(j:FAt ok w v g)(S:Blk w b c L)(A:L.length=5)
  (h:∀w' cs,v=.agg cs.toArray->cs.length=5->Keep [b] w w'->w'.heap.size=w.heap.size->Blk w' b c cs->AT P all Z K rest f ds w'):
  AT P all Z K (⟨none,.store T a x,ty,pos,af,none⟩::rest) f ds w:=by
 obtain⟨cs,rfl,i,o⟩:=j.cells;refine AH (cs:=cs) I k i o S U fun w' p=>?_;have e:=p.D;rw[BV L cs U]at e;exact h w' cs rfl i p.E p.size e
end
theorem FAt.new{ok:Nat->Prop}{w w':World}{v:Value}{f:Fml}(h:FAt ok w v f){T:TypeId}{cs:LV}(n:New w w' T cs):FAt ok w' v f:=h.ext n.E
theorem oneC_fml(a b c d:Value)(e:Option Addr)(n m:Nat)(I:a.oneCell'=true)(S:b.oneCell'=true)(V:c.oneCell'=true)(C:d.oneCell'=true):oneC [a,b,c,d,.slice e n m]:=by
 intro u g;simp at g;rcases g with rfl|rfl|rfl|rfl|rfl<;>first|assumption|rfl
theorem primary_ok(E:Env)(N:Nat)(hF:∀M,M<N->Cm E M 253 (body .formula)):Cm E N 304 (body .primary):=by
 intro w ts h hN;have c3:=h.st.slt;unfold PDo;refine A7 Tryz.func304 rfl Tryz.ntmps304 nlr Dv (go ?_);refine AS (fun w1 n1=>?_);have b1:Blk w1 w.heap.size 36 zero5:=n1.D;have z1:=n1.size;have h1:=h.ext n1.E;have k1:Keep [E.s] w w1:=n1.E.any;refine go ?_;refine AE (CG E w1 ts [116,114,117,101] h1.st) rfl ?_;rintro _ w2⟨l,b,P,rfl,k,q2⟩;have h2:=h1.next l q2
 have b2:=b1.E l Dy;have a7:=k1.trans l O;have z2:=l.size;have l2:P.length<=ts.length:=(show P<:+ts from k.suffix).length_le;refine go ?_;cases b with
 |true=>
  refine go ?_;refine CL rfl rfl (FAt.leaf (fresh w) w2 1 [] 0 0) b2 rfl (fun w3 r e x g z3 y=>go ?_);refine AU rfl rfl x y.cells ⟨a7.trans g Dy,_,P,k.bind (Run.ret _ _),q2.E g Dy,?_⟩;rw[<-e];exact FAt.leaf _ _ _ _ _ _
 |false=>
 refine go ?_;refine AE (CG E w2 P [102,97,108,115,101] h2.st) rfl ?_;rintro _ w3⟨g,b,G,rfl,d,q3⟩;have h3:=h2.next g q3
 have y:=b2.E g Dy;have a8:=a7.trans g O;have z3:=g.size;have l3:G.length<=P.length:=(show G<:+P from d.suffix).length_le;refine go ?_;cases b with
 |true=>
  refine go ?_;refine CL rfl rfl (FAt.leaf (fresh w) w3 2 [] 0 0) y rfl (fun w4 r e x u z4 t=>go ?_);refine AU rfl rfl x t.cells ⟨a8.trans u Dy,_,G,k.bind (d.bind (Run.ret _ _)),q3.E u Dy,?_⟩;rw[<-e];exact FAt.leaf _ _ _ _ _ _
 |false=>
 refine go ?_;refine AE (CG E w3 G [40] h3.st) rfl ?_;rintro _ w4⟨u,b,W,rfl,j,q4⟩;have z:=h3.next u q4
 have t:=y.E u Dy;have a0:=a8.trans u O;have z4:=u.size;have l4:W.length<=G.length:=(show W<:+G from j.suffix).length_le;refine go ?_;cases b with
 |true=>
  have c4:W.length+1=G.length:=by
   rcases accepts_inv j with⟨_,e,_⟩|⟨e,_⟩
   ·exact e
   ·cases e
  refine go ?_;refine At (hF W.length U w4 W z (Nat.le_refl _)) rfl ?_ ?_;rotate_left
  ·
   rintro m wq⟨q,D,C,rfl⟩;refine go ?_;exact Aj ⟨a0.trans q O,D,k.bind (d.bind (j.bind (Run.callE C))),rfl⟩
  rintro v w5⟨i,f,t5,X,q5,f5⟩;have h5:=z.next i q5
  have b5:=t.E i Dy;have R:=a0.trans i O;have z5:=i.size;obtain⟨r,rfl,x,b8⟩:=f5.cells;refine Au (cs:=r) rfl x Dx b8 (fun w6 S=>?_);have f6:=f5.new S;have V:=h5.ext S.E;have b6:=b5.E S.E O;have z6:=S.size;have e6:=S.D;refine go ?_;refine At (DA E w6 t5 [41] V.st) rfl ?_ ?_;rotate_left
  ·
   rintro m wq⟨q,D,C,rfl⟩;refine go ?_;exact Aj ⟨(R.ext S.E).trans q O,D,k.bind (d.bind (j.bind (Run.call X (Run.bindE C)))),rfl⟩
  rintro v w7⟨o,_,t7,B,q7,rfl⟩;have Q:=e6.E o Dy;have b7:=b6.E o Dy;have f7:=f6.E o (by intro b p;simp[fresh]at p⊢;omega);refine go ?_;refine Bp rfl Q x ?_;refine CL rfl rfl f7 b7 rfl (fun w8 c1 e hcs' c z8 A=>go ?_);refine AU rfl rfl hcs' A.cells ⟨((R.ext S.E).trans o O).trans c Dy,f,t7,k.bind (d.bind (j.bind (Run.call X (B.bind (Run.ret _ _))))),q7.E c Dy,?_⟩;rw[<-e];exact(f7.E c (by intro b p;simp[fresh]at p⊢;omega)).mono (fun b p=>by simp only[fresh]at p⊢;omega)
 |false=>
 refine go ?_;refine At (pname_ok E w4 W z.st z.gk) rfl ?_ ?_;rotate_left
 ·
  rintro m wq⟨q,D,C,rfl⟩;refine go ?_;exact Aj ⟨a0.trans q O,D,k.bind (d.bind (j.bind (Run.bindE C))),rfl⟩
 rintro v w5⟨i,s,t5,X,q5,rfl,hs⟩;have h5:=z.next i q5
 have b5:=t.E i Dy;have R:=a0.trans i O;have z5:=i.size;refine go ?_;refine Au (cs:=[iV 3,AK s,iV 1,iV 0,.slice none 0 0]) rfl rfl Dx (oneC_fml _ _ _ _ _ _ _ rfl rfl rfl rfl) (fun w6 S=>?_);have V:=h5.ext S.E;have b6:=b5.E S.E O;have z6:=S.size;have e6:=S.D;have b9:=R.ext S.E;refine go ?_;refine AE (CG E w6 t5 [61] V.st) rfl ?_;rintro _ w7⟨o,b,t7,rfl,B,q7⟩;have h7:=V.next o q7
 have b7:=b6.E o Dy;have Q:=e6.E o Dy;have a4:=b9.trans o O;have z7:=o.size;refine go ?_;cases b with
 |true=>
  refine go ?_;refine At (number_ok E w7 t7 h7.st) rfl ?_ ?_;rotate_left
  ·
   rintro m wq⟨q,D,C,rfl⟩;refine go ?_;exact Aj ⟨a4.trans q O,D,k.bind (d.bind (j.bind (X.bind (B.bind (Run.bindE C))))),rfl⟩
  rintro v w8⟨c,n,t8,T,I,rfl,hn0,hn1⟩;have A:=b7.E c Dy;have e8:=Q.E c Dy;have z8:=c.size;refine go ?_;refine AR rfl rfl rfl e8 O (fun w9 p9=>?_);have H:=A.E p9.E Dy;have e9:Blk w9 w5.heap.size 36 [iV 3,AK s,iV n,iV 0,.slice none 0 0]:=p9.D;have z9:=p9.size;refine go ?_;refine CL rfl rfl (FAt.leaf (fresh w) w9 3 s n 0) H rfl (fun a1 r e x a6 c0 a2=>go ?_);refine AU rfl rfl x a2.cells ⟨((a4.trans c O).trans p9.E Dy).trans a6 Dy,_,t8,k.bind (d.bind (j.bind (X.bind (B.bind (T.bind (Run.ret _ _)))))),(I.E p9.E Dy).E a6 Dy,?_⟩;rw[<-e];exact FAt.leaf _ _ _ _ _ _
 |false=>
 refine go ?_;refine AE (CG E w7 t7 [33,61] h7.st) rfl ?_;rintro _ w8⟨c,b,t8,rfl,T,I⟩;have h8:=h7.next c I
 have A:=b7.E c Dy;have e8:=Q.E c Dy;have a5:=a4.trans c O;have z8:=c.size;refine go ?_;cases b with
 |true=>
  refine go ?_;refine At (number_ok E w8 t8 h8.st) rfl ?_ ?_;rotate_left
  ·
   rintro m wq⟨q,D,C,rfl⟩;refine go ?_;exact Aj ⟨a5.trans q O,D,k.bind (d.bind (j.bind (X.bind (B.bind (T.bind (Run.bindE C)))))),rfl⟩
  rintro v w9⟨F,n,t9,r9,q9,rfl,hn0,hn1⟩;have H:=A.E F Dy;have e9:=e8.E F Dy;have z9:=F.size;refine go ?_;refine AR rfl rfl rfl e9 O (fun a1 Z=>?_);have a2:=H.E Z.E Dy;have c2:Blk a1 w5.heap.size 36 [iV 3,AK s,iV n,iV 0,.slice none 0 0]:=Z.D;have c0:=Z.size;refine go ?_;refine AP (out:=[iV 3,AK s,iV n,iV 0,.slice none 0 0]) rfl U D4 (fun c5 K=>?_);have c7:=K.size;have b3:=a2.E K.E O;obtain⟨S11,a9⟩:=FsAt.fresh (ok:=fresh w) (L:=[[iV 3,AK s,iV n,iV 0,.slice none 0 0]]) K (FsAt.one (FAt.leaf (fresh w) a1 3 s n 0) rfl) (by simp only[fresh];omega) O;refine go ?_;refine CL rfl rfl (FAt.node 4 [] 0 0 S11 a9) b3 rfl (fun c6 r e x a3 c8 b4=>go ?_);refine AU rfl rfl x b4.cells ⟨(((a5.trans F O).trans Z.E Dy).ext K.E).trans a3 Dy,_,t9,k.bind (d.bind (j.bind (X.bind (B.bind (T.bind (r9.bind (Run.ret _ _))))))),(((q9.E Z.E Dy).ext K.E)).E a3 Dy,?_⟩;rw[<-e];obtain⟨S12,b0⟩:=FsAt.fresh (ok:=fun b=>fresh w b/\b≠w.heap.size) (L:=[[iV 3,AK s,iV n,iV 0,.slice none 0 0]]) K (FsAt.one (FAt.leaf _ a1 3 s n 0) rfl) (by simp only[fresh];omega) O;exact((FAt.node 4 [] 0 0 S12 b0).E a3 (by rintro b⟨_,p⟩;simpa using p)).mono fun b p=>p.1
 |false=>
  refine go ?_;refine CL rfl rfl (FAt.leaf (fresh w) w8 3 s 1 0) A rfl (fun w9 r e x F z9 H=>go ?_);refine AU rfl rfl x H.cells ⟨a5.trans F Dy,_,t8,k.bind (d.bind (j.bind (X.bind (B.bind (T.bind (Run.ret _ _)))))),I.E F Dy,?_⟩;rw[<-e];exact FAt.leaf _ _ _ _ _ _
theorem take_inv{I:List (LU×Opr)}{k r:List Tok}{o:Option Opr}(h:Run (takeG I) k (.ok (o,r))):(∃p,o=some p/\r.length+1=k.length)\/(o=none/\r=k):=by
 cases k with
 |nil=>
  have e:=h.det (Run.look (Run.ret _ _));cases e;exact .inr ⟨rfl,rfl⟩
 |cons x l=>
  have a:Run (takeG I) (x::l) (match I.lookup x.text with|some p=>.ok (some p,l)|none=>.ok (none,x::l)):=by
   refine Run.look ?_;show Run (match I.lookup x.text with|some p=>.next (.ret (some p))|none=>.ret none) _ _;cases I.lookup x.text with
   |none=>exact Run.ret _ _
   |some p=>exact Run.next (Run.ret _ _)
  have e:=h.det a;cases hl:I.lookup x.text with
  |none=>rw[hl]at e;cases e;exact .inr ⟨rfl,rfl⟩
  |some p=>rw[hl]at e;cases e;exact .inl ⟨p,rfl,rfl⟩
theorem unary_ok(E:Env)(N:Nat)(hP:Cm E N 304 (body .primary))(hU:∀M,M<N->Cm E M 297 (body .unary)):Cm E N 297 (body .unary):=by
 intro w ts h hN;have b8:=h.st.slt;unfold PDo;refine A7 Tryz.func297 rfl Tryz.ntmps297 nlr Dv (go ?_);refine AS (fun w1 V=>?_);have b1:Blk w1 w.heap.size 36 zero5:=V.D;have z1:=V.size;have X:=h.ext V.E;have k1:Keep [E.s] w w1:=V.E.any;obtain⟨ta,tc,hb1,_⟩:=X.st.D;have b5:=X.st.lt;refine go ?_;refine AE (pstake_ok E w1 ts E.mp prefixT X.st X.st.pre U) rfl ?_;rintro v w2⟨l,o,t2,rfl,k,q2⟩;have h2:=X.next l q2
 have b2:=b1.E l Dy;have b0:=k1.trans l O;have z2:=l.size;refine go ?_;refine Au (cs:=takeV o) rfl rfl Dx (oneC_opr _) (fun w3 Z=>?_);have h3:=h2.ext Z.E;have b3:=b2.E Z.E O;have z3:=Z.size;have e3:=Z.D;have a2:=b0.ext Z.E;refine go ?_;rcases take_inv k with⟨q,rfl,hl2⟩|⟨rfl,rfl⟩
 ·replace e3:Blk w3 w2.heap.size 215 [iV q.op,iV q.indexed,iV q.val]:=e3;refine go ?_;refine Au (cs:=[iV q.op,AK [],iV q.val,iV 0,.slice none 0 0]) rfl rfl Dx (oneC_fml _ _ _ _ _ _ _ rfl rfl rfl rfl) (fun w4 z=>?_);have h4:=h3.ext z.E;have b4:=b3.E z.E O;have e4:=e3.E z.E O;have z4:=z.size;have g4:=z.D;have a6:=a2.ext z.E;refine go ?_;refine At (index_ok E w4 t2 q h4.st) rfl ?_ ?_;rotate_left
  ·rintro ch wq⟨p,y,C,rfl⟩;refine go ?_;exact Aj ⟨a6.trans p O,y,k.bind (Run.bindE C),rfl⟩
  rintro v R⟨i,n,F,Q,q5,rfl,hn0,hn1⟩;have h5:=h4.next i q5
  have T:=b4.E i Dy;have e5:=e4.E i Dy;have g5:=g4.E i Dy;have a3:=a6.trans i O;have z5:=i.size;have l5:F.length<=t2.length:=(show F<:+t2 from Q.suffix).length_le;refine go ?_;cases n with
  |none=>
   refine go ?_;refine At (hU F.length U R F h5 (Nat.le_refl _)) rfl ?_ ?_;rotate_left
   ·rintro ch wq⟨p,y,C,rfl⟩;refine go ?_;exact Aj ⟨a3.trans p O,y,k.bind (Q.bind (Run.callE C)),rfl⟩
   rintro v w7⟨c,a,t7,r7,u,I⟩;have h7:=(h5).next c u
   have b7:=(T).E c Dy;have g7:=(g5).E c Dy;have a4:=(a3).trans c O;have z7:=c.size;obtain⟨r,rfl,x,a9⟩:=I.cells
   obtain⟨d,B,D,j,m,rfl⟩:∃d B D j m,r=[d,B,D,j,m]:=by
    match r,x with
    | [d,B,D,j,m],_=>exact⟨_,_,_,_,_,rfl⟩
   refine AP (out:=[d,B,D,j,m]) rfl U D4 (fun w8 W=>?_);have z8:=W.size;have A:=b7.E W.E O;have g8:=g7.E W.E O;obtain⟨S8,F8⟩:=FsAt.fresh (ok:=fun b=>R.heap.size<=b) (L:=[[d,B,D,j,m]]) W (FsAt.one (I.mono fun b S=>by simp only[fresh]at S⊢;omega) rfl) U O;refine go ?_;refine AR rfl rfl rfl g8 O (fun w9 g=>?_);have H:=A.E g.E Dy;have g9:=g.D;have z9:=g.size;have G:=(FAt.node (q.op) [] q.val (0) S8 F8).E g.E EF;refine go ?_;refine CL rfl rfl G H rfl (fun w10 a8 e a1 t z10 a0=>go ?_);refine AU rfl rfl a1 a0.cells ⟨((a4.ext W.E).trans g.E Dy).trans t Dy,_,t7,k.bind (Q.bind (Run.call r7 (Run.ret _ _))),((u.ext W.E).E g.E Dy).E t Dy,?_⟩;rw[<-e];show FAt _ _ _ (⟨q.op,[],q.val,0,[a]⟩:Fml);exact Fy
  |some n=>
   refine go ?_;refine AR rfl rfl rfl g5 O (fun w6 K=>go ?_);refine AR rfl rfl rfl K.D O (fun a5 P=>?_);have g6:Blk a5 w3.heap.size 36 [iV q.indexed,AK [],iV q.val,iV n,.slice none 0 0]:=P.D;have h6:=(h5.E K.E Dy).E P.E Dy;have b6:=(T.E K.E Dy).E P.E Dy;have a7:=(a3.trans K.E Dy).trans P.E Dy;have z6:a5.heap.size=R.heap.size:=by rw[P.size,K.size]
   refine go ?_;refine At (hU F.length U a5 F h6 (Nat.le_refl _)) rfl ?_ ?_;rotate_left
   ·rintro ch wq⟨p,y,C,rfl⟩;refine go ?_;exact Aj ⟨a7.trans p O,y,k.bind (Q.bind (Run.callE C)),rfl⟩
   rintro v w7⟨c,a,t7,r7,u,I⟩;have h7:=(h6).next c u
   have b7:=(b6).E c Dy;have g7:=(g6).E c Dy;have a4:=(a7).trans c O;have z7:=c.size;obtain⟨r,rfl,x,a9⟩:=I.cells
   obtain⟨d,B,D,j,m,rfl⟩:∃d B D j m,r=[d,B,D,j,m]:=by
    match r,x with
    | [d,B,D,j,m],_=>exact⟨_,_,_,_,_,rfl⟩
   refine AP (out:=[d,B,D,j,m]) rfl U D4 (fun w8 W=>?_);have z8:=W.size;have A:=b7.E W.E O;have g8:=g7.E W.E O;obtain⟨S8,F8⟩:=FsAt.fresh (ok:=fun b=>R.heap.size<=b) (L:=[[d,B,D,j,m]]) W (FsAt.one (I.mono fun b S=>by simp only[fresh]at S⊢;omega) rfl) U O;refine go ?_;refine AR rfl rfl rfl g8 O (fun w9 g=>?_);have H:=A.E g.E Dy;have g9:=g.D;have z9:=g.size;have G:=(FAt.node (q.indexed) [] q.val (n) S8 F8).E g.E EF;refine go ?_;refine CL rfl rfl G H rfl (fun w10 a8 e a1 t z10 a0=>go ?_);refine AU rfl rfl a1 a0.cells ⟨((a4.ext W.E).trans g.E Dy).trans t Dy,_,t7,k.bind (Q.bind (Run.call r7 (Run.ret _ _))),((u.ext W.E).E g.E Dy).E t Dy,?_⟩;rw[<-e];show FAt _ _ _ (⟨q.indexed,[],q.val,n,[a]⟩:Fml);exact Fy
 ·refine go ?_;refine At (hP w3 _ h3 hN) rfl ?_ ?_;rotate_left
  ·rintro ch wq⟨p,y,C,rfl⟩;refine go ?_;exact Aj ⟨a2.trans p O,y,k.bind (Run.callE C),rfl⟩
  rintro v w4⟨k4,f,t4,r4,q4,f4⟩;have b4:=b3.E k4 Dy;have z4:=k4.size;refine CL rfl rfl f4 b4 rfl (fun R r e x i z5 T=>go ?_);refine AU rfl rfl x T.cells ⟨(a2.trans k4 O).trans i Dy,f,t4,k.bind (Run.call r4 (Run.ret _ _)),q4.E i Dy,?_⟩;rw[<-e];exact(f4.E i EA).mono (fun b S=>by simp only[fresh]at S⊢;omega)
theorem psuntil_ok(E:Env)(N:Nat)(hP:Cm E N 297 (body .unary))(hU:∀M,M<N->Cm E M 295 (body .untilN)):Cm E N 295 (body .untilN):=by
 intro w ts h hN;have c5:=h.st.slt;unfold PDo;refine A7 Tryz.func295 rfl Tryz.ntmps295 nlr Dv (go ?_);refine AS (fun w1 n1=>?_);have b1:Blk w1 w.heap.size 36 zero5:=n1.D;have z1:=n1.size;have h1:=h.ext n1.E;have k1:Keep [E.s] w w1:=n1.E.any;refine go ?_;refine At (hP w1 ts h1 hN) rfl ?_ ?_;rotate_left
 ·rintro ch wq⟨y,z,C,rfl⟩;refine go ?_;exact Aj ⟨k1.trans y O,z,Run.callE C,rfl⟩
 rintro v w2⟨k2,a1,t2,k,q2,f2⟩;have h2:=h1.next k2 q2
 have b2:=b1.E k2 Dy;have k12:=k1.trans k2 O;have z2:=k2.size;have l2:t2.length<=ts.length:=(show t2<:+ts from k.suffix).length_le;replace f2:=f2.lt;obtain⟨r,rfl,a4,hone⟩:=f2.cells;obtain⟨d,B,D,m,p,rfl⟩:=Ab a4;refine Au (cs:=[d,B,D,m,p]) rfl rfl Dx hone (fun w3 Z=>?_);have h3:=h2.ext Z.E;have b3:=b2.E Z.E O;have z3:=Z.size;have e3:=Z.D;have f3:=f2.new Z;have k13:=k12.ext Z.E;obtain⟨ta,tc,c0,_⟩:=h3.st.D;have c2:=h3.st.lt;refine go ?_;refine AE (pstake_ok E w3 t2 E.mi infixT h3.st h3.st.inf U) rfl ?_;rintro v w4⟨a,o,t4,rfl,G,q4⟩;have h4:=h3.next a q4
 have b4:=b3.E a Dy;have e4:=e3.E a Dy;have f4:=f3.E a EA;have k14:=k13.trans a O;have z4:=a.size;refine go ?_;refine Au (cs:=takeV o) rfl rfl Dx (oneC_opr _) (fun j A=>?_);have h5:=h4.ext A.E;have b5:=b4.E A.E O;have e5:=e4.E A.E O;have f5:=f4.new A;have z5:=A.size;have g5:=A.D;have a9:=k14.ext A.E;refine go ?_;rcases take_inv G with⟨q,rfl,c1⟩|⟨rfl,rfl⟩
 ·replace g5:Blk j w4.heap.size 215 [iV q.op,iV q.indexed,iV q.val]:=g5;refine go ?_;refine Au (cs:=[iV q.op,AK [],iV q.val,iV 0,.slice none 0 0]) rfl rfl Dx (oneC_fml _ _ _ _ _ _ _ rfl rfl rfl rfl) (fun w6 l=>?_);have h6:=h5.ext l.E;have b6:=b5.E l.E O;have e6:=e5.E l.E O;have f6:=f5.new l;have g6:=g5.E l.E O;have z6:=l.size;have u6:=l.D;have b0:=a9.ext l.E;refine go ?_;refine At (index_ok E w6 t4 q h6.st) rfl ?_ ?_;rotate_left
  ·rintro ch wq⟨y,z,C,rfl⟩;refine go ?_;exact Aj ⟨b0.trans y O,z,Run.call k (G.bind (Run.bindE C)),rfl⟩
  rintro v wi⟨x,n,K,X,qi,rfl,c3,c4⟩;have hi:=h6.next x qi
  have bi:=b6.E x Dy;have ei:=e6.E x Dy;have fi:=f6.E x EA;have ui:=u6.E x Dy;have a8:=b0.trans x O;have zi:=x.size;have l5:K.length<=t4.length:=(show K<:+t4 from X.suffix).length_le;refine go ?_;cases n with
  |none=>
   refine go ?_;refine C_draw (.read 0 (.read 1 (.alt 2 (.alt 3 (.read 4 (.alt 5 .done .stop)) .stop) .stop))) An Dv (by repeat (first|exact nofr_fin|refine nofr_then ?_)) (fun H I ed=>⟨fun W=>Keep [E.s,j.heap.size] H W,?_,?_⟩)
   ·exact FK
   have hd:=(hi).ext I;have bd:=(bi).E I O;have gd:=(ui).E I O;have ed3:=(ei).E I O;have a3:=(fi).ext I;have zd:H.heap.size=(wi).heap.size:=by rw[ed]
   have fc:∀W,Keep [E.s,j.heap.size] H W->Cells W w2.heap.size 0 [d,B,D,m,p]:=fun W f=>(ed3.E f Dy).cells;((apply D_R rfl rfl;(intro W f;refine AQ rfl Dx (fc W f) ?_;exact AA ⟨rfl,rfl,rfl⟩))<;>(apply D_R rfl rfl;(intro W f;refine Af rfl ?_;exact AA ⟨rfl,rfl,rfl⟩)))
   refine D_E rfl ?_;refine At (hU K.length U H K hd (Nat.le_refl _)) rfl ?_ ?_;rotate_left
   ·rintro ch wq⟨y,z,C,rfl⟩;refine go ?_;exact Aj ⟨((a8).ext I).trans y O,z,Run.call k (G.bind (X.bind (Run.callE C))),rfl⟩
   rintro v w7⟨c,a2,t7,r7,u,f7⟩;have h7:=hd.next c u
   have b7:=bd.E c Dy;have g7:=gd.E c Dy;have f37:=a3.E c EA;have a7:=((a8).ext I).trans c O;have z7:=c.size;obtain⟨ds,rfl,a6,hone2⟩:=f7.cells;obtain⟨P,Q,V,T,R,rfl⟩:=Ab a6;refine AA ⟨fun W=>Keep [E.s,j.heap.size] w7 W,fun W f=>(c.mono O).trans f O,Keep.refl _ _,?_⟩;refine D_E rfl ?_;refine AP (out:=[d,B,D,m,p,P,Q,V,T,R]) rfl U EL (fun w8 g=>?_);have z8:=g.size;have b8:=b7.E g.E O;have g8:=g7.E g.E O;obtain⟨S8,F8⟩:=FsAt.fresh (ok:=fun b=>w.heap.size<b/\b≠j.heap.size) (L:=[[d,B,D,m,p],[P,Q,V,T,R]]) g (FsAt.two (f37.mono fun b S=>by simp only[fresh]at S⊢;omega) rfl (f7.mono fun b S=>by simp only[fresh]at S⊢;omega) rfl) U O;refine AA ⟨fun W=>Keep [E.s,j.heap.size] w8 W,fun W f=>g.E.any.trans f O,Keep.refl _ _,?_⟩;refine go ?_;refine D_E rfl ?_;refine AR rfl rfl rfl g8 O (fun w9 i=>?_);have b9:=b8.E i.E Dy;have g9:=i.D;have z9:=i.size;have f9:=(FAt.node q.op [] (q.val) 0 S8 F8).E i.E EF;refine AA ⟨fun W=>W=w9,fun W f=>f▸i.E.mono O,rfl,?_⟩;refine go ?_;refine CL rfl rfl f9 b9 rfl (fun w10 cs' e a5 t z10 a0=>go ?_);refine AU rfl rfl a5 a0.cells ⟨((a7.ext g.E).trans i.E Dy).trans t Dy,⟨q.op,[],q.val,0,[a1,a2]⟩,t7,Run.call k (G.bind (X.bind (Run.call r7 (Run.ret _ _)))),((u.ext g.E).E i.E Dy).E t Dy,?_⟩;rw[<-e];exact(f9.E t EF).mono (fun b S=>by simp only[fresh]at S⊢;omega)
  |some n=>
   refine go ?_;refine AR rfl rfl rfl ui O (fun wj F=>?_);have uj:Blk wj j.heap.size 36 [iV q.op,AK [],iV n,iV 0,.slice none 0 0]:=F.D;have hj:=hi.E F.E Dy;have bj:=bi.E F.E Dy;have ej:=ei.E F.E Dy;have fj:=fi.E F.E EA;have kwj:=a8.trans F.E Dy;have zj:=F.size;refine go ?_;refine C_draw (.read 0 (.read 1 (.alt 2 (.alt 3 (.read 4 (.alt 5 .done .stop)) .stop) .stop))) An Dv (by repeat (first|exact nofr_fin|refine nofr_then ?_)) (fun H I ed=>⟨fun W=>Keep [E.s,j.heap.size] H W,?_,?_⟩)
   ·exact FK
   have hd:=(hj).ext I;have bd:=(bj).E I O;have gd:=(uj).E I O;have ed3:=(ej).E I O;have a3:=(fj).ext I;have zd:H.heap.size=(wj).heap.size:=by rw[ed]
   have fc:∀W,Keep [E.s,j.heap.size] H W->Cells W w2.heap.size 0 [d,B,D,m,p]:=fun W f=>(ed3.E f Dy).cells;((apply D_R rfl rfl;(intro W f;refine AQ rfl Dx (fc W f) ?_;exact AA ⟨rfl,rfl,rfl⟩))<;>(apply D_R rfl rfl;(intro W f;refine Af rfl ?_;exact AA ⟨rfl,rfl,rfl⟩)))
   refine D_E rfl ?_;refine At (hU K.length U H K hd (Nat.le_refl _)) rfl ?_ ?_;rotate_left
   ·rintro ch wq⟨y,z,C,rfl⟩;refine go ?_;exact Aj ⟨((kwj).ext I).trans y O,z,Run.call k (G.bind (X.bind (Run.callE C))),rfl⟩
   rintro v w7⟨c,a2,t7,r7,u,f7⟩;have h7:=hd.next c u
   have b7:=bd.E c Dy;have g7:=gd.E c Dy;have f37:=a3.E c EA;have a7:=((kwj).ext I).trans c O;have z7:=c.size;obtain⟨ds,rfl,a6,hone2⟩:=f7.cells;obtain⟨P,Q,V,T,R,rfl⟩:=Ab a6;refine AA ⟨fun W=>Keep [E.s,j.heap.size] w7 W,fun W f=>(c.mono O).trans f O,Keep.refl _ _,?_⟩;refine D_E rfl ?_;refine AP (out:=[d,B,D,m,p,P,Q,V,T,R]) rfl U EL (fun w8 g=>?_);have z8:=g.size;have b8:=b7.E g.E O;have g8:=g7.E g.E O;obtain⟨S8,F8⟩:=FsAt.fresh (ok:=fun b=>w.heap.size<b/\b≠j.heap.size) (L:=[[d,B,D,m,p],[P,Q,V,T,R]]) g (FsAt.two (f37.mono fun b S=>by simp only[fresh]at S⊢;omega) rfl (f7.mono fun b S=>by simp only[fresh]at S⊢;omega) rfl) U O;refine AA ⟨fun W=>Keep [E.s,j.heap.size] w8 W,fun W f=>g.E.any.trans f O,Keep.refl _ _,?_⟩;refine go ?_;refine D_E rfl ?_;refine AR rfl rfl rfl g8 O (fun w9 i=>?_);have b9:=b8.E i.E Dy;have g9:=i.D;have z9:=i.size;have f9:=(FAt.node q.op [] (n) 0 S8 F8).E i.E EF;refine AA ⟨fun W=>W=w9,fun W f=>f▸i.E.mono O,rfl,?_⟩;refine go ?_;refine CL rfl rfl f9 b9 rfl (fun w10 cs' e a5 t z10 a0=>go ?_);refine AU rfl rfl a5 a0.cells ⟨((a7.ext g.E).trans i.E Dy).trans t Dy,⟨q.op,[],n,0,[a1,a2]⟩,t7,Run.call k (G.bind (X.bind (Run.call r7 (Run.ret _ _)))),((u.ext g.E).E i.E Dy).E t Dy,?_⟩;rw[<-e];exact(f9.E t EF).mono (fun b S=>by simp only[fresh]at S⊢;omega)
 ·refine go ?_;refine CL rfl rfl f5 b5 rfl (fun w6 r e a4 k6 z6 b6=>go ?_);refine AU rfl rfl a4 b6.cells ⟨a9.trans k6 Dy,a1,_,Run.call k (G.bind (Run.ret _ _)),h5.st.E k6 Dy,?_⟩;rw[<-e];exact(f5.E k6 EA).mono (fun b S=>by simp only[fresh]at S⊢;omega)
theorem chainP_and:ChainP [38] (body .untilN) (body .andL) where
 done h:=by
  rcases accepts_inv h with⟨e,_⟩|⟨_,_,_⟩
  ·cases e
  ·exact h.bind (Run.ret _ _)
 more h h1 h2:=h.bind (Run.call h1 (Run.call h2 (Run.ret _ _)))
 err1 h h1:=h.bind (Run.callE h1)
 err2 h h1 h2:=h.bind (Run.call h1 (Run.callE h2))
theorem chainP_or:ChainP [124] (body .andN) (body .orL) where
 done h:=by
  rcases accepts_inv h with⟨e,_⟩|⟨_,_,_⟩
  ·cases e
  ·exact h.bind (Run.ret _ _)
 more h h1 h2:=h.bind (Run.call h1 (Run.call h2 (Run.ret _ _)))
 err1 h h1:=h.bind (Run.callE h1)
 err2 h h1 h2:=h.bind (Run.call h1 (Run.callE h2))
theorem and_ok(E:Env)(N:Nat)(z:Cm E N 295 (body .untilN)):Cm E N 290 (body .andN):=by
 intro w T h u;have a0:=h.st.slt;unfold PDo;refine A7 Tryz.func290 rfl Tryz.ntmps290 nlr Dv (go ?_);refine AS (fun R j=>?_);have m:Blk R w.heap.size 36 zero5:=j.D;have z1:=j.size;have X:=h.ext j.E;have f:Keep [E.s] w R:=j.E.any;refine go ?_;refine At (chain_ok E N 295 [38] (body .untilN) (body .andL) chainP_and z R T X u) rfl ?_ ?_;rotate_left
 ·rintro Z wq⟨H,D,C,rfl⟩;refine go ?_;refine Aj ⟨f.trans H O,D,?_,rfl⟩;rcases C.bind_inv with⟨a,I,F,c⟩|⟨e,F,c⟩
  ·rcases c.bind_inv with⟨l,p,n,V⟩|⟨e,n,V⟩
   ·cases V.det (Run.ret _ _)
   ·cases V;exact Run.call F (Run.callE n)
  ·cases c;exact Run.callE F
 rintro v W⟨i,l,Q,M,q,P,K,L,rfl,A,x,r⟩;have h2:=X.next i q
 have d:=m.E i Dy;have G:=f.trans i O;have z2:=i.size;refine AE (psnode_ok W 5 (fresh R) P K L l x r A) rfl ?_;rintro v w3⟨g,k⟩;have y:=d.E g O;refine CL rfl rfl k y rfl (fun w4 cs e B o z4 t=>go ?_);refine AU rfl rfl B t.cells ⟨(G.ext g).trans o Dy,nodeF 5 l,Q,?_,(q.ext g).E o Dy,?_⟩
 ·rcases M.bind_inv with⟨a,I,F,c⟩|⟨e,F,c⟩
  ·rcases c.bind_inv with⟨l,p,n,V⟩|⟨e,n,V⟩
   ·cases V.det (Run.ret _ _);exact Run.call F (Run.call n (Run.ret _ _))
   ·cases V
  ·cases c
 ·rw[<-e];exact(k.E o EA).mono (fun b S=>by simp only[fresh]at S⊢;omega)
theorem or_ok(E:Env)(N:Nat)(z:Cm E N 290 (body .andN)):Cm E N 276 (body .orN):=by
 intro w T h u;have a0:=h.st.slt;unfold PDo;refine A7 Tryz.func276 rfl Tryz.ntmps276 nlr Dv (go ?_);refine AS (fun R j=>?_);have m:Blk R w.heap.size 36 zero5:=j.D;have z1:=j.size;have X:=h.ext j.E;have f:Keep [E.s] w R:=j.E.any;refine go ?_;refine At (chain_ok E N 290 [124] (body .andN) (body .orL) chainP_or z R T X u) rfl ?_ ?_;rotate_left
 ·rintro Z wq⟨H,D,C,rfl⟩;refine go ?_;refine Aj ⟨f.trans H O,D,?_,rfl⟩;rcases C.bind_inv with⟨a,I,F,c⟩|⟨e,F,c⟩
  ·rcases c.bind_inv with⟨l,p,n,V⟩|⟨e,n,V⟩
   ·cases V.det (Run.ret _ _)
   ·cases V;exact Run.call F (Run.callE n)
  ·cases c;exact Run.callE F
 rintro v W⟨i,l,Q,M,q,P,K,L,rfl,A,x,r⟩;have h2:=X.next i q
 have d:=m.E i Dy;have G:=f.trans i O;have z2:=i.size;refine AE (psnode_ok W 6 (fresh R) P K L l x r A) rfl ?_;rintro v w3⟨g,k⟩;have y:=d.E g O;refine CL rfl rfl k y rfl (fun w4 cs e B o z4 t=>go ?_);refine AU rfl rfl B t.cells ⟨(G.ext g).trans o Dy,nodeF 6 l,Q,?_,(q.ext g).E o Dy,?_⟩
 ·rcases M.bind_inv with⟨a,I,F,c⟩|⟨e,F,c⟩
  ·rcases c.bind_inv with⟨l,p,n,V⟩|⟨e,n,V⟩
   ·cases V.det (Run.ret _ _);exact Run.call F (Run.call n (Run.ret _ _))
   ·cases V
  ·cases c
 ·rw[<-e];exact(k.E o EA).mono (fun b S=>by simp only[fresh]at S⊢;omega)
theorem formula_ok(E:Env)(N:Nat)(hP:Cm E N 276 (body .orN))(hU:∀M,M<N->Cm E M 253 (body .formula)):Cm E N 253 (body .formula):=by
 intro w A h hN;have b4:=h.st.slt;unfold PDo;refine A7 Tryz.func253 rfl Tryz.ntmps253 nlr Dv (go ?_);refine AS (fun R n=>?_);have b1:Blk R w.heap.size 36 zero5:=n.D;have z1:=n.size;have h1:=h.ext n.E;have k1:Keep [E.s] w R:=n.E.any;refine go ?_;refine At (hP R A h1 hN) rfl ?_ ?_;rotate_left
 ·rintro ch wq⟨q,y,z,rfl⟩;refine go ?_;exact Aj ⟨k1.trans q O,y,Run.callE z,rfl⟩
 rintro v w2⟨l,u,X,k,q2,m⟩;have h2:=h1.next l q2
 have b2:=b1.E l Dy;have a7:=k1.trans l O;have z2:=l.size;have l2:X.length<=A.length:=(show X<:+A from k.suffix).length_le;replace m:=m.lt;obtain⟨r,rfl,x,a6⟩:=m.cells;obtain⟨d,B,D,i,j,rfl⟩:=Ab x;refine Au (cs:=[d,B,D,i,j]) rfl rfl Dx a6 (fun w3 Z=>?_);have h3:=h2.ext Z.E;have b3:=b2.E Z.E O;have z3:=Z.size;have e3:=Z.D;have f3:=m.new Z;have a8:=a7.ext Z.E;refine go ?_;refine AE (CG E w3 X [45,62] h3.st) rfl ?_;rintro _ w4⟨a,b,t4,rfl,o,q4⟩;have h4:=h3.next a q4
 have F:=b3.E a Dy;have e4:=e3.E a Dy;have C:=f3.E a EA;have p:=a8.trans a O;have z4:=a.size;refine go ?_;rcases accepts_inv o with⟨rfl,hl4,_,_⟩|⟨rfl,rfl,_⟩
 ·refine go ?_;refine C_draw (.read 0 (.read 1 (.alt 2 (.alt 3 (.read 4 (.alt 5 .done .stop)) .stop) .stop))) An Dv (by repeat (first|exact nofr_fin|refine nofr_then ?_)) (fun H I ed=>⟨fun W=>Keep [E.s,w.heap.size] H W,?_,?_⟩)
  ·exact FK
  have hd:=h4.ext I;have bd:=F.E I O;have a1:=e4.E I O;have a3:=C.ext I;have zd:H.heap.size=w4.heap.size:=by rw[ed]
  have fc:∀W,Keep [E.s,w.heap.size] H W->Cells W w2.heap.size 0 [d,B,D,i,j]:=fun W f=>(a1.E f Dy).cells;((apply D_R rfl rfl;(intro W f;refine AQ rfl Dx (fc W f) ?_;exact AA ⟨rfl,rfl,rfl⟩))<;>(apply D_R rfl rfl;(intro W f;refine Af rfl ?_;exact AA ⟨rfl,rfl,rfl⟩)))
  refine D_E rfl ?_;refine At (hU t4.length U H t4 hd (Nat.le_refl _)) rfl ?_ ?_;rotate_left
  ·rintro ch wq⟨q,y,z,rfl⟩;refine go ?_;exact Aj ⟨(p.ext I).trans q O,y,Run.call k (o.bind (Run.callE z)),rfl⟩
  rintro v w7⟨c,a2,t7,r7,q7,f7⟩;have b7:=bd.E c Dy;have f37:=a3.E c EA;have a9:=(p.ext I).trans c O;have z7:=c.size;obtain⟨ds,rfl,a5,hone2⟩:=f7.cells;obtain⟨K,P,V,T,d4,rfl⟩:=Ab a5;refine AA ⟨fun W=>Keep [E.s,w.heap.size] w7 W,fun W f=>(c.mono O).trans f O,Keep.refl _ _,?_⟩;refine D_E rfl ?_;refine AP (out:=[d,B,D,i,j,K,P,V,T,d4]) rfl U EL (fun w8 g=>?_);have z8:=g.size;have b8:=b7.E g.E O;obtain⟨S8,F8⟩:=FsAt.fresh (ok:=fun b=>w.heap.size<b) (L:=[[d,B,D,i,j],[K,P,V,T,d4]]) g (FsAt.two (f37.mono fun b S=>by simp only[fresh]at S⊢;omega) rfl (f7.mono fun b S=>by simp only[fresh]at S⊢;omega) rfl) U O;refine AA ⟨fun W=>Keep [E.s,w.heap.size] w8 W,fun W f=>g.E.any.trans f O,Keep.refl _ _,?_⟩;have G:=FAt.node 7 [] 0 0 S8 F8;refine go ?_;refine D_E rfl ?_;refine CL rfl rfl G b8 rfl (fun b0 cs' e a4 t b5 a0=>?_);refine AA ⟨fun W=>W=b0,fun W f=>f▸t.mono O,rfl,?_⟩;refine go ?_;refine AU rfl rfl a4 a0.cells ⟨(a9.ext g.E).trans t Dy,⟨7,[],0,0,[u,a2]⟩,t7,Run.call k (o.bind (Run.call r7 (Run.ret _ _))),(q7.ext g.E).E t Dy,?_⟩;rw[<-e];exact Fy
 ·refine go ?_;refine CL rfl rfl C F rfl (fun w6 r e x Q z6 b6=>go ?_);refine AU rfl rfl x b6.cells ⟨p.trans Q Dy,u,_,Run.call k (o.bind (Run.ret _ _)),h4.st.E Q Dy,?_⟩;rw[<-e];exact(C.E Q EA).mono (fun b S=>by simp only[fresh]at S⊢;omega)
theorem formulas_ok(E:Env)(N:Nat):Cm E N 304 (body .primary)/\Cm E N 297 (body .unary)/\Cm E N 295 (body .untilN)/\Cm E N 253 (body .formula):=by
 induction N using Nat.strongRecOn with
 |_ N ih=>
  have X:=primary_ok E N fun M a=>(ih M a).2.2.2;have W:=unary_ok E N X fun M a=>(ih M a).2.1;have Q:=psuntil_ok E N W fun M a=>(ih M a).2.2.1;exact⟨X,W,Q,formula_ok E N (or_ok E N (and_ok E N Q)) fun M a=>(ih M a).2.2.2⟩
def listR{α:Type}(R:Rp α)(b:0<R.size):Rp (List α) where
 fits ok w c l:=∃v,c=[v]/\SlAt R ok w v l
 size:=1
 len h:=by obtain⟨v,rfl,_⟩:=h;rfl
 one h:=by obtain⟨v,rfl,a,c,L,rfl,_⟩:=h;intro u n;simp at n;subst n;rfl
 E h k hX:=by obtain⟨v,e,a,c,L,q,X,W⟩:=h;exact⟨v,e,a,c,L,q,X.E k hX,W.E k hX⟩
 lt h:=by obtain⟨v,e,a,c,L,q,X,W⟩:=h;exact⟨v,e,a,c,L,q,Sl_ltR b X W,W.lt⟩
 mono h hk:=by obtain⟨v,e,a,c,L,q,X,W⟩:=h;exact⟨v,e,a,c,L,q,X.mono hk,W.mono hk⟩
structure WhileP{α:Type}(pm:G Bool)(pi:G α)(pl:G (List α)):Prop where
 done:∀{t},Run pm t (.ok (false,t))->Run pl t (.ok ([],t))
 more:∀{t t2 t3 a l},Run pm t (.ok (true,t))->Run pi t (.ok (a,t2))->Run pl t2 (.ok (l,t3))->Run pl t (.ok (a::l,t3))
 err1:∀{t e},Run pm t (.ok (true,t))->Run pi t (.error e)->Run pl t (.error e)
 err2:∀{t t2 a e},Run pm t (.ok (true,t))->Run pi t (.ok (a,t2))->Run pl t2 (.error e)->Run pl t (.error e)
 less:∀{t t2 a},Run pm t (.ok (true,t))->Run pi t (.ok (a,t2))->t2.length<t.length
def prepL{α:Type}(l:List α):Ans (List α)->Ans (List α)
 | .ok y=>.ok (l++y.1,y.2)
 | .error e=>.error e
theorem WhileP.step{α:Type}{pm:G Bool}{S:G α}{N:G (List α)}(h:WhileP pm S N){t b:List Tok}{a:α}(X:Run pm t (.ok (true,t)))(W:Run S t (.ok (a,b))){r:Ans (List α)}(x:Run N b r):Run N t (prepL [a] r):=by
 cases r with
 |ok y=>exact h.more X W x
 |error e=>exact h.err2 X W x
theorem prepL_app{α:Type}(l m:List α)(r:Ans (List α)):prepL l (prepL m r)=prepL (l++m) r:=by
 cases r<;>simp[prepL]
theorem prepL_nil{α:Type}(r:Ans (List α)):prepL [] r=r:=by cases r<;>simp[prepL]
def ItemR{α:Type}(R:Rp α)(M:LV->Value)(E:Env)(N:Nat)(g:FuncId)(S:G α):Prop:=∀(w:World)(k:List Tok),PW w E k->k.length<=N->PDo E g [pt E.s] w S k (fun Z v a=>∃c,v=M c/\R.fits (fresh w) Z c a)
def aggV(c:LV):Value:=.agg c.toArray
def oneV(c:LV):Value:=c.headD undef
def MoreOk(E:Env)(y:World)(g:FuncId)(v1 v2:LV)(pm:G Bool):Prop:=∀(w:World)(k:List Tok),Keep [E.s] y w->PW w E k->Fn Zp g (v1++[]++v2) w (fun v Z=>∃b,v=.bool b/\Run pm k (.ok (b,k))/\Z=w)
theorem madeSgn:(madeCells (Value.agg #[AK [],.bool false,iV 0]).cells (1*3)).toList=[AK [],.bool false,iV 0]:=by kernel_rfl
theorem madeReq:(madeCells (Value.agg #[AK [],AK [],iV 0,iV 0,AK [],iV 0,iV 0,.slice none 0 0]).cells (1*8)).toList=[AK [],AK [],iV 0,iV 0,AK [],iV 0,iV 0,.slice none 0 0]:=by kernel_rfl
theorem madeSl:(madeCells (Value.slice none 0 0).cells (1*1)).toList=[.slice none 0 0]:=by kernel_rfl
theorem cells3{cs:LV}(h:cs.length=3):∃d B D,cs=[d,B,D]:=by
 match cs,h with
 | [d,B,D],_=>exact⟨_,_,_,rfl⟩
theorem cells8'{cs:LV}(h:cs.length=8):∃d B D S f n X g,cs=[d,B,D,S,f,n,X,g]:=by
 match cs,h with
 | [d,B,D,S,f,n,X,g],_=>exact⟨_,_,_,_,_,_,_,_,rfl⟩
theorem whileSgn_ok(E:Env)(N:Nat)(m g:FuncId)[AF Zp m][AF Zp g](v1 v2:LV)(pm:G Bool)(R:G Sgn)(y:G (List Sgn))(M:WhileP pm R y)(w:World)(k:List Tok)(hM:MoreOk E w m v1 v2 pm)
  (hI:ItemR sgnR aggV E N g R)(h:PW w E k)(hN:k.length<=N):
  PDo E 108 [.func (.func m) v1.toArray v2.toArray,.func (.func g) #[pt E.s] #[]] w y k (fun w' v l=>∃L,w'.ownsRow w.heap.size 125 3 v l.length L.flatten/\RsAt sgnR (fun b=>fresh w b/\v.ownBlock≠some b) w' L l):=by
 have a6:=h.st.slt;unfold PDo;refine A7 Tryz.func108 rfl Tryz.ntmps108 nlr Dv (go ?_)
 refine Ah (α:=Value×List (LV)×List _×List Tok) (fun x=>[(0,.func (.func m) v1.toArray v2.toArray),(1,.func (.func g) #[pt E.s] #[]),(5,x.1)])
  (fun x W=>Keep [E.s] w W/\PW W E x.2.2.2/\x.2.2.1.length+x.2.2.2.length<=k.length/\x.2.2.2.length<=k.length/\W.ownsRow w.heap.size 125 3 x.1 x.2.2.1.length x.2.1.flatten/\RsAt (sgnR) (fun b=>fresh w b/\x.1.ownBlock≠some b) W x.2.1 x.2.2.1/\
   ∀r,Run y x.2.2.2 r->Run y k (prepL x.2.2.1 r))
  (fun x=>x.2.2.2.length) (.slice none 0 0,[],[],k) ⟨rfl,rfl,rfl,trivial⟩ ⟨Keep.refl _ _,h,by simp,Nat.le_refl _,⟨by simp,.inl ⟨rfl,rfl⟩⟩,RsAt.nil,fun r K=>by rw[prepL_nil];exact K⟩ ?_
 rintro⟨v,L,l,D⟩w3 f3⟨j,Q,P,a2,I,q,o⟩;simp only at j Q a2 P I q o⊢;refine go ?_;refine Az (v1:=v1) (v2:=v2) (vs:=[]) rfl (hM w3 D j Q) rfl ?_;rintro _ V⟨b,rfl,z,rfl⟩;have Z:∀g,v.ownBlock=some g->w.heap.size<=g/\g<V.heap.size:=fun g t=>Ad I t;have z3:=j.size;refine go ?_;cases b with
 |true=>
  refine go ?_;refine C0 (v1:=[pt E.s]) (v2:=[]) (vs:=[]) rfl (hI V D Q U) rfl ?_ ?_;rotate_left
  ·rintro ch w5⟨i,l,X,rfl⟩;refine go ?_;exact Aj ⟨j.trans i O,l,o _ (M.err1 z X),rfl⟩
  rintro u w5⟨i,a,c2,X,q5,c,rfl,F⟩;have h5:=Q.next i q5
  have a5:=M.less z X;have o5:=Ac I i (fun g t=>by have:=Z g t;simp;omega);have F5:=q.E i (fun b S=>by have:=S.1;simp[fresh]at this⊢;omega);have a4:=j.trans i O;have a0:=(sgnR).lt F;have z5:=i.size;have H:=(sgnR).len F;have a1:=(sgnR).one F;obtain⟨u0,u1,u2,a3⟩:=cells3 H;refine AP (out:=c) rfl U (by rw[madeSgn,a3];rfl) (fun w6 d=>?_);have z6:=d.size;have o6:=d.own (n:=1) (size:=3) H D3 (Nat.le_refl _);have a7:=h.st.cnt;refine Ap (ok:=AV) (v:=v) (sv:=.slice (sm w5.heap.size) 1 1) rfl rfl (Ae o5 d.E) (Aa o6 fun _ _=>trivial) U rfl H a1 U U U (fun C w7 f=>go ?_);have o7:=f.own;have h7:=(h5.ext d.E).E f.E (fun x T=>by have:=Z x (Option.mem_toList.1 T);omega)
  have p:∀b,C.ownBlock=some b->v.ownBlock=some b\/b=w6.heap.size:=fun b S=>by
   rcases f.D with e|e
   ·exact .inl ET
   ·rw[e]at S;exact .inr (Option.some.inj S).symm
  have F7:RsAt (sgnR) (fun b=>fresh w b/\C.ownBlock≠some b) w7 L l:=by
   refine((F5.lt.ext d.E).E f.E ?_).mono ?_
   ·rintro b⟨⟨_,S⟩,_⟩T;exact S (Option.mem_toList.1 T)
   ·rintro b⟨⟨h1,S⟩,B⟩;refine⟨h1,fun e=>?_⟩;rcases p b e with e|e
    ·exact S e
    ·omega
  have f7:(sgnR).fits (fun b=>fresh w b/\C.ownBlock≠some b) w7 c a:=by
   refine(sgnR).mono ((sgnR).E ((sgnR).ext a0 d.E) f.E ?_) ?_
   ·rintro b⟨S,B⟩T;have:=Z b (Option.mem_toList.1 T);simp[fresh]at S;omega
   ·rintro b⟨S,B⟩;simp only[fresh]at S⊢;refine⟨by omega,fun e=>?_⟩;rcases p b e with e|e
    ·have:=Z b e;omega
    ·omega
  refine⟨(C,L++[c],l++[a],c2),⟨rfl,⟨rfl,rfl,rfl,trivial⟩,⟨?_,h7,by simp only[List.length_append,List.length_cons,List.length_nil]at P⊢;omega,by simp only;omega,?_,F7.snoc f7,fun r K=>?_⟩⟩,by simp only;omega⟩
  ·exact Fb
  ·exact FU
  ·rw[<-prepL_app];exact o _ (M.step z X K)
 |false=>
  exact FN
theorem whileReq_ok(E:Env)(N:Nat)(m g:FuncId)[AF Zp m][AF Zp g](v1 v2:LV)(pm:G Bool)(R:G Rqm)(y:G (List Rqm))(M:WhileP pm R y)(w:World)(k:List Tok)(hM:MoreOk E w m v1 v2 pm)
  (hI:ItemR reqR aggV E N g R)(h:PW w E k)(hN:k.length<=N):
  PDo E 165 [.func (.func m) v1.toArray v2.toArray,.func (.func g) #[pt E.s] #[]] w y k (fun w' v l=>∃L,w'.ownsRow w.heap.size 38 8 v l.length L.flatten/\RsAt reqR (fun b=>fresh w b/\v.ownBlock≠some b) w' L l):=by
 have a6:=h.st.slt;unfold PDo;refine A7 Tryz.func165 rfl Tryz.ntmps165 nlr Dv (go ?_)
 refine Ah (α:=Value×List (LV)×List _×List Tok) (fun x=>[(0,.func (.func m) v1.toArray v2.toArray),(1,.func (.func g) #[pt E.s] #[]),(5,x.1)])
  (fun x W=>Keep [E.s] w W/\PW W E x.2.2.2/\x.2.2.1.length+x.2.2.2.length<=k.length/\x.2.2.2.length<=k.length/\W.ownsRow w.heap.size 38 8 x.1 x.2.2.1.length x.2.1.flatten/\RsAt (reqR) (fun b=>fresh w b/\x.1.ownBlock≠some b) W x.2.1 x.2.2.1/\
   ∀r,Run y x.2.2.2 r->Run y k (prepL x.2.2.1 r))
  (fun x=>x.2.2.2.length) (.slice none 0 0,[],[],k) ⟨rfl,rfl,rfl,trivial⟩ ⟨Keep.refl _ _,h,by simp,Nat.le_refl _,⟨by simp,.inl ⟨rfl,rfl⟩⟩,RsAt.nil,fun r K=>by rw[prepL_nil];exact K⟩ ?_
 rintro⟨v,L,l,D⟩w3 f3⟨j,Q,P,a2,I,q,o⟩;simp only at j Q a2 P I q o⊢;refine go ?_;refine Az (v1:=v1) (v2:=v2) (vs:=[]) rfl (hM w3 D j Q) rfl ?_;rintro _ V⟨b,rfl,z,rfl⟩;have Z:∀g,v.ownBlock=some g->w.heap.size<=g/\g<V.heap.size:=fun g t=>Ad I t;have z3:=j.size;refine go ?_;cases b with
 |true=>
  refine go ?_;refine C0 (v1:=[pt E.s]) (v2:=[]) (vs:=[]) rfl (hI V D Q U) rfl ?_ ?_;rotate_left
  ·rintro ch w5⟨i,l,X,rfl⟩;refine go ?_;exact Aj ⟨j.trans i O,l,o _ (M.err1 z X),rfl⟩
  rintro u w5⟨i,a,c2,X,q5,c,rfl,F⟩;have h5:=Q.next i q5
  have a5:=M.less z X;have o5:=Ac I i (fun g t=>by have:=Z g t;simp;omega);have F5:=q.E i (fun b S=>by have:=S.1;simp[fresh]at this⊢;omega);have a4:=j.trans i O;have a0:=(reqR).lt F;have z5:=i.size;have H:=(reqR).len F;have a1:=(reqR).one F;obtain⟨u0,u1,u2,u3,u4,u5,u6,u7,a3⟩:=cells8' H;refine AP (out:=c) rfl U (by rw[madeReq,a3];rfl) (fun w6 d=>?_);have z6:=d.size;have o6:=d.own (n:=1) (size:=8) H D3 (Nat.le_refl _);have a7:=h.st.cnt;refine Ap (ok:=AV) (v:=v) (sv:=.slice (sm w5.heap.size) 1 1) rfl rfl (Ae o5 d.E) (Aa o6 fun _ _=>trivial) U rfl H a1 U U U (fun C w7 f=>go ?_);have o7:=f.own;have h7:=(h5.ext d.E).E f.E (fun x T=>by have:=Z x (Option.mem_toList.1 T);omega)
  have p:∀b,C.ownBlock=some b->v.ownBlock=some b\/b=w6.heap.size:=fun b S=>by
   rcases f.D with e|e
   ·exact .inl ET
   ·rw[e]at S;exact .inr (Option.some.inj S).symm
  have F7:RsAt (reqR) (fun b=>fresh w b/\C.ownBlock≠some b) w7 L l:=by
   refine((F5.lt.ext d.E).E f.E ?_).mono ?_
   ·rintro b⟨⟨_,S⟩,_⟩T;exact S (Option.mem_toList.1 T)
   ·rintro b⟨⟨h1,S⟩,B⟩;refine⟨h1,fun e=>?_⟩;rcases p b e with e|e
    ·exact S e
    ·omega
  have f7:(reqR).fits (fun b=>fresh w b/\C.ownBlock≠some b) w7 c a:=by
   refine(reqR).mono ((reqR).E ((reqR).ext a0 d.E) f.E ?_) ?_
   ·rintro b⟨S,B⟩T;have:=Z b (Option.mem_toList.1 T);simp[fresh]at S;omega
   ·rintro b⟨S,B⟩;simp only[fresh]at S⊢;refine⟨by omega,fun e=>?_⟩;rcases p b e with e|e
    ·have:=Z b e;omega
    ·omega
  refine⟨(C,L++[c],l++[a],c2),⟨rfl,⟨rfl,rfl,rfl,trivial⟩,⟨?_,h7,by simp only[List.length_append,List.length_cons,List.length_nil]at P⊢;omega,by simp only;omega,?_,F7.snoc f7,fun r K=>?_⟩⟩,by simp only;omega⟩
  ·exact Fb
  ·exact FU
  ·rw[<-prepL_app];exact o _ (M.step z X K)
 |false=>
  exact FN
def reqsR:Rp (List Rqm):=listR reqR (by show 0<8;decide)
theorem reqs_form{ok:Nat->Prop}{w:World}{c:LV}{a:List Rqm}(h:reqsR.fits ok w c a):∃L K,c=[.slice L a.length K]:=by
 obtain⟨o,b,d,v,_,A,_⟩:=h;exact⟨d,v,by rw[b,A]⟩
theorem whileReqs_ok(E:Env)(N:Nat)(o g:FuncId)[AF Zp o][AF Zp g](v1 v2:LV)(pm:G Bool)(R:G (List Rqm))(z:G (List (List Rqm)))(M:WhileP pm R z)(w:World)(k:List Tok)(hM:MoreOk E w o v1 v2 pm)
  (hI:ItemR reqsR oneV E N g R)(h:PW w E k)(hN:k.length<=N):
  PDo E 110 [.func (.func o) v1.toArray v2.toArray,.func (.func g) #[pt E.s] #[]] w z k (fun w' v l=>∃L,w'.ownsRow w.heap.size 52 1 v l.length L.flatten/\RsAt reqsR (fun b=>fresh w b/\v.ownBlock≠some b) w' L l):=by
 have a6:=h.st.slt;unfold PDo;refine A7 Tryz.func110 rfl Tryz.ntmps110 nlr Dv (go ?_)
 refine Ah (α:=Value×List (LV)×List _×List Tok) (fun x=>[(0,.func (.func o) v1.toArray v2.toArray),(1,.func (.func g) #[pt E.s] #[]),(5,x.1)])
  (fun x W=>Keep [E.s] w W/\PW W E x.2.2.2/\x.2.2.1.length+x.2.2.2.length<=k.length/\x.2.2.2.length<=k.length/\W.ownsRow w.heap.size 52 1 x.1 x.2.2.1.length x.2.1.flatten/\RsAt (reqsR) (fun b=>fresh w b/\x.1.ownBlock≠some b) W x.2.1 x.2.2.1/\
   ∀r,Run z x.2.2.2 r->Run z k (prepL x.2.2.1 r))
  (fun x=>x.2.2.2.length) (.slice none 0 0,[],[],k) ⟨rfl,rfl,rfl,trivial⟩ ⟨Keep.refl _ _,h,by simp,Nat.le_refl _,⟨by simp,.inl ⟨rfl,rfl⟩⟩,RsAt.nil,fun r H=>by rw[prepL_nil];exact H⟩ ?_
 rintro⟨v,L,l,F⟩w3 f3⟨j,Q,P,a2,I,q,y⟩;simp only at j Q a2 P I q y⊢;refine go ?_;refine Az (v1:=v1) (v2:=v2) (vs:=[]) rfl (hM w3 F j Q) rfl ?_;rintro _ V⟨b,rfl,C,rfl⟩;have Z:∀g,v.ownBlock=some g->w.heap.size<=g/\g<V.heap.size:=fun g t=>Ad I t;have z3:=j.size;refine go ?_;cases b with
 |true=>
  refine go ?_;refine C0 (v1:=[pt E.s]) (v2:=[]) (vs:=[]) rfl (hI V F Q U) rfl ?_ ?_;rotate_left
  ·rintro ch w5⟨i,l,X,rfl⟩;refine go ?_;exact Aj ⟨j.trans i O,l,y _ (M.err1 C X),rfl⟩
  rintro u w5⟨i,a,c2,X,q5,c,rfl,m⟩;have h5:=Q.next i q5
  have a5:=M.less C X;have o5:=Ac I i (fun g t=>by have:=Z g t;simp;omega);have F5:=q.E i (fun b S=>by have:=S.1;simp[fresh]at this⊢;omega);have a4:=j.trans i O;have a0:=(reqsR).lt m;have z5:=i.size;have K:=(reqsR).len m;have a1:=(reqsR).one m;obtain⟨a8,a9,a3⟩:=reqs_form m;refine AP (out:=c) rfl U (by rw[madeSl,a3];rfl) (fun w6 d=>?_);have z6:=d.size;have o6:=d.own (n:=1) (size:=1) K D3 (Nat.le_refl _);have a7:=h.st.cnt;refine Ap (ok:=AV) (v:=v) (sv:=.slice (sm w5.heap.size) 1 1) rfl rfl (Ae o5 d.E) (Aa o6 fun _ _=>trivial) U rfl K a1 U U U (fun D w7 f=>go ?_);have o7:=f.own;have h7:=(h5.ext d.E).E f.E (fun x T=>by have:=Z x (Option.mem_toList.1 T);omega)
  have p:∀b,D.ownBlock=some b->v.ownBlock=some b\/b=w6.heap.size:=fun b S=>by
   rcases f.D with e|e
   ·exact .inl ET
   ·rw[e]at S;exact .inr (Option.some.inj S).symm
  have F7:RsAt (reqsR) (fun b=>fresh w b/\D.ownBlock≠some b) w7 L l:=by
   refine((F5.lt.ext d.E).E f.E ?_).mono ?_
   ·rintro b⟨⟨_,S⟩,_⟩T;exact S (Option.mem_toList.1 T)
   ·rintro b⟨⟨h1,S⟩,B⟩;refine⟨h1,fun e=>?_⟩;rcases p b e with e|e
    ·exact S e
    ·omega
  have f7:(reqsR).fits (fun b=>fresh w b/\D.ownBlock≠some b) w7 c a:=by
   refine(reqsR).mono ((reqsR).E ((reqsR).ext a0 d.E) f.E ?_) ?_
   ·rintro b⟨S,B⟩T;have:=Z b (Option.mem_toList.1 T);simp[fresh]at S;omega
   ·rintro b⟨S,B⟩;simp only[fresh]at S⊢;refine⟨by omega,fun e=>?_⟩;rcases p b e with e|e
    ·have:=Z b e;omega
    ·omega
  refine⟨(D,L++[c],l++[a],c2),⟨rfl,⟨rfl,rfl,rfl,trivial⟩,⟨?_,h7,by simp only[List.length_append,List.length_cons,List.length_nil]at P⊢;omega,by simp only;omega,?_,F7.snoc f7,fun r H=>?_⟩⟩,by simp only;omega⟩
  ·exact Fb
  ·exact FU
  ·rw[<-prepL_app];exact y _ (M.step C X H)
 |false=>
  refine go ?_;have hS:=Aa (ok:=fresh w) I (fun g t=>(Z g t).1);obtain⟨sa,sc,rfl,_⟩:=id hS;refine go ?_;have A:=y _ (M.done C);simp only[prepL,List.append_nil]at A;exact AB rfl ⟨j,l,F,A,Q.st,L,I,q⟩
end
section
variable {mk:Prop}[MK mk]
attribute [local semireducible] WC AT Bo BI Bj Cw DV Be
variable {P:Program}{all:Array Oper}
theorem stepP_mono{o:Oper}{f:Fr}{ds:DS}{w:World}{K K':Value->DS->World->Prop}{Z a:List PanicEntry->World->Prop}(s:∀v ds w,K v ds w->K' v ds w)(u:∀c w,Z c w->a c w)(h:Be P o f ds w K Z):Be P o f ds w K' a:=by
 unfold Be at h⊢;revert h;generalize (execOp (ev f) o).run P w=res;intro h;cases res with
 |halt x w'=>cases x<;>first|exact h.elim|exact u _ _ h
 |ok m w'=>
  cases m with
  |value v=>exact s _ _ _ h
  |skip=>exact s _ _ _ h
  |defer d=>exact s _ _ _ h
  |enter g args=>
   refine Calls.mono h fun e p F=>?_;cases e with
   |returned v=>exact s _ _ _ F
   |panicked ch=>exact u _ _ F
   |outgrown=>exact F
  |round l g tmps assign body=>
   refine RoundIn.mono h fun e p F=>?_;cases e with
   |returned v=>exact s _ _ _ F
   |panicked ch=>exact u _ _ F
   |outgrown=>exact F
  |_=>exact h.elim
theorem WOps_mono{Z a:Fr->DS->List PanicEntry->World->Prop}{K K':Fr->DS->World->Prop}(s:∀f ds w,K f ds w->K' f ds w)(u:∀f ds c w,Z f ds c w->a f ds c w):∀(l:List Oper)(f:Fr)(ds:DS)(w:World),AT P all Z K l f ds w->AT P all a K' l f ds w
 | [],f,ds,w,h=>s f ds w h
 |o::rest,f,ds,w,h=>by
  unfold AT at h⊢
  split at h
  ·rename_i hg;rw[if_pos hg];exact stepP_mono (fun v ds w x=>WOps_mono s u rest _ ds w x) (fun c w x=>u _ _ _ _ x) h
  ·rename_i hg;rw[if_neg hg];exact WOps_mono s u rest _ ds w h
theorem WC_mono{n:Cf}:∀(c:Code){Q k:DY}(_:∀e f ds w,Q e f ds w->k e f ds w)(f:Fr)(ds:DS)(w:World),WC P n c Q f ds w->WC P n c k f ds w
 | .skip,_,_,hQ,f,ds,w,h=>hQ _ f ds w h
 | .label _,_,_,hQ,f,ds,w,h=>hQ _ f ds w h
 | .ret,_,_,hQ,f,ds,w,h=>hQ _ f ds w h
 | .exit _,_,_,hQ,f,ds,w,h=>hQ _ f ds w h
 | .goto _,_,_,_,_,_,_,h=>h.elim
 | .refuse _,_,_,_,_,_,_,h=>h.elim
 | .seq a b,_,_,hQ,f,ds,w,h=>by
  refine WC_mono a ?_ f ds w h;intro e f ds w d;cases e with
  |normal=>exact WC_mono b hQ f ds w d
  |_=>exact hQ _ f ds w d
 | .block id c,_,_,hQ,f,ds,w,h=>by
  refine WC_mono c ?_ f ds w h;intro e f ds w d;cases e with
  |exit i=>
   simp only[BI]at d⊢
   split at d
   ·rename_i hi;rw[if_pos hi];exact hQ _ f ds w d
   ·rename_i hi;rw[if_neg hi];exact hQ _ f ds w d
  |_=>exact hQ _ f ds w d
 | .scope c,_,_,hQ,f,ds,w,h=>by
  refine WC_mono c ?_ f ds w h;intro e f ds w d;cases e with
  |goto _=>exact d
  |_=>exact hQ _ f ds w d
 | .cond c x y,_,_,hQ,f,ds,w,h=>by
  simp only[WC]at h⊢;cases hc:ev f c<;>simp only[hc]at h⊢
  case bool b=>
   cases b with
   |true=>exact WC_mono x hQ f ds w h
   |false=>exact WC_mono y hQ f ds w h
 | .region id ops draw,_,_,hQ,f,ds,w,h=>by
  cases draw with
  |false=>exact WOps_mono (fun f ds w d=>hQ _ f ds w d) (fun f ds c w d=>hQ _ f ds w d) ops.toList f ds w h
  |true=>exact fun a X W j=>wpIn_mono (h a X W j) (lift_mono hQ)
 | .loop c,_,_,hQ,f,ds,w,h=>by
  obtain⟨α,I,μ,x,s,m⟩:=h;refine⟨α,I,μ,x,s,fun x f ds w l=>WC_mono c ?_ f ds w (m x f ds w l)⟩;intro e f ds w d;cases e with
  |normal=>exact d
  |_=>exact hQ _ f ds w d
 | .rangeFunc g ps qs body,_,_,hQ,f,ds,w,h=>fun a X W j=>wpIn_mono (h a X W j) (lift_mono hQ)
def joinQ{α:Type}(L:α->List (Nat×Value))(I:α->World->Prop)(ds:DS)(Q:DY):DY
 | .normal=>fun W o Z=>∃x,o=ds/\agr (L x) W/\I x Z
 |e=>Q e
section
variable {n:Cf}{Q:DY}{f:Fr}{ds:DS}{w:World}{α:Type}{L:α->List (Nat×Value)}{I:α->World->Prop}{ds0:DS}
theorem DF{a:Code}{K:Fr->DS->World->Prop}(L:α->List (Nat×Value))(I:α->World->Prop)(X:WC P n a (joinQ L I ds Q) f ds w)(c:∀x w' W,I x w'->K (ov (L x) W) ds w'):WC P n a (Bo K Q) f ds w:=by
 refine WC_mono a ?_ f ds w X;intro e W o w' b;cases e with
 |normal=>
  obtain⟨x,rfl,d,y⟩:=b;have:=c x w' W y;rw[ov_of_agr d]at this;exact this
 |_=>exact b
theorem Ao(x:α)(a:agr (L x) f)(y:I x w):joinQ L I ds Q .normal f ds w:=⟨x,rfl,a,y⟩
instance :Nx (joinQ L I ds0 Q .ret f ds w) (0=0) (Q .ret f ds w):=⟨fun _ h=>h⟩
instance {i:Nat}:Nx (joinQ L I ds0 Q (.exit i) f ds w) (0=0) (Q (.exit i) f ds w):=⟨fun _ h=>h⟩
instance {c:List PanicEntry}:Nx (joinQ L I ds0 Q (.panic c) f ds w) (0=0) (Q (.panic c) f ds w):=⟨fun _ h=>h⟩
end
theorem fin_retA2{P:Program}{fn:Func}{R:Value->World->Prop}{Y:List PanicEntry->World->Prop}{f:Fr}{w:World}{t u x T n b:Nat}{L:LV}[hT:AggT P T n](c:fn.results.toList=[.cell t T,.tmp u,.tmp x])(a:f t=.pointer (sm b))(M:L.length=n)(V:Cells w b 0 L)(h:R (.tuple #[.agg L.toArray,f u,f x]) w):Cw P fn R Y .ret f [] w:=
 ⟨rfl,by rw[c];exact⟨_,_,a,Dk hT M V,h⟩⟩
attribute [irreducible] joinQ
end
section
variable {mk:Prop}[MK mk]
def zero8:LV:=[AK [],AK [],iV 0,iV 0,AK [],iV 0,iV 0,.slice none 0 0]
theorem signal_ok(E:Env)(N:Nat):ItemR sgnR aggV E N 109 (body .signal):=by
 intro w ts h hN;have a9:=h.st.slt;unfold PDo;refine A7 Tryz.func109 rfl Tryz.ntmps109 nlr Dv (go ?_);refine AS (fun R I=>?_);have b1:Blk R w.heap.size 125 [AK [],.bool false,iV 0]:=I.D;have z1:=I.size;have h1:=h.ext I.E;have k1:Keep [E.s] w R:=I.E.any;refine go ?_;refine AE (CG E R ts [105,110,112,117,116] h1.st) rfl ?_;rintro _ L⟨l,i,t2,rfl,k,q2⟩;have h2:=h1.next l q2
 have b2:=b1.E l Dy;have a3:=k1.trans l O;have z2:=l.size;refine go ?_;refine Au (cs:=[AK [],.bool i,iV 2]) rfl rfl Dx (by intro u g;simp at g;rcases g with rfl|rfl|rfl<;>rfl) (fun w3 Z=>?_);have Q:=h2.ext Z.E;have y:=b2.E Z.E O;have z3:=Z.size;have e3:=Z.D;have M:=a3.ext Z.E;refine go ?_
 refine DF (α:=List Tok) (fun _=>[(0,pt E.s),(2,pt w.heap.size),(3,pt L.heap.size)])
  (fun t W=>Run (if i then .ret ()else DD [111,117,116,112,117,116]:G Unit) t2 (.ok ((),t))/\PW W E t/\Keep [E.s] w W/\w3.heap.size<=W.heap.size/\Blk W w.heap.size 125 [AK [],.bool false,iV 0]/\Blk W L.heap.size 125 [AK [],.bool i,iV 2]) ?_ ?_
 ·cases i with
  |true=>
   refine go ?_;exact Ao t2 ⟨rfl,rfl,rfl,trivial⟩ ⟨Run.ret _ _,Q,M,Nat.le_refl _,y,e3⟩
  |false=>
   refine go ?_;refine At (DA E w3 t2 [111,117,116,112,117,116] Q.st) rfl ?_ ?_;rotate_left
   ·rintro m F⟨d,D,C,rfl⟩;refine go ?_;exact Aj ⟨M.trans d O,D,k.bind (Run.bindE C),rfl⟩
   rintro v w4⟨a,_,t4,f,q4,rfl⟩;refine go ?_;exact Ao t4 ⟨rfl,rfl,rfl,trivial⟩ ⟨f,Q.next a q4,M.trans a O,a.size,y.E a Dy,e3.E a Dy⟩
 rintro t4 w4 f4⟨f,z,a0,z4,b4,e4⟩;refine go ?_;refine At (pname_ok E w4 t4 z.st z.gk) rfl ?_ ?_;rotate_left
 ·rintro m F⟨d,D,C,rfl⟩;refine go ?_;exact Aj ⟨a0.trans d O,D,k.bind (f.bind (Run.bindE C)),rfl⟩
 rintro v w5⟨j,s,t5,X,q5,rfl,hs⟩;have h5:=z.next j q5
 have b5:=b4.E j Dy;have e5:=e4.E j Dy;have a4:=a0.trans j O;have z5:=j.size;refine go ?_;refine AR rfl rfl rfl e5 O (fun w6 q=>?_);have h6:=h5.E q.E Dy;have b6:=b5.E q.E Dy;have e6:Blk w6 L.heap.size 125 [AK s,.bool i,iV 2]:=q.D;have a5:=a4.trans q.E Dy;have z6:=q.size;refine go ?_;refine AE (CG E w6 t5 [58] h6.st) rfl ?_;rintro _ w7⟨o,c,t7,rfl,r7,q7⟩;have K:=h6.next o q7
 have e:=b6.E o Dy;have e7:=e6.E o Dy;have P:=a5.trans o O;have z7:=o.size;refine go ?_
 refine DF (α:=List Tok×Int) (fun _=>[(0,pt E.s),(2,pt w.heap.size),(3,pt L.heap.size)])
  (fun x W=>Run ((Bb [58]).bind fun b=>if b then numberG else .ret 2) t5 (.ok (x.2,x.1))/\PW W E x.1/\Keep [E.s] w W/\w3.heap.size<=W.heap.size/\Blk W w.heap.size 125 [AK [],.bool false,iV 0]/\Blk W L.heap.size 125 [AK s,.bool i,iV x.2]) ?_ ?_
 ·cases c with
  |true=>
   refine go ?_;refine At (number_ok E w7 t7 K.st) rfl ?_ ?_;rotate_left
   ·rintro m F⟨d,D,C,rfl⟩;refine go ?_;exact Aj ⟨P.trans d O,D,k.bind (f.bind (X.bind (Run.bindE (r7.bind C)))),rfl⟩
   rintro v w8⟨p,n,V,T,q8,rfl,a7,a8⟩;have B:=K.next p q8
   have A:=e.E p Dy;have H:=e7.E p Dy;have z8:=p.size;refine go ?_;refine AR rfl rfl rfl H O (fun w9 r=>?_);have z9:=r.size;refine go ?_;exact Ao (V,n) ⟨rfl,rfl,rfl,trivial⟩ ⟨r7.bind T,B.E r.E Dy,(P.trans p O).trans r.E Dy,by omega,A.E r.E Dy,r.D⟩
  |false=>
   refine go ?_;exact Ao (t7,2) ⟨rfl,rfl,rfl,trivial⟩ ⟨r7.bind (Run.ret _ _),K,P,by omega,e,e7⟩
 rintro⟨V,n⟩w8 f8⟨T,B,a1,z8,A,H⟩;simp only at T B H;refine go ?_;refine At (DA E w8 V [59] B.st) rfl ?_ ?_;rotate_left
 ·rintro m F⟨d,D,C,rfl⟩;refine go ?_;exact Aj ⟨a1.trans d O,D,k.bind (f.bind (X.bind (T.bind (Run.bindE C)))),rfl⟩
 rintro v w9⟨k9,_,t9,r9,q9,rfl⟩;have b9:=A.E k9 Dy;have e9:=H.E k9 Dy;refine go ?_;refine AH (cs:=[AK s,.bool i,iV n]) rfl rfl rfl (by intro u g;simp at g;rcases g with rfl|rfl|rfl<;>rfl) b9 O (fun a6 S=>?_);refine go ?_;have a2:Blk a6 w.heap.size 125 [AK s,.bool i,iV n]:=S.D;exact AU rfl rfl rfl a2.cells ⟨(a1.trans k9 O).trans S.E Dy,⟨s,i,n⟩,t9,k.bind (f.bind (X.bind (T.bind (r9.bind (Run.ret _ _))))),q9.E S.E Dy,_,rfl,rfl⟩
theorem requirement_ok(E:Env)(N:Nat):ItemR reqR aggV E N 198 (body .req):=by
 intro w ts h hN;have hsl:=h.st.slt;unfold PDo;refine A7 Tryz.func198 rfl Tryz.ntmps198 nlr Dv (go ?_);refine AS (fun R L=>?_);have b1:Blk R w.heap.size 38 zero8:=L.D;have z1:=L.size;have h1:=h.ext L.E;have k1:Keep [E.s] w R:=L.E.any;refine go ?_;refine Au (cs:=[AK [],AK [],iV 1,iV 0,AK [],iV 0,iV 0,.slice none 0 0]) rfl rfl Dx (by intro u n;simp at n;rcases n with rfl|rfl|rfl|rfl|rfl|rfl<;>rfl) (fun w3 Z=>?_);have h3:=h1.ext Z.E;have b3:=b1.E Z.E O;have z3:=Z.size;have e3:=Z.D;have a8:=k1.ext Z.E;refine go ?_;refine AE (CG E w3 ts [97,115,115,117,109,101] h3.st) rfl ?_;rintro _ w2⟨l,i,T,rfl,k,q2⟩;have P:=h3.next l q2
 have b2:=b3.E l Dy;have A:=e3.E l Dy;have Q:=a8.trans l O;have z2:=l.size;refine go ?_
 refine DF (α:=List Tok×Int) (fun _=>[(0,pt E.s),(2,pt w.heap.size),(3,pt R.heap.size)])
  (fun x W=>Run (if i then .ret 1 else(DD [103,117,97,114,97,110,116,101,101]).bind fun _=>.ret 2:G Int) T (.ok (x.2,x.1))/\PW W E x.1/\Keep [E.s] w W/\w3.heap.size<=W.heap.size/\Blk W w.heap.size 38 zero8/\Blk W R.heap.size 38 [AK [],AK [],iV x.2,iV 0,AK [],iV 0,iV 0,.slice none 0 0]) ?_ ?_
 ·cases i with
  |true=>
   refine go ?_;exact Ao (T,1) ⟨rfl,rfl,rfl,trivial⟩ ⟨Run.ret _ _,P,Q,by omega,b2,A⟩
  |false=>
   refine go ?_;refine At (DA E w2 T [103,117,97,114,97,110,116,101,101] P.st) rfl ?_ ?_;rotate_left
   ·rintro m F⟨e,D,C,rfl⟩;refine go ?_;exact Aj ⟨Q.trans e O,D,k.bind (Run.bindE (Run.bindE C)),rfl⟩
   rintro v w4⟨a,_,t4,j,q4,rfl⟩;have V:=A.E a Dy;have z4:=a.size;refine go ?_;refine AR rfl rfl rfl V O (fun w5 y=>?_);have z5:=y.size;refine go ?_;exact Ao (t4,2) ⟨rfl,rfl,rfl,trivial⟩ ⟨j.bind (Run.ret _ _),(P.next a q4).E y.E Dy,(Q.trans a O).trans y.E Dy,by omega,(b2.E a Dy).E y.E Dy,y.D⟩
 rintro⟨t4,I⟩w4 f4⟨j,z,a1,z4,b4,V⟩;simp only at j z V;refine go ?_;refine At (pname_ok E w4 t4 z.st z.gk) rfl ?_ ?_;rotate_left
 ·rintro m F⟨e,D,C,rfl⟩;refine go ?_;exact Aj ⟨a1.trans e O,D,k.bind (j.bind (Run.bindE C)),rfl⟩
 rintro v w5⟨t,s,t5,X,q5,rfl,hs⟩;have h5:=z.next t q5
 have b5:=b4.E t Dy;have e5:=V.E t Dy;have a9:=a1.trans t O;have z5:=t.size;refine go ?_;refine AR rfl rfl rfl e5 O (fun w6 H=>?_);have h6:=h5.E H.E Dy;have b6:=b5.E H.E Dy;have e6:Blk w6 R.heap.size 38 [AK [],AK s,iV I,iV 0,AK [],iV 0,iV 0,.slice none 0 0]:=H.D;have a2:=a9.trans H.E Dy;have z6:=H.size;refine go ?_;refine At (DA E w6 t5 [58] h6.st) rfl ?_ ?_;rotate_left
 ·rintro m F⟨e,D,C,rfl⟩;refine go ?_;exact Aj ⟨a2.trans e O,D,k.bind (j.bind (X.bind (Run.bindE C))),rfl⟩
 rintro v w7⟨c,_,t7,r7,q7,rfl⟩;have h7:=h6.next c q7
 have b7:=b6.E c Dy;have e7:=e6.E c Dy;have a3:=a2.trans c O;have z7:=c.size;refine go ?_;refine At ((formulas_ok E t7.length).2.2.2 w7 t7 h7 (Nat.le_refl _)) rfl ?_ ?_;rotate_left
 ·rintro m F⟨e,D,C,rfl⟩;refine go ?_;exact Aj ⟨a3.trans e O,D,k.bind (j.bind (X.bind (r7.bind (Run.callE C)))),rfl⟩
 rintro v w8⟨K,g,t8,r8,q8,f8⟩;have b8:=b7.E K Dy;have e8:=e7.E K Dy;have b0:=a3.trans K O;have z8:=K.size;obtain⟨r,rfl,a6,a0⟩:=f8.cells;obtain⟨d,B,o,S,f,rfl⟩:=Ab a6;refine go ?_;refine AH (cs:=[d,B,o,S,f]) rfl rfl rfl a0 e8 O (fun w9 p=>?_);have b9:=b8.E p.E Dy;have e9:Blk w9 R.heap.size 38 [AK [],AK s,iV I,d,B,o,S,f]:=p.D;have f9:=f8.E p.E (by intro b q;simp[fresh]at q⊢;omega);have z9:=p.size;refine go ?_
 have a7:oneC [AK [],AK s,iV I,d,B,o,S,f]:=by
  intro u n;simp only[List.mem_cons,List.not_mem_nil,or_false]at n;rcases n with rfl|rfl|rfl|n
  ·rfl
  ·rfl
  ·rfl
  ·exact a0 u (by simp only[List.mem_cons,List.not_mem_nil,or_false];exact n)
 refine AH (cs:=[AK [],AK s,iV I,d,B,o,S,f]) rfl rfl rfl a7 b9 (by simp[zero8]) (fun w10 M=>go ?_);have a4:Blk w10 w.heap.size 38 [AK [],AK s,iV I,d,B,o,S,f]:=M.D;have a5:=f9.E M.E (by intro b q;simp[fresh]at q⊢;omega);exact AU rfl rfl rfl a4.cells ⟨(b0.trans p.E Dy).trans M.E Dy,⟨[],s,I,g⟩,t8,k.bind (j.bind (X.bind (r7.bind (Run.call r8 (Run.ret _ _))))),(q8.E p.E Dy).E M.E Dy,_,rfl,[d,B,o,S,f],rfl,rfl,a5.mono fun b q=>by simp only[fresh]at q⊢;omega⟩
theorem line_ok(E:Env)(N:Nat):ItemR reqR aggV E N 167 (body .line):=by
 intro w L h e;have a0:=h.st.slt;unfold PDo;refine A7 Tryz.func167 rfl Tryz.ntmps167 nlr Dv (go ?_);refine AS (fun R g=>?_);have u:Blk R w.heap.size 38 zero8:=g.D;have z1:=g.size;have X:=h.ext g.E;have f:Keep [E.s] w R:=g.E.any;refine go ?_;refine At (requirement_ok E N R L X e) rfl ?_ ?_;rotate_left
 ·rintro x wq⟨p,D,C,rfl⟩;refine go ?_;exact Aj ⟨f.trans p O,D,Run.callE C,rfl⟩
 rintro v w2⟨l,r,K,k,F,c,rfl,j⟩;have W:=X.next l F
 have d:=u.E l Dy;have G:=f.trans l O;have z2:=l.size;have m:c.length=8:=reqR.len j;have o:=reqR.one j;refine Au (cs:=c) rfl m Dx o (fun P Z=>?_);have Q:=W.ext Z.E;have y:=d.E Z.E O;have A:=reqR.ext j Z.E;have z3:=Z.size;have z:=Z.D;have q:=G.ext Z.E;refine go ?_;refine At (DA E P K [59] Q.st) rfl ?_ ?_;rotate_left
 ·rintro x wq⟨p,D,C,rfl⟩;refine go ?_;exact Aj ⟨q.trans p O,D,Run.call k (Run.bindE C),rfl⟩
 rintro v w4⟨a,_,n,I,H,rfl⟩;have t:=y.E a Dy;have V:=z.E a Dy;have B:=reqR.E A a EA;have z4:=a.size;refine go ?_;refine Bp rfl V m ?_;refine AH (cs:=c) rfl rfl m o t (by simp[zero8]) (fun w5 i=>go ?_)
 have M:Blk w5 w.heap.size 38 c:=by
  have:=i.D;rw[BV zero8 c m]at this;exact this
 have T:=reqR.E B i.E EA;exact AU rfl rfl m M.cells ⟨(q.trans a O).trans i.E Dy,r,n,Run.call k (I.bind (Run.ret _ _)),H.E i.E Dy,c,rfl,reqR.mono T fun b S=>by simp only[fresh]at S⊢;omega⟩
theorem run_sees2(s t:LU)(k:List Tok):Run (sees2 s t) k (.ok (C4 s (k.head?.map bare)||C4 t (k.head?.map bare),k)):=Run.look (Run.ret _ _)
theorem opened_ok(E:Env)(w:World):MoreOk E w 111 [pt E.s] [] (sees2 [112,97,114,116] [112,97,114,116]):=by
 intro w k _ h;show Fn Zp _ [pt E.s] _ _;refine AG Tryz.func111 rfl Tryz.ntmps111 (go ?_);refine AE (sees_ok E w k [112,97,114,116] h.st) rfl ?_;rintro v Z⟨rfl,rfl⟩;refine go ?_;refine AB rfl ⟨_,rfl,?_,rfl⟩;have:=run_sees2 [112,97,114,116] [112,97,114,116] k
 rwa [Bool.or_self]at this
theorem required_ok(E:Env)(w:World):MoreOk E w 166 [pt E.s] [] (sees2 [97,115,115,117,109,101] [103,117,97,114,97,110,116,101,101]):=by
 intro w k _ h;show Fn Zp _ [pt E.s] _ _;refine AG Tryz.func166 rfl Tryz.ntmps166 (go ?_);refine AE (sees_ok E w k [97,115,115,117,109,101] h.st) rfl ?_;rintro v Z⟨rfl,rfl⟩;have x:=run_sees2 [97,115,115,117,109,101] [103,117,97,114,97,110,116,101,101] k;cases hb:C4 [97,115,115,117,109,101] (k.head?.map bare)with
 |true=>
  refine go ?_;refine AB rfl ⟨_,rfl,?_,rfl⟩;rw[hb]at x;exact x
 |false=>
  refine go ?_;refine AE (sees_ok E Z k [103,117,97,114,97,110,116,101,101] h.st) rfl ?_;rintro v p⟨rfl,rfl⟩;refine go ?_;refine AB rfl ⟨_,rfl,?_,rfl⟩;rw[hb]at x;exact x
theorem declared_ok(E:Env)(y:World)(e:Nat)(T:Blk y e 121 [pt E.s])(A:e≠E.s):MoreOk E y 106 [] [pt e] (sees2 [105,110,112,117,116] [111,117,116,112,117,116]):=by
 intro w k P h;show Fn Zp _ [pt e] _ _;have S:=T.E P EI;refine AG Tryz.func106 rfl Tryz.ntmps106 (go ?_);refine AE (sees_ok E w k [105,110,112,117,116] h.st) rfl ?_;rintro v Z⟨rfl,rfl⟩;have x:=run_sees2 [105,110,112,117,116] [111,117,116,112,117,116] k;cases hc:C4 [105,110,112,117,116] (k.head?.map bare)with
 |true=>
  refine go ?_;refine AB rfl ⟨_,rfl,?_,rfl⟩;rw[hc]at x;exact x
 |false=>
  refine go ?_;refine AE (sees_ok E Z k [111,117,116,112,117,116] h.st) rfl ?_;rintro v p⟨rfl,rfl⟩;refine go ?_;refine AB rfl ⟨_,rfl,?_,rfl⟩;rw[hc]at x;exact x
theorem expect_inv{t:LU}{k r:List Tok}{u:Unit}(h:Run (DD t) k (.ok (u,r))):r.length+1=k.length:=by
 cases hs:C4 t (k.head?.map bare)with
 |true=>
  have e:=h.det (run_expect_t hs);cases e;cases k with
  |nil=>simp[C4]at hs
  |cons x l=>rfl
 |false=>have e:=h.det (run_expect_f hs);cases e
theorem name_inv{k r:List Tok}{s:LU}(h:Run nameG k (.ok (s,r))):r.length+1=k.length:=by
 cases k with
 |nil=>cases h.det (Run.look (Run.fail _))
 |cons x l=>
  cases hb:(decide (x.kind=1)&&CH x.text)with
  |true=>
   have a:Run nameG (x::l) (.ok (x.text,l)):=by
    refine Run.look ?_;show Run (if(decide (x.kind=1)&&CH x.text)=true then _ else _) _ _;rw[if_pos hb];exact Run.next (Run.ret _ _)
   cases h.det a;rfl
  |false=>
   have a:Run nameG (x::l) (.error (x::l)):=by
    refine Run.look ?_;show Run (if(decide (x.kind=1)&&CH x.text)=true then _ else _) _ _;rw[hb];exact Run.fail _
   cases h.det a
theorem Run.le{α:Type}{p:G α}{l v:List Tok}{a:α}(h:Run p l (.ok (a,v))):v.length<=l.length:=(show v<:+l from h.suffix).length_le
theorem Cz{α β:Type}{p:G α}{q:α->G β}{l v:List Tok}{b:β}(h:Run (p.bind q) l (.ok (b,v))):∃a f,Run p l (.ok (a,f))/\Run (q a) f (.ok (b,v)):=by
 rcases h.bind_inv with⟨a,f,X,W⟩|⟨e,_,W⟩
 ·exact⟨a,f,X,W⟩
 ·cases W
theorem call_ok{α:Type}{s:NT}{k:s.T->G α}{l v:List Tok}{b:α}(h:Run (.call s k) l (.ok (b,v))):∃a f,RunN s l (.ok (a,f))/\Run (k a) f (.ok (b,v)):=by
 rcases h.call_inv with⟨a,f,X,W⟩|⟨e,_,W⟩
 ·exact⟨a,f,X,W⟩
 ·cases W
theorem signal_less{t X:List Tok}{a:Sgn}(h:Run (body .signal) t (.ok (a,X))):X.length<t.length:=by
 exact Fo
theorem req_less{t X:List Tok}{a:Rqm}(h:Run (body .req) t (.ok (a,X))):X.length<t.length:=by
 exact Fo
theorem line_less{t X:List Tok}{a:Rqm}(h:Run (body .line) t (.ok (a,X))):X.length<t.length:=by
 obtain⟨r,R,Z,h⟩:=call_ok h;have:=req_less Z;have:=h.le;omega
theorem part_less{t X:List Tok}{a:List Rqm}(h:Run (body .part) t (.ok (a,X))):X.length<t.length:=by
 obtain⟨_,R,Z,h⟩:=Cz h;have:=expect_inv Z;have:=h.le;omega
theorem whileP_sig:WhileP (sees2 [105,110,112,117,116] [111,117,116,112,117,116]) (body .signal) (body .sigs) where
 done h:=h.bind (Run.ret _ _)
 more h h1 h2:=h.bind (Run.call h1 (Run.call h2 (Run.ret _ _)))
 err1 h h1:=h.bind (Run.callE h1)
 err2 h h1 h2:=h.bind (Run.call h1 (Run.callE h2))
 less _ h:=signal_less h
theorem whileP_lines:WhileP (sees2 [97,115,115,117,109,101] [103,117,97,114,97,110,116,101,101]) (body .line) (body .lines) where
 done h:=h.bind (Run.ret _ _)
 more h h1 h2:=h.bind (Run.call h1 (Run.call h2 (Run.ret _ _)))
 err1 h h1:=h.bind (Run.callE h1)
 err2 h h1 h2:=h.bind (Run.call h1 (Run.callE h2))
 less _ h:=line_less h
theorem whileP_parts:WhileP (sees2 [112,97,114,116] [112,97,114,116]) (body .part) (body .parts) where
 done h:=h.bind (Run.ret _ _)
 more h h1 h2:=h.bind (Run.call h1 (Run.call h2 (Run.ret _ _)))
 err1 h h1:=h.bind (Run.callE h1)
 err2 h h1 h2:=h.bind (Run.call h1 (Run.callE h2))
 less _ h:=part_less h
theorem own_blkN{w:World}{B e n size:Nat}{a:Option Addr}{cap:Nat}{xs:LV}(h:w.ownsRow B e size (.slice a n cap) n xs)(G:0<n):
  ∃g L,a=some ⟨g,0,none⟩/\B<=g/\Blk w g e L/\n*size<=L.length/\∀w' i u,Put w w' g e (L.set i u)->w'.ownsRow B e size (.slice a n cap) n (xs.set i u):=by
 obtain⟨M,q⟩:=h;rcases q with⟨_,rfl⟩|⟨g,c,b,q,f,t,X,W,Q,z⟩
 ·omega
 ·cases q;refine⟨g,b.toList,rfl,f,by simpa[Blk]using t,?_,fun w' i u v=>⟨by simpa using M,.inr ⟨g,cap,(b.toList.set i u).toArray,rfl,f,v.D,X,W,by simpa using Q,?_⟩⟩⟩
  ·have:=congrArg List.length z;simp at this;rw[M]at this;simp;omega
  ·show((b.toList.set i u).toArray.toList.take (n*size))=_;rw[<-z,List.take_set]
theorem flatten_set(n:Nat)(u:Value):∀(L:List (LV))(k j:Nat)(c:LV),(∀c∈L,c.length=n)->L[k]?=some c->j<n->L.flatten.set (k*n+j) u=(L.set k (c.set j u)).flatten
 | [],k,j,c,_,h,_=>by simp at h
 |d::L,0,j,c,h5,h,hj=>by
  simp at h;subst h;have:=h5 d O;rw[Nat.zero_mul,Nat.zero_add,List.flatten_cons,List.set_append_left _ _ U];rfl
 |d::L,k+1,j,c,h5,h,hj=>by
  have C:=h5 d O;rw[List.flatten_cons,List.set_append_right _ _ (by rw[C,Nat.succ_mul];omega),C,show(k+1)*n+j-n=k*n+j by rw[Nat.succ_mul];omega];rw[flatten_set n u L k j c (fun c V=>h5 c D9) EC hj];rfl
def inPart(s:LU)(r:Rqm):Rqm:=⟨s,r.name,r.kind,r.formula⟩
def upTo{α:Type}(f:α->α)(k:Nat)(l:List α):List α:=(l.take k).map f++l.drop k
theorem upTo_get{α:Type}(f:α->α){k:Nat}{l:List α}(P:k<=l.length)(i:Nat):(upTo f k l)[i]?=if i<k then(l[i]?).map f else l[i]?:=by
 unfold upTo
 split
 ·rename_i h;rw[List.getElem?_append_left Dw,List.getElem?_map,List.getElem?_take,if_pos h]
 ·rename_i h;rw[List.getElem?_append_right Dw,List.getElem?_drop]
  congr 1
  simp;omega
theorem upTo_len{α:Type}(f:α->α)(k:Nat)(l:List α)(P:k<=l.length):(upTo f k l).length=l.length:=by simp[upTo];omega
theorem part_ok(E:Env)(N:Nat):ItemR reqsR oneV E N 112 (body .part):=by
 intro w ts h hN;have b9:=h.st.slt;unfold PDo;refine A7 Tryz.func112 rfl Tryz.ntmps112 nlr Dv (go ?_);refine At (DA E w ts [112,97,114,116] h.st) rfl ?_ ?_;rotate_left
 ·rintro q F⟨e,D,C,rfl⟩;refine go ?_;exact Aj ⟨(Keep.refl [E.s] w).trans e O,D,Run.bindE C,rfl⟩
 rintro v w1⟨f,_,t1,Z,q1,rfl⟩;have X:=h.next f q1
 refine go ?_;refine At (pname_ok E w1 t1 X.st X.gk) rfl ?_ ?_;rotate_left
 ·rintro q F⟨e,D,C,rfl⟩;refine go ?_;exact Aj ⟨f.trans e O,D,Z.bind (Run.bindE C),rfl⟩
 rintro v w2⟨k2,s,t2,A,q2,rfl,hs⟩;have M:=X.next k2 q2
 have a4:=f.trans k2 O;refine go ?_;refine At (DA E w2 t2 [123] M.st) rfl ?_ ?_;rotate_left
 ·rintro q F⟨e,D,C,rfl⟩;refine go ?_;exact Aj ⟨a4.trans e O,D,Z.bind (A.bind (Run.bindE C)),rfl⟩
 rintro v o⟨H,_,t3,K,q3,rfl⟩;have Q:=M.next H q3
 have G:=a4.trans H O;refine go ?_;refine At (whileReq_ok E t3.length _ _ [pt E.s] [] _ _ _ whileP_lines o t3 (required_ok E o) (line_ok E _) Q (Nat.le_refl _)) rfl ?_ ?_;rotate_left
 ·rintro q F⟨e,D,C,rfl⟩;refine go ?_;exact Aj ⟨G.trans e O,D,Z.bind (A.bind (K.bind (Run.callE C))),rfl⟩
 rintro v w4⟨k4,l,t4,r4,q4,L,y,F4⟩;have R:=Q.next k4 q4
 have a5:=G.trans k4 O
 obtain⟨a,c,rfl⟩:∃a c,v=.slice a l.length c:=by
  rcases y.2 with⟨rfl,h0⟩|⟨g,b4,b5,rfl,_⟩
  ·exact⟨none,0,by rw[h0]⟩
  ·exact⟨_,_,rfl⟩
 have b8:l.length<=9223372036854775807:=by
  obtain⟨_,_,hv,g1,g2,_⟩:=Aa (ok:=AV) y fun _ _=>trivial;cases hv;omega
 refine go ?_;refine At (DA E w4 t4 [125] R.st) rfl ?_ ?_;rotate_left
 ·rintro q F⟨e,D,C,rfl⟩;refine go ?_;exact Aj ⟨a5.trans e O,D,Z.bind (A.bind (K.bind (Run.call r4 (Run.bindE C)))),rfl⟩
 rintro v w5⟨u,_,t5,r5,q5,rfl⟩;have h5:=R.next u q5
 have b3:=a5.trans u O;have c0:=G.size;have a2:∀g,(Value.slice a l.length c).ownBlock=some g->o.heap.size<=g/\g<w4.heap.size:=fun g t=>Ad y t;have o5:=Ac y u (fun g t=>by have:=a2 g t;simp;omega);have F5:=F4.E u (fun b S=>by have:=S.1;simp[fresh]at this⊢;omega);refine go ?_
 refine Ah (α:=Nat) (fun k=>[(3,AK s),(4,.slice a l.length c),(20,iV (l.length:Int)),(21,iV (k:Int))])
  (fun k W=>k<=l.length/\Keep [E.s] w W/\PSt W E t5/\∃j,W.ownsRow o.heap.size 38 8 (.slice a l.length c) l.length j.flatten/\RsAt reqR (fun b=>fresh o b/\(Value.slice a l.length c).ownBlock≠some b) W j (upTo (inPart s) k l)) (fun k=>l.length-k) 0 ⟨rfl,rfl,rfl,rfl,trivial⟩
  ⟨by omega,b3,q5,L,o5,by simpa[upTo]using F5⟩ ?_
 rintro k w6 f6⟨P,k6,q6,j,o6,m⟩;refine go ?_;by_cases B:k<l.length
 ·obtain⟨g,Lc,rfl,hB,S,b6,b0⟩:=own_blkN o6 U;have b7:k*8+8<=l.length*8:=by omega
  have a3:=upTo_len (inPart s) k l P;obtain⟨z,V⟩:∃z,j[k]?=some z:=⟨_,List.getElem?_eq_getElem (by rw[m.1,a3];exact B)⟩;obtain⟨r,hr⟩:∃r,l[k]?=some r:=⟨_,List.getElem?_eq_getElem B⟩;have b1:(upTo (inPart s) k l)[k]?=some r:=by rw[upTo_get _ P,if_neg U,hr]
  have a8:=m.2 k z r V b1;refine go ?_;refine AR (v:=AK s) rfl rfl rfl S U (fun w7 n=>go ?_);have e0:0+k*8+0=k*8+0:=by omega
  rw[e0]at n;have o7:=b0 w7 _ _ n;have a9:=flatten_set 8 (AK s) j k 0 z m.len V U;rw[a9]at o7;have z3:=H.size;refine⟨k+1,⟨rfl,⟨rfl,rfl,rfl,?_,trivial⟩,⟨by omega,k6.trans n.E (fun x T B=>by simp at T;omega),q6.E n.E (fun x T=>by simp at T;omega),_,o7,?_⟩⟩,by omega⟩
  ·show iV ((k:Int)+1)=_;rw[Int.natCast_add];rfl
  ·refine⟨by rw[List.length_set,m.1,upTo_len _ _ _ P,upTo_len _ _ _ U],fun i d x p T=>?_⟩;have a0:∀b,(fresh o b/\(Value.slice (sm g) l.length c).ownBlock≠some b)->b∉[g]:=fun b S T=>S.2 (by simp at T;subst T;rfl);rw[upTo_get _ U]at T;rw[List.getElem?_set]at p;by_cases I:k=i
   ·subst I;rw[if_pos rfl,if_pos (by rw[m.1,a3];exact B)]at p;cases p;rw[if_pos U,hr]at T;cases T;obtain⟨d,rfl,a6,a7⟩:=a8;exact⟨d,rfl,a6,a7.E n.E a0⟩
   ·rw[if_neg I]at p
    have b2:(upTo (inPart s) k l)[i]?=some x:=by
     rw[upTo_get _ P];by_cases X:i<k
     ·rw[if_pos X];rwa [if_pos U]at T
     ·rw[if_neg X];rwa [if_neg U]at T
    exact reqR.E (m.2 i d x p b2) n.E a0
 ·obtain rfl:k=l.length:=by omega
  refine go ?_;have hm:upTo (inPart s) l.length l=l.map (inPart s):=by simp[upTo]
  rw[hm]at m;have S6:=Aa (ok:=fresh w) o6 (fun g t=>by have:=a2 g t;simp only[fresh];omega);have a1:(l.map (inPart s)).length=l.length:=by simp
  refine AB rfl ⟨k6,l.map (inPart s),t5,Z.bind (A.bind (K.bind (Run.call r4 (r5.bind (Run.ret _ _))))),q6,[.slice a l.length c],rfl,_,rfl,a,c,j,by rw[a1],by rw[a1];exact S6,m.mono fun b S=>by have:=S.1;simp only[fresh]at this⊢;omega⟩
theorem sees2_inv{s t:LU}{k r:List Tok}{b:Bool}(h:Run (sees2 s t) k (.ok (b,r))):r=k:=by
 cases h.det (run_sees2 s t k);rfl
theorem lines_cnt:∀(n:Nat)(t I:List Tok)(l:List Rqm),t.length<=n->Run (body .lines) t (.ok (l,I))->l.length+I.length<=t.length:=by
 intro n
 induction n with
 |zero=>
  intro t I l G h;obtain⟨b,R,Z,h⟩:=Cz h;have e:=sees2_inv Z;subst e;cases b with
  |true=>
   obtain⟨r,X,k,h⟩:=call_ok h;have:=line_less k;omega
  |false=>cases h.det (Run.ret _ _);simp
 |succ n ih=>
  intro t I l G h;obtain⟨b,R,Z,h⟩:=Cz h;have e:=sees2_inv Z;subst e;cases b with
  |true=>
   obtain⟨r,X,k,h⟩:=call_ok h;obtain⟨m,c,a,h⟩:=call_ok h;have W:=line_less k;have Q:=ih X c m U a;cases h.det (Run.ret _ _);simp;omega
  |false=>cases h.det (Run.ret _ _);simp
theorem part_cnt{t I:List Tok}{l:List Rqm}(h:Run (body .part) t (.ok (l,I))):l.length+I.length<t.length:=by
 obtain⟨_,R,Z,h⟩:=Cz h;obtain⟨_,b,k,h⟩:=Cz h;obtain⟨_,c,a,h⟩:=Cz h;obtain⟨m,n,w,h⟩:=call_ok h;obtain⟨_,s,X,h⟩:=Cz h;cases h.det (Run.ret _ _);have:=expect_inv Z;have:=k.le;have:=a.le;have:=lines_cnt _ _ _ _ (Nat.le_refl _) w;have:=X.le;simp;omega
theorem parts_cnt:∀(n:Nat)(t I:List Tok)(l:List (List Rqm)),t.length<=n->Run (body .parts) t (.ok (l,I))->l.flatten.length+I.length<=t.length:=by
 intro n
 induction n with
 |zero=>
  intro t I l G h;obtain⟨b,R,Z,h⟩:=Cz h;have e:=sees2_inv Z;subst e;cases b with
  |true=>
   obtain⟨r,X,k,h⟩:=call_ok h;have:=part_less k;omega
  |false=>cases h.det (Run.ret _ _);simp
 |succ n ih=>
  intro t I l G h;obtain⟨b,R,Z,h⟩:=Cz h;have e:=sees2_inv Z;subst e;cases b with
  |true=>
   obtain⟨r,X,k,h⟩:=call_ok h;obtain⟨m,c,a,h⟩:=call_ok h;have W:=part_cnt k;have Q:=ih X c m U a;cases h.det (Run.ret _ _);simp only[List.flatten_cons,List.length_append];omega
  |false=>cases h.det (Run.ret _ _);simp
theorem spec_ok(E:Env)(N:Nat):ItemR spcR aggV E N 64 (body .spec):=by
 intro w ts h hN;have c3:=h.st.slt;unfold PDo;refine A7 Tryz.func64 rfl Tryz.ntmps64 nlr Dv (go ?_);refine Ai (L:=[pt E.s]) rfl (fun R n1=>?_);refine AS (fun z P=>?_);have z1:=n1.size;have z2:=P.size;have x2:Blk z w.heap.size 121 [pt E.s]:=n1.D.E P.E O;have b2:Blk z R.heap.size 54 [.slice none 0 0,.slice none 0 0]:=P.D;have h2:=(h.ext n1.E).ext P.E;have k2:Keep [E.s] w z:=(n1.E.trans P.E).any;refine go ?_;refine At (whileSgn_ok E ts.length _ _ [] [pt w.heap.size] _ _ _ whileP_sig z ts (declared_ok E z _ x2 U) (signal_ok E _) h2 (Nat.le_refl _)) rfl ?_ ?_;rotate_left
 ·rintro ch wq⟨kq,lq,rq,rfl⟩;refine go ?_;exact Aj ⟨k2.trans kq O,lq,Run.callE rq,rfl⟩
 rintro sv A⟨I,l,t3,r3,q3,L,o3,F3⟩;have h3:=h2.next I q3
 have k13:=k2.trans I O;have z3:=I.size;have x3:=x2.E I Dy;have b3:=b2.E I Dy;have S3:=Aa (ok:=fun b=>z.heap.size<=b/\b<A.heap.size) o3 (fun g t=>by have:=Ad o3 t;omega);obtain⟨X,K,rfl,_⟩:=id S3;refine go ?_;refine Au (cs:=[.slice X l.length K,.slice none 0 0]) rfl rfl Dx (by intro u F;simp at F;rcases F with rfl|rfl<;>rfl) (fun r q=>?_);have h4:=h3.ext q.E;have a8:=k13.ext q.E;have z4:=q.size;have x4:=x3.E q.E O;have b4:=b3.E q.E O;have e4:=q.D;have S4:=S3.ext q.E;have F4:=F3.ext q.E;refine go ?_;refine At (whileReqs_ok E t3.length _ _ [pt E.s] [] _ _ _ whileP_parts r t3 (opened_ok E r) (part_ok E _) h4 (Nat.le_refl _)) rfl ?_ ?_;rotate_left
 ·rintro ch wq⟨kq,lq,rq,rfl⟩;refine go ?_;exact Aj ⟨a8.trans kq O,lq,Run.call r3 (Run.callE rq),rfl⟩
 rintro pv f⟨D,m,t5,r5,q5,M,o5,F5⟩;have h5:=h4.next D q5
 have k15:=a8.trans D O;have z5:=D.size;have b5:=b4.E D Dy;have e5:=e4.E D Dy;have S5:=S4.E D (fun b S=>by simp;omega);have e:=Aa (ok:=fun b=>r.heap.size<=b/\b<f.heap.size) o5 (fun g t=>Ad o5 t);have a9:RsAt reqsR (fun b=>r.heap.size<=b/\b<f.heap.size) f M m:=F5.lt.mono fun b S=>⟨S.1.1,S.2⟩;obtain⟨pa,pc,rfl,_⟩:=id e;have c4:=h.st.cnt;have b8:=(show t3<:+ts from Run.suffix r3).length_le;have c0:=parts_cnt _ _ _ _ (Nat.le_refl _) r5
 have c2:m.length<=9223372036854775807:=by
  obtain⟨_,_,hv,g1,g2,_⟩:=id e;cases hv;omega
 refine go ?_
 refine Ah (α:=Nat×Value×List (LV)) (fun x=>[(2,pt R.heap.size),(4,pt A.heap.size),(17,.slice pa m.length pc),(18,iV (m.length:Int)),(19,iV (x.1:Int))])
  (fun x W=>x.1<=m.length/\Keep [E.s] w W/\PSt W E t5/\f.heap.size<=W.heap.size/\Blk W R.heap.size 54 [.slice none 0 0,.slice none 0 0]/\Blk W A.heap.size 54 [.slice X l.length K,x.2.1]/\
   Sl (fun b=>z.heap.size<=b/\b<A.heap.size) W (.slice X l.length K) l.length L.flatten/\Sl (fun b=>r.heap.size<=b/\b<f.heap.size) W (.slice pa m.length pc) m.length M.flatten/\RsAt reqsR (fun b=>r.heap.size<=b/\b<f.heap.size) W M m/\
   W.ownsRow f.heap.size 38 8 x.2.1 (m.take x.1).flatten.length x.2.2.flatten/\RsAt reqR (fun b=>r.heap.size<=b/\b<f.heap.size) W x.2.2 (m.take x.1).flatten) (fun x=>m.length-x.1) (0,.slice none 0 0,[]) ⟨rfl,rfl,rfl,rfl,rfl,trivial⟩
  ⟨by simp,k15,q5,Nat.le_refl _,b5,e5,S5,e,a9,⟨by simp,.inl ⟨rfl,rfl⟩⟩,RsAt.nil⟩ ?_
 rintro⟨k,rv,Q⟩w6 f6⟨hk,k6,q6,z6,b6,e6,S6,P6,Z,p,G6⟩;simp only at hk p G6 e6⊢;refine go ?_;have hb1:R.heap.size<A.heap.size:=by omega
 by_cases a1:k<m.length
 ·obtain⟨c,hc⟩:∃c,M[k]?=some c:=⟨_,List.getElem?_eq_getElem (by rw[Z.1];exact a1)⟩;obtain⟨n,a7⟩:∃n,m[k]?=some n:=⟨_,List.getElem?_eq_getElem a1⟩;obtain⟨pv,rfl,va,vc,V,rfl,SV,FV⟩:=Z.2 k c n hc a7
  obtain⟨b,o,rfl,S,b9⟩:∃b o,pa=some ⟨b,o,none⟩/\(r.heap.size<=b/\b<f.heap.size)/\w6.cell? ⟨b,o+k,none⟩=some (.slice va n.length vc):=by
   obtain⟨a',a5,hv,g1,g2,g3,g4⟩:=id P6;cases hv;obtain⟨b,o,rfl,S,hcc⟩:=g4.resolve_left U;refine⟨b,o,rfl,S,hcc k _ ?_⟩;have:=CR 1 M k 0 _ _ Z.len hc rfl;simpa using this
  have a6:m.take (k+1)=m.take k++[n]:=by rw[List.take_add_one,a7];rfl
  have c1:(m.take (k+1)).flatten.length<=m.flatten.length:=by
   have e1:=congrArg (fun x=>x.flatten.length) (List.take_append_drop (k+1) m);simp only[List.flatten_append,List.length_append]at e1;omega
  have etl:(m.take (k+1)).flatten.length=(m.take k).flatten.length+n.length:=by rw[a6];simp
  obtain⟨G,H,rfl⟩:∃G H,rv=.slice G (m.take k).flatten.length H:=by
   rcases p.2 with⟨rfl,h0⟩|⟨g,a5,b1,rfl,_⟩
   ·exact⟨none,0,by rw[h0]⟩
   ·exact⟨_,_,rfl⟩
  have a2:∀x∈(Value.slice G (m.take k).flatten.length H).ownBlock.toList,f.heap.size<=x:=fun x T=>(Ad p (Option.mem_toList.1 T)).1;refine go ?_;refine Ap (v:=.slice G (m.take k).flatten.length H) (sv:=.slice va n.length vc) rfl rfl p SV U rfl FV.flat FV.oneC U U U (fun v7 w7 j=>?_);have o7:=j.own;have z7:=j.E.size;have C:∀b,b<f.heap.size->b∉(Value.slice G (m.take k).flatten.length H).ownBlock.toList:=fun b S T=>by have:=a2 b T;omega
  have e7:=e6.E j.E (C _ U);have b7:=b6.E j.E (C _ U);have S7:=S6.E j.E (fun b S=>C b U);have P7:=P6.E j.E (fun b S=>C b S.2);have F7:=Z.E j.E (fun b S=>C b S.2);have G7:=(G6.app FV).E j.E (fun b S=>C b S.2);have k7:=k6.trans j.E (fun x T a1=>by have:=a2 x T;omega);have q7:=q6.E j.E (fun x T=>by have:=a2 x T;omega)
  obtain⟨a3,a4,rfl⟩:∃a3 a4,v7=.slice a3 ((m.take k).flatten.length+n.length) a4:=by
   rcases o7.2 with⟨rfl,h0⟩|⟨g,a5,b1,rfl,_⟩
   ·exact⟨none,0,by rw[h0]⟩
   ·exact⟨_,_,rfl⟩
  refine go ?_;refine AR rfl rfl rfl e7 O (fun w8 d=>?_);have z8:=d.size;have B:∀b,b≠A.heap.size->b∉[A.heap.size]:=fun b S T=>S (by simpa using T);refine go ?_;refine⟨(k+1,.slice a3 ((m.take k).flatten.length+n.length) a4,Q++V),⟨rfl,⟨rfl,rfl,rfl,rfl,?_,trivial⟩,⟨by simp only;omega,k7.trans d.E Dy,q7.E d.E Dy,by omega,b7.E d.E (B _ U),d.D,S7.E d.E (fun b S=>B _ U),P7.E d.E (fun b S=>B _ U),F7.E d.E (fun b S=>B _ U),?_,?_⟩⟩,by simp only;omega⟩
  ·show iV ((k:Int)+1)=_;rw[Int.natCast_add];rfl
  ·have:=Ac o7 d.E (fun g t=>B g (by have:=Ad o7 t;omega));simp only[etl,List.flatten_append];exact this
  ·simp only[a6,List.flatten_append];have:=G7.E d.E (fun b S=>B _ U);simpa using this
 ·obtain rfl:k=m.length:=by omega
  rw[List.take_length]at p G6;refine go ?_;have hr6:=Aa (ok:=fresh w) p (fun g t=>by have:=Ad p t;simp only[fresh];omega);obtain⟨G,H,rfl,_⟩:=id hr6;refine go ?_;refine AH (cs:=[.slice X l.length K,.slice G m.flatten.length H]) rfl rfl rfl (by intro u F;simp at F;rcases F with rfl|rfl<;>rfl) b6 O (fun w7 y=>?_);refine go ?_;have b7:Blk w7 R.heap.size 54 [.slice X l.length K,.slice G m.flatten.length H]:=y.D;have a0:∀b,b≠R.heap.size->b∉[R.heap.size]:=fun b S T=>S (by simpa using T);have b0:RsAt sgnR (fun b=>b≠R.heap.size/\fresh w b) w6 L l:=⟨F4.1,fun i c a hc ha=>F4.2 i c a hc ha⟩;have R7:=Aa (ok:=fun b=>b≠R.heap.size/\fresh w b) p (fun g t=>by have:=Ad p t;simp only[fresh];omega);refine AU rfl rfl rfl b7.cells ⟨k6.trans y.E Dy,⟨l,m.flatten⟩,t5,Run.call r3 (Run.call r5 (Run.ret _ _)),q6.E y.E Dy,_,rfl,_,_,rfl,⟨_,_,L,rfl,?_,?_⟩,⟨_,_,Q,rfl,?_,?_⟩⟩
  ·exact(S6.mono (ok':=fun b=>b≠R.heap.size/\fresh w b) (fun b S=>by simp only[fresh];omega)).E y.E (fun b S=>a0 b S.1) |>.mono fun b S=>S.2
  ·exact(b0.E y.E (fun b S=>a0 b S.1)).mono fun b S=>S.2
  ·exact(R7.E y.E (fun b S=>a0 b S.1)).mono fun b S=>S.2
  ·exact((G6.mono (ok':=fun b=>b≠R.heap.size/\fresh w b) (fun b S=>by simp only[fresh];omega)).E y.E (fun b S=>a0 b S.1)).mono fun b S=>S.2
theorem infixes_ok(w:World):Fn Zp 104 [] w fun v w'=>∃m,v=.map (some m)/\w.heap.size<=m/\Ext w w'/\SMap w' m (tabV infixT):=by
 refine AG Tryz.func104 rfl Tryz.ntmps104 (go ?_);refine W_makeMapS (fun R f c b=>go ?_);refine Ce (x:=[85]) (y:=oprV ⟨9,0,0⟩) rfl rfl rfl b rfl (fun L l k d=>go ?_);refine Ce (x:=[82]) (y:=oprV ⟨10,0,0⟩) rfl rfl rfl d rfl (fun j g A e=>go ?_);refine Ce (x:=[83]) (y:=oprV ⟨16,16,0⟩) rfl rfl rfl e rfl (fun u a h t=>go ?_);refine Ce (x:=[84]) (y:=oprV ⟨17,17,1⟩) rfl rfl rfl t rfl (fun W i P M=>go ?_);exact AB rfl ⟨w.heap.size,rfl,Nat.le_refl _,(((f.E l O).E g O).E a O).E i O,M⟩
theorem prefixes_ok(w:World):Fn Zp 103 [] w fun v w'=>∃m,v=.map (some m)/\w.heap.size<=m/\Ext w w'/\SMap w' m (tabV prefixT):=by
 refine AG Tryz.func103 rfl Tryz.ntmps103 (go ?_);refine W_makeMapS (fun R f C b=>go ?_);refine Ce (x:=[33]) (y:=oprV ⟨4,0,0⟩) rfl rfl rfl b rfl (fun L l D d=>go ?_);refine Ce (x:=[88]) (y:=oprV ⟨8,0,0⟩) rfl rfl rfl d rfl (fun s g E j=>go ?_);refine Ce (x:=[89]) (y:=oprV ⟨15,0,0⟩) rfl rfl rfl j rfl (fun u a h t=>go ?_);refine Ce (x:=[90]) (y:=oprV ⟨15,0,1⟩) rfl rfl rfl t rfl (fun W i P M=>go ?_);refine Ce (x:=[79]) (y:=oprV ⟨18,0,0⟩) rfl rfl rfl M rfl (fun q Q o H=>go ?_);refine Ce (x:=[72]) (y:=oprV ⟨19,0,0⟩) rfl rfl rfl H rfl (fun z c F e=>go ?_);refine Ce (x:=[70]) (y:=oprV ⟨11,13,0⟩) rfl rfl rfl e rfl (fun p n G A=>go ?_);refine Ce (x:=[71]) (y:=oprV ⟨12,14,0⟩) rfl rfl rfl A rfl (fun B r I k=>go ?_);exact AB rfl ⟨w.heap.size,rfl,Nat.le_refl _,(((((((f.E l O).E g O).E a O).E i O).E Q O).E c O).E n O).E r O,k⟩
theorem takeWhile_all{p:UInt8->Bool}:∀{l:LU},(l.takeWhile p).length=l.length->∀c∈l,p c=true
 | [],_,c,V=>by cases V
 |x::l,h,c,V=>by
  rw[List.takeWhile_cons]at h;cases hp:p x with
  |false=>rw[hp]at h;simp at h
  |true=>
   rw[hp]at h;simp at h;rcases List.mem_cons.1 V with rfl|V
   ·exact hp
   ·exact takeWhile_all h c V
theorem Alone.wf{k:Int}{y:LU}(h:Alone k y):k=2->1<=y.length/\y.length<=4/\∀c∈y,A6 c=true:=by
 rintro rfl;obtain⟨X,W,Q⟩:=h;refine⟨X,?_⟩;unfold CJ at Q
 split at Q
 ·simp[blankM]at Q
 ·simp[commM]at Q
 ·unfold nameM at Q
  split at Q
  ·cases Q
  ·have:=(addM_le Q).1;simp at this
 ·unfold numM at Q
  split at Q
  ·cases Q
  ·rename_i hb;have e:=DE Q;have C:((y.takeWhile A6).length)=y.length:=by simpa[A0]using e.symm
   refine⟨?_,takeWhile_all C⟩;have i:Bk y 0=false:=by simpa using hb
   unfold Bk at i;rw[<-e]at i;simp at i;omega
 ·unfold symM at Q
  split at Q
  ·have:=(addM_le Q).1;simp at this
  ·cases Q
 ·cases Q
theorem Reach1.cap{t:LU}{a b:Nat}{c p:List Tok}(h:Reach1 t a c b p)(V:c.length<=2000):p.length<=2000:=by
 induction h with
 |refl=>exact V
 |step h hs hr ih=>
  rename_i a a1 b c ts1 p;refine ih ?_;rcases step_shape hs with rfl|⟨k,rfl⟩
  ·exact V
  ·have:c.length≠2000:=by
    intro e;unfold CJ at hs
    split at hs
    ·simp[blankM]at hs
    ·simp[commM]at hs
    ·unfold nameM at hs
     split at hs
     ·cases hs
     ·exact(addM_le hs).2 e
    ·unfold numM at hs
     split at hs
     ·cases hs
     ·exact(addM_le hs).2 e
    ·unfold symM at hs
     split at hs
     ·exact(addM_le hs).2 e
     ·cases hs
    ·cases hs
   simp;omega
theorem lexM_toks{t:LU}{k:List Tok}(h:lexM t=.ok k):t.length<=6000/\k.length<=2000/\∀x∈k,TokWf x:=by
 obtain⟨M,a⟩:=lexM_ok h;exact⟨M,a.cap O,fun x T=>((a.alone (Nat.le_refl _) (fun x T=>by cases T)) x T).wf⟩
end
end Go.Proofs.YtohodbnnhlddpaaGreatDoor
