/- TopTextGoals, part 4 of 16: rules, lemmas, walks. Conditions: none. -/
import Derived.Test.YtjbocjodncbogaaGreatDoorTX3
namespace Go.Proofs.YtjbocjodncbogaaGreatDoor
open Go.RowKit
set_option linter.unusedVariables false
section
variable {mk:Prop}[MK mk]
theorem run_accepts_t{t:LU}{ts:List Tok}(h:A4 t (ts.head?.map bare)=true):Run (Ba t) ts (.ok (true,ts.tail)):=by
 refine Run.look ?_;rw[if_pos h];exact Run.next (Run.ret _ _)
theorem run_accepts_f{t:LU}{ts:List Tok}(h:A4 t (ts.head?.map bare)=false):Run (Ba t) ts (.ok (false,ts)):=by
 refine Run.look ?_;rw[h];exact Run.ret _ _
theorem run_expect_t{t:LU}{ts:List Tok}(h:A4 t (ts.head?.map bare)=true):Run (CZ t) ts (.ok ((),ts.tail)):=by
 refine Run.look ?_;rw[if_pos h];exact Run.next (Run.ret _ _)
theorem run_expect_f{t:LU}{ts:List Tok}(h:A4 t (ts.head?.map bare)=false):Run (CZ t) ts (.error ts):=by
 refine Run.look ?_;rw[h];exact Run.fail _
theorem CY(E:Env)(w:World)(ts:List Tok)(t:LU)(h:PSt w E ts):Fn Zp 110 [pt E.s,AL t] w (fun v w'=>Keep [E.s] w w'/\∃b ts',v=.bool b/\Run (Ba t) ts (.ok (b,ts'))/\PSt w' E ts'):=by
 obtain⟨a,c,S,F⟩:=h.D;refine AN Tryz.func110 rfl Tryz.ntmps110 (go ?_);refine AF (sees_ok E w ts t h) rfl ?_;rintro v Q⟨rfl,rfl⟩;refine go ?_;cases hse:A4 t (ts.head?.map bare)with
 |false=>
  refine go ?_;exact AC rfl ⟨Keep.refl _ _,false,ts,rfl,run_accepts_f hse,h⟩
 |true=>
  cases ts with
  |nil=>simp[A4]at hse
  |cons x l=>
   have K:(x::l).length=l.length+1:=rfl;obtain⟨b,o,rfl,M,_,r⟩:=PSt.tok F;refine go ?_;refine AU rfl rfl rfl S O (fun N d=>?_);have L:=h.taken r d;refine go ?_;exact AC rfl ⟨d.E,true,l,rfl,run_accepts_t hse,L⟩
theorem DR(E:Env)(w:World)(ts:List Tok)(t:LU)(h:PSt w E ts):PDo E 134 [pt E.s,AL t] w (CZ t) ts (fun _ v _=>v=.tuple #[]):=by
 unfold PDo;refine Az Tryz.func134 rfl Tryz.ntmps134 nlr EO (go ?_);refine AF (CY E w ts t h) rfl ?_;rintro v Q⟨Z,b,x,rfl,G,d⟩;cases hse:A4 t (ts.head?.map bare)with
 |false=>
  have e:=G.det (run_accepts_f hse);cases e;refine go ?_;refine Ag (wrong_ok E Q ts d) rfl (R:=fun _ _=>False) ?_ ?_
  ·rintro v N M;exact M.elim
  ·rintro V N⟨rfl,rfl⟩;refine go ?_;exact Ab ⟨Z,ts,run_expect_f hse,rfl⟩
 |true=>
  have e:=G.det (run_accepts_t hse);cases e;refine go ?_;exact A1 rfl ⟨Z,(),ts.tail,run_expect_t hse,d,rfl⟩
theorem pname_ok(E:Env)(w:World)(ts:List Tok)(h:PSt w E ts)(X:GK w):PDo E 135 [pt E.s] w nameG ts (fun _ v s=>v=AL s/\BH s=true):=by
 obtain⟨a,c,S,F⟩:=h.D;unfold PDo;refine Az Tryz.func135 rfl Tryz.ntmps135 nlr EO (go ?_);cases ts with
 |nil=>
  have K:([]:List Tok).length=0:=rfl;refine go ?_;refine Ag (wrong_ok E w [] h) rfl (R:=fun _ _=>False) ?_ ?_
  ·rintro v N M;exact M.elim
  ·rintro V N⟨rfl,rfl⟩;refine go ?_;exact Ab ⟨Keep.refl _ _,[],Run.look (Run.fail _),rfl⟩
 |cons x l=>
  have K:(x::l).length=l.length+1:=rfl;obtain⟨b,o,rfl,i,⟨Z,H,W⟩,r⟩:=PSt.tok F;by_cases p:x.kind=1/\BH x.text=true
  ·obtain⟨L,I⟩:=p;refine go ?_;refine AF (sigName_ok x.text w X) rfl ?_;rintro v Q⟨rfl,rfl⟩;rw[I];refine go ?_;refine AU rfl rfl rfl S O (fun N f=>?_);have g:=h.taken r f;refine go ?_;refine AC rfl ⟨f.E,x.text,l,Run.look ?_,g,rfl,I⟩;have e:(decide (x.kind=1)&&BH x.text)=true:=by simp[L,I]
   show Run (if(decide (x.kind=1)&&BH x.text)=true then _ else _) _ _;rw[if_pos e];exact Run.next (Run.ret _ _)
  ·have d:Run nameG (x::l) (.error (x::l)):=by
    have e:(decide (x.kind=1)&&BH x.text)=false:=by
     cases S:(decide (x.kind=1)&&BH x.text)with
     |false=>rfl
     |true=>simp at S;exact absurd S p
    refine Run.look ?_;show Run (if(decide (x.kind=1)&&BH x.text)=true then _ else _) _ _;rw[e];exact Run.fail _
   by_cases L:x.kind=1
   ·have I:BH x.text=false:=by
     cases S:BH x.text with
     |false=>rfl
     |true=>exact absurd ⟨L,S⟩ p
    refine go ?_;refine AF (sigName_ok x.text w X) rfl ?_;rintro v Q⟨rfl,rfl⟩;rw[I];refine go ?_;refine Ag (wrong_ok E Q (x::l) h) rfl (R:=fun _ _=>False) ?_ ?_
    ·rintro v N M;exact M.elim
    ·rintro V N⟨rfl,rfl⟩;refine go ?_;exact Ab ⟨Keep.refl _ _,x::l,d,rfl⟩
   ·refine go ?_;refine Ag (wrong_ok E w (x::l) h) rfl (R:=fun _ _=>False) ?_ ?_
    ·rintro v N M;exact M.elim
    ·rintro V N⟨rfl,rfl⟩;refine go ?_;exact Ab ⟨Keep.refl _ _,x::l,d,rfl⟩
theorem number_ok(E:Env)(w:World)(ts:List Tok)(h:PSt w E ts):PDo E 136 [pt E.s] w numberG ts (fun _ v n=>v=iV n/\0<=n/\n<=9999):=by
 obtain⟨a,c,S,F⟩:=h.D;unfold PDo;refine Az Tryz.func136 rfl Tryz.ntmps136 nlr EO (go ?_);cases ts with
 |nil=>
  have K:([]:List Tok).length=0:=rfl;refine go ?_;refine Ag (wrong_ok E w [] h) rfl (R:=fun _ _=>False) ?_ ?_
  ·rintro v N M;exact M.elim
  ·rintro V N⟨rfl,rfl⟩;refine go ?_;exact Ab ⟨Keep.refl _ _,[],Run.look (Run.fail _),rfl⟩
 |cons x l=>
  have K:(x::l).length=l.length+1:=rfl;obtain⟨b,o,rfl,g,⟨i,H,W⟩,r⟩:=PSt.tok F;by_cases L:x.kind=2
  ·obtain⟨Q,d,A⟩:=h.wf x O L;refine go ?_;refine AF (Atoi_ok x.text w Q d A) rfl ?_;rintro v k⟨rfl,Z⟩;refine go ?_;replace h:=h.ext Z;replace S:=S.E Z O;replace r:=r.ext Z;refine go ?_;refine AU rfl rfl rfl S O (fun N e=>?_);have f:=h.taken r e;refine go ?_;have I:=numOf_le _ x.text rfl A;have j:=topN_le d;refine AC rfl ⟨Z.any.trans e.E O,EL x.text,l,Run.look ?_,f,rfl,by omega⟩;show Run (if decide (x.kind=2)=true then _ else _) _ _;rw[if_pos (by simp[L])];exact Run.next (Run.ret _ _)
  ·refine go ?_;refine Ag (wrong_ok E w (x::l) h) rfl (R:=fun _ _=>False) ?_ ?_
   ·rintro v N M;exact M.elim
   ·rintro V N⟨rfl,rfl⟩;refine go ?_;refine Ab ⟨Keep.refl _ _,x::l,Run.look ?_,rfl⟩;show Run (if decide (x.kind=2)=true then _ else _) _ _;rw[if_neg (by simp[L])];exact Run.fail _
def oprC(o:Opr):LV:=[iV o.op,iV o.indexed,iV o.val]
theorem oneC_opr(o:Opr):oneC (oprC o):=by
 intro u g;simp[oprC]at g;rcases g with rfl|rfl|rfl<;>rfl
theorem tabV_lookup(x:LU):∀t:List (LU×Opr),(tabV t).lookup x=(t.lookup x).map oprV
 | []=>rfl
 |(a,o)::t=>by
  have b:=tabV_lookup x t;simp only[tabV,List.map_cons,List.lookup_cons]at b⊢;cases x==a<;>simp[b]
def takeV(o:Option Opr):LV:=oprC (o.getD ⟨0,0,0⟩)
theorem pstake_ok(E:Env)(w:World)(ts:List Tok)(m:Nat)(d:List (LU×Opr))(h:PSt w E ts)(hm:SMap w m (tabV d))(a8:m≠E.s):
  Fn Zp 293 [pt E.s,.map (some m)] w (fun v w'=>Keep [E.s] w w'/\∃o ts',v=.tuple #[.agg (takeV o).toArray,.bool o.isSome]/\Run (takeG d) ts (.ok (o,ts'))/\PSt w' E ts'):=by
 obtain⟨a,c,S,F⟩:=h.D;refine AN Tryz.func293 rfl Tryz.ntmps293 (go ?_);refine AY (fun Q A=>?_);have n:Blk Q w.heap.size 199 [iV 0,iV 0,iV 0]:=A.D;have z1:=A.size;have a9:=h.slt;have Z:=h.ext A.E;have X:=S.E A.E O;have r:=F.ext A.E;have D:=hm.E A.E O;refine go ?_;cases ts with
 |nil=>
  have K:([]:List Tok).length=0:=rfl;refine go ?_;refine AI (cs:=[iV 0,iV 0,iV 0]) rfl rfl rfl (oneC_opr ⟨0,0,0⟩) n O (fun N y=>?_);have j:Blk N w.heap.size 199 [iV 0,iV 0,iV 0]:=y.D;refine go ?_;exact BB rfl rfl rfl j.cells ⟨(A.E.E y.E O).any,none,[],rfl,Run.look (Run.ret _ _),Z.E y.E EP⟩
 |cons x l=>
  have K:(x::l).length=l.length+1:=rfl;obtain⟨b,o,rfl,a4,⟨a5,a6,a7⟩,C⟩:=PSt.tok r;have H:=tabV_lookup x.text d;refine go ?_;refine W_lookup2S rfl rfl D ?_
  have e:((tabV d).lookup x.text).getD (.agg #[iV 0,iV 0,iV 0])=.agg (takeV (d.lookup x.text)).toArray:=by
   rw[H];cases d.lookup x.text<;>rfl
  have V:((tabV d).lookup x.text).isSome=(d.lookup x.text).isSome:=by rw[H];simp
  rw[e,V]
  have u:Run (takeG d) (x::l) (match d.lookup x.text with|some p=>.ok (some p,l)|none=>.ok (none,x::l)):=by
   refine Run.look ?_;show Run (match d.lookup x.text with|some p=>.next (.ret (some p))|none=>.ret none) _ _;cases d.lookup x.text with
   |none=>exact Run.ret _ _
   |some p=>exact Run.next (Run.ret _ _)
  have k:oneC (takeV (d.lookup x.text)):=oneC_opr _;have a1:(takeV (d.lookup x.text)).length=3:=rfl;generalize d.lookup x.text=q at u k a1;refine go ?_;refine AY (fun N W=>?_);have z2:=W.size;refine AI (cs:=takeV q) rfl rfl rfl k W.D (by simp[takeV,oprC]) (fun z M=>?_);have i:Ext Q z:=W.E.E M.E O;have P:Blk z Q.heap.size 199 (takeV q):=M.D;have R:=Z.ext i;have a0:=X.E i O;have a2:=C.ext i;have L:=n.E i O;refine go ?_;cases q with
  |none=>
   refine go ?_;refine AI (cs:=takeV none) rfl rfl rfl k L (by simp[takeV,oprC]) (fun I g=>?_);have t:Blk I w.heap.size 199 (takeV none):=g.D;have k4:Ext w I:=(A.E.trans i).E g.E O;refine go ?_;exact BB rfl rfl rfl t.cells ⟨k4.any,none,x::l,rfl,u,R.E g.E EP⟩
  |some q=>
   refine go ?_;refine AU rfl rfl rfl a0 O (fun I g=>?_);have q4:=R.taken a2 g;have a3:=P.E g.E EP;have G:=L.E g.E EP;refine go ?_;refine AI (cs:=takeV (some q)) rfl rfl rfl k G (by simp[takeV,oprC]) (fun f B=>?_);have T:Blk f w.heap.size 199 (takeV (some q)):=B.D;have k5:Keep [E.s] w f:=((A.E.trans i).any.trans g.E O).trans B.E O;refine go ?_;exact BB rfl rfl rfl T.cells ⟨k5,some q,l,rfl,u,q4.E B.E EP⟩
theorem index_ok(E:Env)(w:World)(ts:List Tok)(o:Opr)(h:PSt w E ts):PDo E 294 [pt E.s,.agg (oprC o).toArray] w (Dy o) ts (fun _ v n=>v=.tuple #[iV (n.getD 0),.bool n.isSome]/\0<=n.getD 0/\n.getD 0<=9999):=by
 have x:=h.slt;unfold PDo;refine Az Tryz.func294 rfl Tryz.ntmps294 nlr EO (go ?_);refine A3 (L:=oprC o) rfl (fun Q A=>?_);have r:Blk Q w.heap.size 199 [iV o.op,iV o.indexed,iV o.val]:=A.D;have y:=A.size;have Z:=h.ext A.E;refine go ?_;by_cases t:o.indexed=0
 ·refine go ?_;refine BP rfl ⟨A.E.any,none,ts,?_,Z,rfl,by decide,by decide⟩;unfold Dy;rw[if_pos t];exact Run.ret _ _
 ·have e:Dy o=(Ba [91]).bind fun b=>if b then numberG.bind fun n=>(CZ [93]).bind fun _=>.ret (some n)else .ret none:=by unfold Dy;rw[if_neg t]
  rw[e];refine go ?_;refine AF (CY E Q ts [91] Z) rfl ?_;rintro v N⟨a,b,g,rfl,F,W⟩;replace a:Keep [E.s] w N:=A.E.any.trans a O;cases b with
  |false=>
   refine go ?_;exact BP rfl ⟨a,none,g,F.bind (Run.ret _ _),W,rfl,by decide,by decide⟩
  |true=>
   refine go ?_;refine Ag (number_ok E N g W) rfl ?_ ?_
   ·rintro v z⟨i,n,j,d,R,rfl,m,q⟩;replace i:=a.trans i O;refine go ?_;refine Ag (DR E z j [93] R) rfl ?_ ?_
    ·rintro v p⟨c,u,k,f,B,rfl⟩;refine go ?_;exact BP rfl ⟨i.trans c O,some n,k,F.bind (d.bind (f.bind (Run.ret _ _))),B,rfl,m,q⟩
    ·rintro V p⟨c,l,f,rfl⟩;refine go ?_;exact Ab ⟨i.trans c O,l,F.bind (d.bind (Run.bindE f)),rfl⟩
   ·rintro V z⟨i,l,d,rfl⟩;refine go ?_;exact Ab ⟨a.trans i O,l,F.bind (Run.bindE d),rfl⟩
structure PW(w:World)(E:Env)(ts:List Tok):Prop where
 st:PSt w E ts
 gk:GK w
 ge:10<=E.s
theorem PW.next{w w':World}{E:Env}{ts ts':List Tok}(h:PW w E ts)(k:Keep [E.s] w w')(T:PSt w' E ts'):PW w' E ts':=
 ⟨T,h.gk.E k (by have:=h.ge;simpa using this),h.ge⟩
theorem PW.ext{w w':World}{E:Env}{ts:List Tok}(h:PW w E ts)(k:Ext w w'):PW w' E ts:=⟨h.st.ext k,h.gk.ext k,h.ge⟩
theorem PW.E{X:List Nat}{w w':World}{E:Env}{ts:List Tok}(h:PW w E ts)(k:Keep X w w')(b:∀x∈X,E.s<x):PW w' E ts:=
 ⟨h.st.E k b,h.gk.E k (fun x V=>by have:=b x V;have:=h.ge;omega),h.ge⟩
theorem psnode_ok(w:World)(op:Int)(ok:Nat->Prop)(a:Option Addr)(cap:Nat)(L:List (LV))(l:LF)(m:Sl ok w (.slice a l.length cap) l.length L.flatten)(s:FsAt ok w L l)(K:l≠[]):
  Fn Zp 167 [iV op,.slice a l.length cap] w fun v w'=>Ext w w'/\FAt ok w' v (nodeF op l):=by
 refine AN Tryz.func167 rfl Tryz.ntmps167 (go ?_);refine AY (fun Q A=>?_);have n:Blk Q w.heap.size 37 zero5:=A.D;refine go ?_;have B:=m.ext A.E;have d:=s.ext A.E;by_cases Z:l.length=1
 ·match l,L,Z,d,B with
  | [f],[c],_,d,B=>
   have D:=d.2.1 c O;have P:=d.2.2 0 c f rfl rfl;obtain⟨I,p,_,i⟩:=P.cells;have q:c=I:=by simpa using p
   subst q;obtain⟨b,o,rfl,S,r⟩:=B.fml d.2.1 (k:=0) rfl O;have z:[f].length=1:=rfl;refine go ?_;refine AQ (L:=c) rfl D r ?_;refine AI (cs:=c) rfl rfl D i n EV (fun N h=>?_)
   have j:Blk N w.heap.size 37 c:=by
    have:=h.D
    match c,D with
    | [c0,c1,c2,c3,c4],_=>exact this
   refine go ?_;have e:Ext w N:=A.E.E h.E O;refine AW rfl rfl D j.cells ⟨e,?_⟩;exact(s.2.2 0 c f rfl rfl).ext e
 ·refine go ?_;refine AI (cs:=[iV op,AL [],iV 0,iV 0,.slice a l.length cap]) rfl rfl rfl (by intro u g;simp at g;rcases g with rfl|rfl|rfl|rfl|rfl<;>rfl) n EV (fun N h=>?_);have j:Blk N w.heap.size 37 [iV op,AL [],iV 0,iV 0,.slice a l.length cap]:=h.D;refine go ?_;have e:Ext w N:=A.E.E h.E O
  have t:nodeF op l=⟨op,[],0,0,l⟩:=by
   match l,Z,K with
   |_::_::_,_,_=>rfl
  rw[t];exact AW rfl rfl rfl j.cells ⟨e,FAt.node op [] 0 0 (m.ext e) (s.ext e)⟩
structure ChainP(sep:LU)(pi:G Fml)(pl:G (LF)):Prop where
 done:∀{t t'},Run (Ba sep) t (.ok (false,t'))->Run pl t (.ok ([],t'))
 more:∀{t t1 t2 t3 a l},Run (Ba sep) t (.ok (true,t1))->Run pi t1 (.ok (a,t2))->Run pl t2 (.ok (l,t3))->Run pl t (.ok (a::l,t3))
 err1:∀{t t1 e},Run (Ba sep) t (.ok (true,t1))->Run pi t1 (.error e)->Run pl t (.error e)
 err2:∀{t t1 t2 a e},Run (Ba sep) t (.ok (true,t1))->Run pi t1 (.ok (a,t2))->Run pl t2 (.error e)->Run pl t (.error e)
def prepA(l:LF):Ans (LF)->Ans (LF)
 | .ok y=>.ok (l++y.1,y.2)
 | .error e=>.error e
theorem ChainP.step{b:LU}{d:G Fml}{l:G (LF)}(h:ChainP b d l){t m f:List Tok}{a:Fml}(Z:Run (Ba b) t (.ok (true,m)))(W:Run d m (.ok (a,f))){r:Ans (LF)}(c:Run l f r):Run l t (prepA [a] r):=by
 cases r with
 |ok y=>exact h.more Z W c
 |error e=>exact h.err2 Z W c
theorem prepA_app(l m:LF)(r:Ans (LF)):prepA l (prepA m r)=prepA (l++m) r:=by
 cases r<;>simp[prepA]
theorem accepts_inv{t:LU}{ts ts':List Tok}{b:Bool}(h:Run (Ba t) ts (.ok (b,ts'))):(b=true/\ts'.length+1=ts.length/\A4 t (ts.head?.map bare)=true/\ts'=ts.tail)\/(b=false/\ts'=ts/\A4 t (ts.head?.map bare)=false):=by
 cases hs:A4 t (ts.head?.map bare)with
 |true=>
  have e:=h.det (run_accepts_t hs);cases e;cases ts with
  |nil=>simp[A4]at hs
  |cons x l=>exact .inl ⟨rfl,rfl,rfl,rfl⟩
 |false=>
  have e:=h.det (run_accepts_f hs);cases e;exact .inr ⟨rfl,rfl,rfl⟩
def C7(E:Env)(N:Nat)(g:FuncId)(y:G Fml):Prop:=∀(w:World)(u:List Tok),PW w E u->u.length<=N->PDo E g [pt E.s] w y u (fun X v a=>FAt (fresh w) X v a)
theorem chain_ok(E:Env)(N:Nat)(g:FuncId)[AM Zp g](H:LU)(pi:G Fml)(D:G (LF))(X:ChainP H pi D)(hI:C7 E N g pi)(w:World)(ts:List Tok)(h:PW w E ts)(hN:ts.length<=N):
  PDo E 168 [pt E.s,AL H,.func (.func g) #[pt E.s] #[]] w (pi.bind fun a=>D.bind fun l=>.ret (a::l)) ts
   (fun w' v l=>∃a c L,v=.slice a l.length c/\l≠[]/\Sl (fresh w) w' v l.length L.flatten/\FsAt (fresh w) w' L l):=by
 have b4:=h.st.slt;unfold PDo;refine Az Tryz.func168 rfl Tryz.ntmps168 nlr EO (go ?_);refine Cs (v1:=[pt E.s]) (v2:=[]) (vs:=[]) rfl (hI w ts h hN) rfl ?_ ?_;rotate_left
 ·rintro ch Q⟨Z,l,t,rfl⟩;refine go ?_;exact Ab ⟨Z,l,Run.bindE t,rfl⟩
 rintro v Q⟨Z,d,m,t,q1,f1⟩;have T:=h.next Z q1
 have a6:=f1.lt;obtain⟨av,rfl,_⟩:=f1.form;refine AP (out:=[iV d.op,AL d.name,iV d.val,iV d.bound,av]) rfl U EZ (fun w2 q=>?_);have z2:=q.size;have o2:=q.own (n:=1) (size:=5) rfl EW (Nat.le_refl _);have h2:=T.ext q.E;have b8:=Z.size;refine go ?_;have b5:m.length<=ts.length:=(show m<:+ts from t.suffix).length_le
 refine Ar (α:=Value×List (LV)×LF×List Tok) (fun x=>[(0,pt E.s),(1,AL H),(2,.func (.func g) #[pt E.s] #[]),(7,x.1)])
  (fun x W=>Keep [E.s] w W/\PW W E x.2.2.2/\x.2.2.2.length<=m.length/\x.2.2.1.length+x.2.2.2.length<=ts.length+1/\x.1.ownBlock≠none/\W.ownsRow Q.heap.size 37 5 x.1 x.2.2.1.length x.2.1.flatten/\FsAt (fun b=>fresh w b/\x.1.ownBlock≠some b) W x.2.1 x.2.2.1/\
   ∃j,x.2.2.1=d::j/\∀r,Run D x.2.2.2 r->Run D m (prepA j r))
  (fun x=>x.2.2.2.length) (.slice (sm Q.heap.size) 1 1,[[iV d.op,AL d.name,iV d.val,iV d.bound,av]],[d],m)
  ⟨rfl,rfl,rfl,rfl,trivial⟩ ⟨Z.ext q.E,h2,Nat.le_refl _,by simp;omega,by simp[Value.ownBlock],by simpa using o2,?_,[],rfl,fun r hr=>by cases r<;>simpa[prepA]using hr⟩ ?_
 ·exact FsAt.one ((a6.ext q.E).mono fun b S=>⟨S.1,by simp[Value.ownBlock];omega⟩) rfl
 rintro⟨v,L,l,a5⟩w3 f3⟨k3,R,a8,a2,a3,o3,F3,j,rfl,C⟩;simp only at k3 R a8 a2 a3 o3 F3 C⊢;refine go ?_;refine AF (CY E w3 a5 H R.st) rfl ?_;rintro _ w4⟨p,b,K,rfl,F,q4⟩;have h4:=R.next p q4
 have k:∀g,v.ownBlock=some g->Q.heap.size<=g/\g<w3.heap.size:=fun g f=>An o3 f;have o4:=Ai o3 p (fun g f=>by have:=k g f;simp;omega);have F4:=F3.E p (fun b S=>by have:=S.1;simp[fresh]at this⊢;omega);have a1:=k3.trans p O;rcases accepts_inv F with⟨rfl,b2,_,_⟩|⟨rfl,rfl,_⟩
 ·refine go ?_;refine Cs (v1:=[pt E.s]) (v2:=[]) (vs:=[]) rfl (hI w4 K h4 U) rfl ?_ ?_;rotate_left
  ·rintro ch w5⟨A,l,P,rfl⟩;refine go ?_;exact Ab ⟨a1.trans A O,l,t.bind (Run.bindE (C _ (X.err1 F P))),rfl⟩
  rintro u w5⟨A,a,M,P,q5,f5⟩;have h5:=h4.next A q5
  have b1:M.length<=K.length:=(show M<:+K from P.suffix).length_le;have o5:=Ai o4 A (fun g f=>by have:=k g f;simp;omega);have F5:=F4.E A (fun b S=>by have:=S.1;simp[fresh]at this⊢;omega);have a9:=a1.trans A O;have a7:=f5.lt;have b9:=p.size;have z5:=A.size;have z3:=k3.size;obtain⟨b0,rfl,L5,S5,_⟩:=f5.form;obtain⟨B,z,rfl,_⟩:=id S5
  have b7:Q.heap.size<=w3.heap.size:=by
   obtain⟨g,f⟩:=Option.ne_none_iff_exists'.1 a3;have:=k g f;omega
  refine AP (out:=[iV a.op,AL a.name,iV a.val,iV a.bound,.slice B a.args.length z]) rfl U EZ (fun w6 o=>?_);have z6:=o.size;have o6:=o.own (n:=1) (size:=5) rfl EW (Nat.le_refl _);have b6:=h.st.cnt;have b3:(d::j).length=j.length+1:=rfl;refine Ax (ok:=Af) (v:=v) (sv:=.slice (sm w5.heap.size) 1 1) rfl rfl (As o5 o.E) (Aa o6 fun _ _=>trivial) U rfl rfl (by intro y hy;simp at hy;rcases hy with rfl|rfl|rfl|rfl|rfl<;>rfl) U U U (fun I w7 i=>?_);refine go ?_;have o7:=i.own;have e7:Ext w5 w7->True:=fun _=>trivial;have h7:=(h5.ext o.E).E i.E (fun x V=>by have:=k x (Option.mem_toList.1 V);omega)
  have a4:∀b,I.ownBlock=some b->v.ownBlock=some b\/b=w6.heap.size:=fun b S=>by
   rcases i.D with e|e
   ·exact .inl Et
   ·rw[e]at S;exact .inr (Option.some.inj S).symm
  have F7:FsAt (fun b=>fresh w b/\I.ownBlock≠some b) w7 L (d::j):=by
   refine((F5.lt.E o.E fun _ _=>by simp).E i.E ?_).mono ?_
   ·rintro b⟨⟨_,S⟩,_⟩V;exact S (Option.mem_toList.1 V)
   ·rintro b⟨⟨T,S⟩,a0⟩;refine⟨T,fun e=>?_⟩;rcases a4 b e with e|e
    ·exact S e
    ·omega
  have f7:FAt (fun b=>fresh w b/\I.ownBlock≠some b) w7 (.agg [iV a.op,AL a.name,iV a.val,iV a.bound,.slice B a.args.length z].toArray) a:=by
   refine((a7.ext o.E).E i.E ?_).mono ?_
   ·rintro b⟨S,a0⟩V;have:=k b (Option.mem_toList.1 V);simp[fresh]at S;omega
   ·rintro b⟨S,a0⟩;simp only[fresh]at S⊢;refine⟨by omega,fun e=>?_⟩;rcases a4 b e with e|e
    ·have:=k b e;omega
    ·omega
  refine⟨(I,L++[[iV a.op,AL a.name,iV a.val,iV a.bound,.slice B a.args.length z]],(d::j)++[a],M),⟨rfl,⟨rfl,rfl,rfl,rfl,trivial⟩,⟨?_,h7,by simp only;omega,by simp only[List.length_append,List.length_cons,List.length_nil]at a2⊢;omega,i.some O,?_,F7.snoc f7 rfl,j++[a],by simp,fun r hr=>?_⟩⟩,by simp only;omega⟩
  ·exact(a9.ext o.E).trans i.E (fun x V a0=>by have:=k x (Option.mem_toList.1 V);omega)
  ·have e1:(L++[[iV a.op,AL a.name,iV a.val,iV a.bound,.slice B a.args.length z]]).flatten=L.flatten++[iV a.op,AL a.name,iV a.val,iV a.bound,.slice B a.args.length z]:=by simp
   simp only;rw[e1,List.length_append];exact o7
  ·rw[<-prepA_app];exact C _ (X.step F P hr)
 ·refine go ?_;have hS:=Aa (ok:=fresh w) o4 (fun g f=>by have:=k g f;simp only[fresh];omega);obtain⟨sa,sc,rfl,_⟩:=id hS;refine go ?_;refine AC rfl ⟨a1,d::j,_,t.bind ((C _ (X.done F)).bind ?_),q4,_,_,L,rfl,by simp,hS,F4.mono fun b S=>S.1⟩;simp only[List.append_nil];exact Run.ret _ _
structure Rp(α:Type)where
 fits:(Nat->Prop)->World->LV->α->Prop
 size:Nat
 len:∀{ok w c a},fits ok w c a->c.length=size
 one:∀{ok w c a},fits ok w c a->oneC c
 E:∀{ok X w w' c a},fits ok w c a->Keep X w w'->(∀b,ok b->b∉X)->fits ok w' c a
 lt:∀{ok w c a},fits ok w c a->fits (fun b=>ok b/\b<w.heap.size) w c a
 mono:∀{ok ok':Nat->Prop}{w c a},fits ok w c a->(∀b,ok b->ok' b)->fits ok' w c a
theorem Rp.ext{α:Type}(R:Rp α){ok:Nat->Prop}{w w':World}{c:LV}{a:α}(h:R.fits ok w c a)(k:Ext w w'):R.fits ok w' c a:=R.E h k fun _ _=>by simp
def RsAt{α:Type}(R:Rp α)(ok:Nat->Prop)(w:World)(L:List (LV))(l:List α):Prop:=
 L.length=l.length/\∀(i:Nat)(c:LV)(a:α),L[i]?=some c->l[i]?=some a->R.fits ok w c a
section
variable {α:Type}{R:Rp α}{ok:Nat->Prop}{w w':World}{L:List (LV)}{l:List α}
theorem RsAt.nil:RsAt R ok w [] []:=⟨rfl,fun i c g h=>by simp at h⟩
theorem RsAt.E{X:List Nat}(h:RsAt R ok w L l)(k:Keep X w w')(e:∀b,ok b->b∉X):RsAt R ok w' L l:=⟨h.1,fun i c a T D=>R.E (h.2 i c a T D) k e⟩
theorem RsAt.ext(h:RsAt R ok w L l)(k:Ext w w'):RsAt R ok w' L l:=h.E k fun _ _=>by simp
theorem RsAt.lt(h:RsAt R ok w L l):RsAt R (fun b=>ok b/\b<w.heap.size) w L l:=⟨h.1,fun i c a T D=>R.lt (h.2 i c a T D)⟩
theorem RsAt.mono{ok':Nat->Prop}(h:RsAt R ok w L l)(e:∀b,ok b->ok' b):RsAt R ok' w L l:=⟨h.1,fun i c a T D=>R.mono (h.2 i c a T D) e⟩
theorem RsAt.app{M:List (LV)}{m:List α}(h:RsAt R ok w L l)(b:RsAt R ok w M m):RsAt R ok w (L++M) (l++m):=by
 refine⟨by simp[h.1,b.1],fun i c a T D=>?_⟩;by_cases H:i<L.length
 ·rw[List.getElem?_append_left H]at T;rw[List.getElem?_append_left (by rw[<-h.1];exact H)]at D;exact h.2 i c a T D
 ·rw[List.getElem?_append_right U]at T;rw[List.getElem?_append_right (by rw[<-h.1];omega),<-h.1]at D;exact b.2 _ c a T D
theorem RsAt.one{c:LV}{a:α}(h:R.fits ok w c a):RsAt R ok w [c] [a]:=by
 refine⟨rfl,fun i d b C S=>?_⟩;cases i with
 |zero=>simp at C S;subst C;subst S;exact h
 |succ i=>simp at C
theorem RsAt.snoc{c:LV}{a:α}(h:RsAt R ok w L l)(T:R.fits ok w c a):RsAt R ok w (L++[c]) (l++[a]):=h.app (RsAt.one T)
theorem RsAt.len(h:RsAt R ok w L l):∀c∈L,c.length=R.size:=by
 intro c T;obtain⟨i,H⟩:=List.getElem?_of_mem T;have x:i<l.length:=by have:=(List.getElem?_eq_some_iff.1 H).1;rw[h.1]at this;exact this
 exact R.len (h.2 i c _ H (List.getElem?_eq_getElem x))
theorem Bw(n:Nat):∀L:List (LV),(∀c∈L,c.length=n)->L.flatten.length=L.length*n
 | [],_=>by simp
 |c::L,h=>by
  have:=h c O;have x:=Bw n L fun d C=>h d (by simp[C]);simp only[List.flatten_cons,List.length_append,List.length_cons,x,Nat.succ_mul];omega
theorem RsAt.flat(h:RsAt R ok w L l):L.flatten.length=l.length*R.size:=by rw[<-h.1];exact Bw _ L h.len
theorem RsAt.oneC(h:RsAt R ok w L l):oneC L.flatten:=by
 intro u g;obtain⟨c,T,g⟩:=List.mem_flatten.1 g;obtain⟨i,H⟩:=List.getElem?_of_mem T;have x:i<l.length:=by have:=(List.getElem?_eq_some_iff.1 H).1;rw[h.1]at this;exact this
 exact R.one (h.2 i c _ H (List.getElem?_eq_getElem x)) u g
end
def SlAt{α:Type}(R:Rp α)(ok:Nat->Prop)(w:World)(v:Value)(l:List α):Prop:=∃a c L,v=.slice a l.length c/\Sl ok w v l.length L.flatten/\RsAt R ok w L l
theorem Sl_ltR{α:Type}{R:Rp α}{ok:Nat->Prop}{w:World}{v:Value}{L:List (LV)}{l:List α}(z:0<R.size)(h:Sl ok w v l.length L.flatten)(T:RsAt R ok w L l):Sl (fun b=>ok b/\b<w.heap.size) w v l.length L.flatten:=by
 refine h.lt fun t e=>?_;have:=T.flat;rw[e]at this;have a:0<l.length*R.size:=Nat.mul_pos U z;simp at this;omega
def sgnC(x:Sgn):LV:=[AL x.name,.bool x.input,iV x.size]
def sgnR:Rp Sgn where
 fits _ _ c x:=c=sgnC x
 size:=3
 len h:=by subst h;rfl
 one h:=by subst h;intro u g;simp[sgnC]at g;rcases g with rfl|rfl|rfl<;>rfl
 E h _ _:=h
 lt h:=h
 mono h _:=h
def reqR:Rp Rqm where
 fits ok w c x:=∃d:LV,c=[AL x.part,AL x.name,iV x.kind]++d/\d.length=5/\FAt ok w (.agg d.toArray) x.formula
 size:=8
 len h:=by obtain⟨d,rfl,C,_⟩:=h;simp[C]
 one h:=by
  obtain⟨d,rfl,C,a⟩:=h;obtain⟨b,e,_,i⟩:=a.cells;have:d=b:=by simpa using e
  subst this;intro u g;rcases List.mem_append.1 g with g|g
  ·simp at g;rcases g with rfl|rfl|rfl<;>rfl
  ·exact i u g
 E h k hX:=by obtain⟨d,e,C,a⟩:=h;exact⟨d,e,C,a.E k hX⟩
 lt h:=by obtain⟨d,e,C,a⟩:=h;exact⟨d,e,C,a.lt⟩
 mono h hk:=by obtain⟨d,e,C,a⟩:=h;exact⟨d,e,C,a.mono hk⟩
theorem AV{l:LV}(h:l.all (fun v=>v.oneCell')=true):oneC l:=fun u g=>List.all_eq_true.1 h u g
def spcR:Rp Spc where
 fits ok w c x:=∃j i,c=[j,i]/\SlAt sgnR ok w j x.sigs/\SlAt reqR ok w i x.reqs
 size:=2
 len h:=by obtain⟨_,_,rfl,_⟩:=h;rfl
 one h:=by
  obtain⟨_,_,rfl,⟨_,_,_,rfl,_⟩,⟨_,_,_,rfl,_⟩⟩:=h;intro u g;simp at g;rcases g with rfl|rfl<;>rfl
 E h k hX:=by
  obtain⟨j,i,e,⟨a,c,L,m,n,W⟩,⟨b,d,M,r,o,B⟩⟩:=h;exact⟨j,i,e,⟨a,c,L,m,n.E k hX,W.E k hX⟩,⟨b,d,M,r,o.E k hX,B.E k hX⟩⟩
 lt h:=by
  obtain⟨j,i,e,⟨a,c,L,m,n,W⟩,⟨b,d,M,r,o,B⟩⟩:=h;exact⟨j,i,e,⟨a,c,L,m,Sl_ltR (by show 0<3;decide) n W,W.lt⟩,⟨b,d,M,r,Sl_ltR (by show 0<8;decide) o B,B.lt⟩⟩
 mono h hk:=by
  obtain⟨j,i,e,⟨a,c,L,m,n,W⟩,⟨b,d,M,r,o,B⟩⟩:=h;exact⟨j,i,e,⟨a,c,L,m,n.mono hk,W.mono hk⟩,⟨b,d,M,r,o.mono hk,B.mono hk⟩⟩
def fmlR:Rp Fml where
 fits ok w c x:=c.length=5/\FAt ok w (.agg c.toArray) x
 size:=5
 len h:=h.1
 one h:=by
  obtain⟨I,e,_,a⟩:=h.2.cells;simp only[Value.agg.injEq]at e;have r:=congrArg Array.toList e;simp only[List.toList_toArray]at r;exact r▸a
 E h k hX:=⟨h.1,h.2.E k hX⟩
 lt h:=⟨h.1,h.2.lt⟩
 mono h hk:=⟨h.1,h.2.mono hk⟩
theorem CR(n:Nat):∀(L:List (LV))(k j:Nat)(c:LV)(v:Value),(∀c∈L,c.length=n)->L[k]?=some c->c[j]?=some v->L.flatten[k*n+j]?=some v
 | [],k,j,c,v,_,h,_=>by simp at h
 |d::L,0,j,c,v,h5,h,hv=>by
  simp at h;subst h;rw[List.flatten_cons,Nat.zero_mul,Nat.zero_add,List.getElem?_append_left (List.getElem?_eq_some_iff.1 hv).1];exact hv
 |d::L,k+1,j,c,v,h5,h,hv=>by
  have C:=h5 d O;rw[List.flatten_cons,List.getElem?_append_right (by rw[C,Nat.succ_mul];omega),C,show(k+1)*n+j-n=k*n+j by rw[Nat.succ_mul];omega];exact CR n L k j c v (fun c T=>h5 c Eb) Ed hv
theorem Sl.recs{α:Type}{R:Rp α}{ok:Nat->Prop}{w:World}{a:Option Addr}{n cap k sz:Nat}{L:List (LV)}{l:List α}{c:LV}(h:Sl ok w (.slice a n cap) n L.flatten)(z:RsAt R ok w L l)(y:R.size=sz)(e:L[k]?=some c)(I:k<n):
  ∃b o,a=some ⟨b,o,none⟩/\ok b/\Cells w b (o+k*sz) c:=by
 obtain⟨g,V,p,i,W,m,B⟩:=h;cases p;obtain⟨b,o,rfl,S,T⟩:=B.resolve_left U;refine⟨b,o,rfl,S,fun j v p=>?_⟩;have:=T _ _ (CR sz L k j c v (fun c T=>by rw[z.len c T,y]) e p)
 rwa [<-Nat.add_assoc]at this
theorem SlAt.ext{α:Type}{R:Rp α}{ok:Nat->Prop}{w w':World}{v:Value}{l:List α}(h:SlAt R ok w v l)(k:Ext w w'):SlAt R ok w' v l:=by
 obtain⟨a,c,L,e,b,W⟩:=h;exact⟨a,c,L,e,b.ext k,W.ext k⟩
theorem SlAt.mono{α:Type}{R:Rp α}{ok ok':Nat->Prop}{w:World}{v:Value}{l:List α}(h:SlAt R ok w v l)(g:∀b,ok b->ok' b):SlAt R ok' w v l:=by
 obtain⟨a,c,L,e,i,W⟩:=h;exact⟨a,c,L,e,i.mono g,W.mono g⟩
theorem Sl.row{α:Type}{R:Rp α}{ok:Nat->Prop}{w:World}{a:Option Addr}{n c k:Nat}{l:List α}{L:List (LV)}{d:LV}(i:Sl ok w (.slice a n c) n L.flatten)(z:RsAt R ok w L l)(C:L[k]?=some d)(p:k<n):∃b o,a=some ⟨b,o,none⟩/\ok b/\Cells w b (o+k*R.size) d:=by
 obtain⟨m,I,e,_,_,_,h⟩:=i;cases e;rcases h with t|⟨b,o,rfl,S,T⟩
 ·omega
 ·refine⟨b,o,rfl,S,fun j u g=>?_⟩;have:=T (k*R.size+j) u (CR R.size L k j d u z.len C g);rw[<-Nat.add_assoc]at this;exact this
abbrev FV(w:World)(v:Value)(f:Fml):Prop:=FAt Af w v f
def fcC(f:Fml)(W:Value):LV:=[iV f.op,AL f.name,iV f.val,iV f.bound,W]
def PF(ok:Nat->Prop)(w:World)(b o:Nat)(f:Fml):Prop:=ok b/\∃d:LV,d.length=5/\Cells w b o d/\FAt ok w (.agg d.toArray) f
theorem PF.E{ok:Nat->Prop}{X:List Nat}{w w':World}{b o:Nat}{f:Fml}(h:PF ok w b o f)(k:Keep X w w')(a:∀b,ok b->b∉X):PF ok w' b o f:=by
 obtain⟨S,d,C,T,c⟩:=h;exact⟨S,d,C,T.E k (a b S),c.E k a⟩
theorem PF.lt{ok:Nat->Prop}{w:World}{b o:Nat}{f:Fml}(h:PF ok w b o f):PF (fun b=>ok b/\b<w.heap.size) w b o f:=by
 obtain⟨S,d,C,T,a⟩:=h;obtain⟨E,y,M,c,e,rfl⟩:=Ak C;exact⟨⟨S,World.block_lt_of_cell? w _ (T 0 _ rfl)⟩,_,rfl,T,a.lt⟩
theorem PF.mono{ok ok':Nat->Prop}{w:World}{b o:Nat}{f:Fml}(h:PF ok w b o f)(a:∀b,ok b->ok' b):PF ok' w b o f:=by
 obtain⟨S,d,C,T,c⟩:=h;exact⟨a b S,d,C,T,c.mono a⟩
theorem PF.form{ok:Nat->Prop}{w:World}{b o:Nat}{f:Fml}(h:PF ok w b o f):ok b/\∃a c L,Cells w b o (fcC f (.slice a f.args.length c))/\Sl ok w (.slice a f.args.length c) f.args.length L.flatten/\FsAt ok w L f.args:=by
 obtain⟨S,d,C,T,k⟩:=h;obtain⟨m,e,L,g,i,W,j⟩:=k.form;obtain⟨a,c,rfl,_⟩:=id g;have e:=congrArg Array.toList (Value.agg.inj e);have e:d=fcC f (.slice a f.args.length c):=e;subst e;exact⟨S,a,c,L,T,g,i,W,j⟩
section
variable {P:Program}{all:Array Oper}{Z:Fr->DS->List PanicEntry->World->Prop}{K:Fr->DS->World->Prop}{rest:List Oper}{f:Fr}{ds:DS}{w:World}
 {d:Nat}{ty ty':TypeId}{pos pos':String}{af af':Array Edge}
theorem BY(L cs:LV)(h:cs.length=L.length):splice L 0 cs=cs:=by
 simp[splice,h]
theorem A2{T n:Nat}{x:Operand}{cs z:LV}[hZ:CP P T z][hT:B8 P T n](V:ev (upd f d (.pointer (sm w.heap.size))) x=.agg cs.toArray)(I:cs.length=n)(g:z.length=n)(a:oneC cs)
  (h:∀w',New w w' T cs->AT P all Z K rest (upd f d (.pointer (sm w.heap.size))) ds w'):
  AT P all Z K (⟨some d,.alloc T,ty,pos,af,none⟩::⟨none,.store T (.tmp d) x,ty',pos',af',none⟩::rest) f ds w:=by
 refine AY (L:=z) fun Q A=>?_;refine AI (b:=w.heap.size) (o:=0) (cs:=cs) (by simp[ev,upd]) V I a A.D U fun N c=>?_;have e:=c.D;rw[BY z cs U]at e;refine h N ⟨A.E.E c.E O,by rw[c.size,A.size],e⟩
theorem BE{T A b:Nat}{a x:Operand}{v:Value}{g:Fml}{ok:Nat->Prop}{L:LV}[hT:B8 P T 5](D:ev f a=.pointer (sm b))(V:ev f x=v)(c:FAt ok w v g)(S:Blk w b A L)(j:L.length=5)
  (h:∀w' cs,v=.agg cs.toArray->cs.length=5->Keep [b] w w'->w'.heap.size=w.heap.size->Blk w' b A cs->AT P all Z K rest f ds w'):
  AT P all Z K (⟨none,.store T a x,ty,pos,af,none⟩::rest) f ds w:=by
 obtain⟨cs,rfl,C,i⟩:=c.cells;refine AI (cs:=cs) D V C i S U fun w' p=>?_;have e:=p.D;rw[BY L cs U]at e;exact h w' cs rfl C p.E p.size e
end
theorem FAt.new{ok:Nat->Prop}{w w':World}{v:Value}{f:Fml}(h:FAt ok w v f){T:TypeId}{cs:LV}(n:New w w' T cs):FAt ok w' v f:=h.ext n.E
theorem oneC_fml(a b c d:Value)(e:Option Addr)(n m:Nat)(D:a.oneCell'=true)(S:b.oneCell'=true)(T:c.oneCell'=true)(C:d.oneCell'=true):oneC [a,b,c,d,.slice e n m]:=by
 intro u g;simp at g;rcases g with rfl|rfl|rfl|rfl|rfl<;>first|assumption|rfl
theorem primary_ok(E:Env)(N:Nat)(hF:∀M,M<N->C7 E M 46 (body .formula)):C7 E N 327 (body .primary):=by
 intro w ts h hN;have c3:=h.st.slt;unfold PDo;refine Az Tryz.func327 rfl Tryz.ntmps327 nlr EO (go ?_);refine AY (fun w1 n1=>?_);have b1:Blk w1 w.heap.size 37 zero5:=n1.D;have z1:=n1.size;have h1:=h.ext n1.E;have k1:Keep [E.s] w w1:=n1.E.any;refine go ?_;refine AF (CY E w1 ts [116,114,117,101] h1.st) rfl ?_;rintro _ w2⟨k2,b,y,rfl,F,q2⟩;have h2:=h1.next k2 q2
 have b2:=b1.E k2 ES;have a7:=k1.trans k2 O;have z2:=k2.size;have l2:y.length<=ts.length:=(show y<:+ts from F.suffix).length_le;refine go ?_;cases b with
 |true=>
  refine go ?_;refine BE rfl rfl (FAt.leaf (fresh w) w2 1 [] 0 0) b2 rfl (fun w3 q e C p z3 z=>go ?_);refine AW rfl rfl C z.cells ⟨a7.trans p ES,_,y,F.bind (Run.ret _ _),q2.E p ES,?_⟩;rw[<-e];exact FAt.leaf _ _ _ _ _ _
 |false=>
 refine go ?_;refine AF (CY E w2 y [102,97,108,115,101] h2.st) rfl ?_;rintro _ w3⟨p,b,x,rfl,i,q3⟩;have h3:=h2.next p q3
 have z:=b2.E p ES;have a8:=a7.trans p O;have z3:=p.size;have l3:x.length<=y.length:=(show x<:+y from i.suffix).length_le;refine go ?_;cases b with
 |true=>
  refine go ?_;refine BE rfl rfl (FAt.leaf (fresh w) w3 2 [] 0 0) z rfl (fun w4 q e C c z4 t=>go ?_);refine AW rfl rfl C t.cells ⟨a8.trans c ES,_,x,F.bind (i.bind (Run.ret _ _)),q3.E c ES,?_⟩;rw[<-e];exact FAt.leaf _ _ _ _ _ _
 |false=>
 refine go ?_;refine AF (CY E w3 x [40] h3.st) rfl ?_;rintro _ w4⟨c,b,Q,rfl,u,q4⟩;have B:=h3.next c q4
 have t:=z.E c ES;have o:=a8.trans c O;have z4:=c.size;have l4:Q.length<=x.length:=(show Q<:+x from u.suffix).length_le;refine go ?_;cases b with
 |true=>
  have c4:Q.length+1=x.length:=by
   rcases accepts_inv u with⟨_,e,_⟩|⟨e,_⟩
   ·exact e
   ·cases e
  refine go ?_;refine Ag (hF Q.length U w4 Q B (Nat.le_refl _)) rfl ?_ ?_;rotate_left
  ·
   rintro R wq⟨l,X,W,rfl⟩;refine go ?_;exact Ab ⟨o.trans l O,X,F.bind (i.bind (u.bind (Run.callE W))),rfl⟩
  rintro v w5⟨A,f,t5,P,q5,f5⟩;have h5:=B.next A q5
  have b5:=t.E A ES;have a0:=o.trans A O;have z5:=A.size;obtain⟨q,rfl,C,b8⟩:=f5.cells;refine A2 (cs:=q) rfl C EQ b8 (fun w6 d=>?_);have f6:=f5.new d;have k:=h5.ext d.E;have b6:=b5.E d.E O;have z6:=d.size;have e6:=d.D;refine go ?_;refine Ag (DR E w6 t5 [41] k.st) rfl ?_ ?_;rotate_left
  ·
   rintro R wq⟨l,X,W,rfl⟩;refine go ?_;exact Ab ⟨(a0.ext d.E).trans l O,X,F.bind (i.bind (u.bind (Run.call P (Run.bindE W)))),rfl⟩
  rintro v w7⟨j,_,t7,T,q7,rfl⟩;have Z:=e6.E j ES;have K:=b6.E j ES;have f7:=f6.E j Ec;refine go ?_;refine A8 rfl Z C ?_;refine BE rfl rfl f7 K rfl (fun w8 c1 e hcs' g z8 m=>go ?_);refine AW rfl rfl hcs' m.cells ⟨((a0.ext d.E).trans j O).trans g ES,f,t7,F.bind (i.bind (u.bind (Run.call P (T.bind (Run.ret _ _))))),q7.E g ES,?_⟩;rw[<-e];exact(f7.E g Ec).mono (fun b S=>by simp only[fresh]at S⊢;omega)
 |false=>
 refine go ?_;refine Ag (pname_ok E w4 Q B.st B.gk) rfl ?_ ?_;rotate_left
 ·
  rintro R wq⟨l,X,W,rfl⟩;refine go ?_;exact Ab ⟨o.trans l O,X,F.bind (i.bind (u.bind (Run.bindE W))),rfl⟩
 rintro v w5⟨A,s,t5,P,q5,rfl,hs⟩;have h5:=B.next A q5
 have b5:=t.E A ES;have a0:=o.trans A O;have z5:=A.size;refine go ?_;refine A2 (cs:=[iV 3,AL s,iV 1,iV 0,.slice none 0 0]) rfl rfl EQ (oneC_fml _ _ _ _ _ _ _ rfl rfl rfl rfl) (fun w6 d=>?_);have k:=h5.ext d.E;have b6:=b5.E d.E O;have z6:=d.size;have e6:=d.D;have b9:=a0.ext d.E;refine go ?_;refine AF (CY E w6 t5 [61] k.st) rfl ?_;rintro _ w7⟨j,b,t7,rfl,T,q7⟩;have h7:=k.next j q7
 have K:=b6.E j ES;have Z:=e6.E j ES;have a4:=b9.trans j O;have z7:=j.size;refine go ?_;cases b with
 |true=>
  refine go ?_;refine Ag (number_ok E w7 t7 h7.st) rfl ?_ ?_;rotate_left
  ·
   rintro R wq⟨l,X,W,rfl⟩;refine go ?_;exact Ab ⟨a4.trans l O,X,F.bind (i.bind (u.bind (P.bind (T.bind (Run.bindE W))))),rfl⟩
  rintro v w8⟨g,n,t8,D,q8,rfl,hn0,b7⟩;have m:=K.E g ES;have e8:=Z.E g ES;have z8:=g.size;refine go ?_;refine AU rfl rfl rfl e8 O (fun w9 I=>?_);have G:=m.E I.E ES;have e9:Blk w9 w5.heap.size 37 [iV 3,AL s,iV n,iV 0,.slice none 0 0]:=I.D;have z9:=I.size;refine go ?_;refine BE rfl rfl (FAt.leaf (fresh w) w9 3 s n 0) G rfl (fun a1 q e C a6 c0 a2=>go ?_);refine AW rfl rfl C a2.cells ⟨((a4.trans g O).trans I.E ES).trans a6 ES,_,t8,F.bind (i.bind (u.bind (P.bind (T.bind (D.bind (Run.ret _ _)))))),(q8.E I.E ES).E a6 ES,?_⟩;rw[<-e];exact FAt.leaf _ _ _ _ _ _
 |false=>
 refine go ?_;refine AF (CY E w7 t7 [33,61] h7.st) rfl ?_;rintro _ w8⟨g,b,t8,rfl,D,q8⟩;have h8:=h7.next g q8
 have m:=K.E g ES;have e8:=Z.E g ES;have a5:=a4.trans g O;have z8:=g.size;refine go ?_;cases b with
 |true=>
  refine go ?_;refine Ag (number_ok E w8 t8 h8.st) rfl ?_ ?_;rotate_left
  ·
   rintro R wq⟨l,X,W,rfl⟩;refine go ?_;exact Ab ⟨a5.trans l O,X,F.bind (i.bind (u.bind (P.bind (T.bind (D.bind (Run.bindE W)))))),rfl⟩
  rintro v w9⟨V,n,t9,r9,q9,rfl,hn0,b7⟩;have G:=m.E V ES;have e9:=e8.E V ES;have z9:=V.size;refine go ?_;refine AU rfl rfl rfl e9 O (fun a1 H=>?_);have a2:=G.E H.E ES;have c2:Blk a1 w5.heap.size 37 [iV 3,AL s,iV n,iV 0,.slice none 0 0]:=H.D;have c0:=H.size;refine go ?_;refine AP (out:=[iV 3,AL s,iV n,iV 0,.slice none 0 0]) rfl U EZ (fun c5 r=>?_);have c7:=r.size;have b3:=a2.E r.E O;obtain⟨S11,a9⟩:=FsAt.fresh (ok:=fresh w) (L:=[[iV 3,AL s,iV n,iV 0,.slice none 0 0]]) r (FsAt.one (FAt.leaf (fresh w) a1 3 s n 0) rfl) (by simp only[fresh];omega) O;refine go ?_;refine BE rfl rfl (FAt.node 4 [] 0 0 S11 a9) b3 rfl (fun c6 q e C a3 c8 b4=>go ?_);refine AW rfl rfl C b4.cells ⟨(((a5.trans V O).trans H.E ES).ext r.E).trans a3 ES,_,t9,F.bind (i.bind (u.bind (P.bind (T.bind (D.bind (r9.bind (Run.ret _ _))))))),(((q9.E H.E ES).ext r.E)).E a3 ES,?_⟩;rw[<-e];obtain⟨S12,b0⟩:=FsAt.fresh (ok:=fun b=>fresh w b/\b≠w.heap.size) (L:=[[iV 3,AL s,iV n,iV 0,.slice none 0 0]]) r (FsAt.one (FAt.leaf _ a1 3 s n 0) rfl) (by simp only[fresh];omega) O;exact((FAt.node 4 [] 0 0 S12 b0).E a3 (by rintro b⟨_,S⟩;simpa using S)).mono fun b S=>S.1
 |false=>
  refine go ?_;refine BE rfl rfl (FAt.leaf (fresh w) w8 3 s 1 0) m rfl (fun w9 q e C V z9 G=>go ?_);refine AW rfl rfl C G.cells ⟨a5.trans V ES,_,t8,F.bind (i.bind (u.bind (P.bind (T.bind (D.bind (Run.ret _ _)))))),q8.E V ES,?_⟩;rw[<-e];exact FAt.leaf _ _ _ _ _ _
theorem take_inv{s:List (LU×Opr)}{ts ts':List Tok}{o:Option Opr}(h:Run (takeG s) ts (.ok (o,ts'))):(∃p,o=some p/\ts'.length+1=ts.length)\/(o=none/\ts'=ts):=by
 cases ts with
 |nil=>
  have e:=h.det (Run.look (Run.ret _ _));cases e;exact .inr ⟨rfl,rfl⟩
 |cons x l=>
  have G:Run (takeG s) (x::l) (match s.lookup x.text with|some p=>.ok (some p,l)|none=>.ok (none,x::l)):=by
   refine Run.look ?_;show Run (match s.lookup x.text with|some p=>.next (.ret (some p))|none=>.ret none) _ _;cases s.lookup x.text with
   |none=>exact Run.ret _ _
   |some p=>exact Run.next (Run.ret _ _)
  have e:=h.det G;cases hl:s.lookup x.text with
  |none=>rw[hl]at e;cases e;exact .inr ⟨rfl,rfl⟩
  |some p=>rw[hl]at e;cases e;exact .inl ⟨p,rfl,rfl⟩
theorem unary_ok(E:Env)(N:Nat)(hP:C7 E N 327 (body .primary))(hU:∀M,M<N->C7 E M 292 (body .unary)):C7 E N 292 (body .unary):=by
 intro w ts h hN;have b8:=h.st.slt;unfold PDo;refine Az Tryz.func292 rfl Tryz.ntmps292 nlr EO (go ?_);refine AY (fun w1 n1=>?_);have b1:Blk w1 w.heap.size 37 zero5:=n1.D;have z1:=n1.size;have Z:=h.ext n1.E;have k1:Keep [E.s] w w1:=n1.E.any;obtain⟨ta,tc,hb1,_⟩:=Z.st.D;have b5:=Z.st.lt;refine go ?_;refine AF (pstake_ok E w1 ts E.mp prefixT Z.st Z.st.pre U) rfl ?_;rintro v w2⟨V,o,t2,rfl,F,q2⟩;have h2:=Z.next V q2
 have b2:=b1.E V ES;have b0:=k1.trans V O;have z2:=V.size;refine go ?_;refine A2 (cs:=takeV o) rfl rfl EQ (oneC_opr _) (fun w3 r=>?_);have h3:=h2.ext r.E;have b3:=b2.E r.E O;have z3:=r.size;have e3:=r.D;have a2:=b0.ext r.E;refine go ?_;rcases take_inv F with⟨q,rfl,b4⟩|⟨rfl,rfl⟩
 ·replace e3:Blk w3 w2.heap.size 199 [iV q.op,iV q.indexed,iV q.val]:=e3;refine go ?_;refine A2 (cs:=[iV q.op,AL [],iV q.val,iV 0,.slice none 0 0]) rfl rfl EQ (oneC_fml _ _ _ _ _ _ _ rfl rfl rfl rfl) (fun w4 y=>?_);have h4:=h3.ext y.E;have t:=b3.E y.E O;have e4:=e3.E y.E O;have z4:=y.size;have g4:=y.D;have a6:=a2.ext y.E;refine go ?_;refine Ag (index_ok E w4 t2 q h4.st) rfl ?_ ?_;rotate_left
  ·rintro ch wq⟨u,x,W,rfl⟩;refine go ?_;exact Ab ⟨a6.trans u O,x,F.bind (Run.bindE W),rfl⟩
  rintro v T⟨A,n,G,P,q5,rfl,hn0,hn1⟩;have h5:=h4.next A q5
  have j:=t.E A ES;have e5:=e4.E A ES;have g5:=g4.E A ES;have a3:=a6.trans A O;have z5:=A.size;have l5:G.length<=t2.length:=(show G<:+t2 from P.suffix).length_le;refine go ?_;cases n with
  |none=>
   refine go ?_;refine Ag (hU G.length U T G h5 (Nat.le_refl _)) rfl ?_ ?_;rotate_left
   ·rintro ch wq⟨u,x,W,rfl⟩;refine go ?_;exact Ab ⟨a3.trans u O,x,F.bind (P.bind (Run.callE W)),rfl⟩
   rintro v w7⟨k,a,t7,r7,D,H⟩;have h7:=(h5).next k D
   have b7:=(j).E k ES;have g7:=(g5).E k ES;have a4:=(a3).trans k O;have z7:=k.size;obtain⟨p,rfl,C,a9⟩:=H.cells
   obtain⟨c,B,Q,d,g,rfl⟩:∃c B Q d g,p=[c,B,Q,d,g]:=by
    match p,C with
    | [c,B,Q,d,g],_=>exact⟨_,_,_,_,_,rfl⟩
   refine AP (out:=[c,B,Q,d,g]) rfl U EZ (fun w8 X=>?_);have z8:=X.size;have m:=b7.E X.E O;have g8:=g7.E X.E O;obtain⟨S8,R⟩:=FsAt.fresh (ok:=fun b=>T.heap.size<=b) (L:=[[c,B,Q,d,g]]) X (FsAt.one (H.mono fun b S=>by simp only[fresh]at S⊢;omega) rfl) U O;refine go ?_;refine AU rfl rfl rfl g8 O (fun w9 i=>?_);have b9:=m.E i.E ES;have g9:=i.D;have z9:=i.size;have z:=(FAt.node (q.op) [] q.val (0) S8 R).E i.E Ej;refine go ?_;refine BE rfl rfl z b9 rfl (fun w10 a8 e a1 l z10 a0=>go ?_);refine AW rfl rfl a1 a0.cells ⟨((a4.ext X.E).trans i.E ES).trans l ES,_,t7,F.bind (P.bind (Run.call r7 (Run.ret _ _))),((D.ext X.E).E i.E ES).E l ES,?_⟩;rw[<-e];show FAt _ _ _ (⟨q.op,[],q.val,0,[a]⟩:Fml);exact Fx
  |some n=>
   refine go ?_;refine AU rfl rfl rfl g5 O (fun w6 I=>go ?_);refine AU rfl rfl rfl I.D O (fun a5 K=>?_);have g6:Blk a5 w3.heap.size 37 [iV q.indexed,AL [],iV q.val,iV n,.slice none 0 0]:=K.D;have h6:=(h5.E I.E ES).E K.E ES;have b6:=(j.E I.E ES).E K.E ES;have a7:=(a3.trans I.E ES).trans K.E ES;have z6:a5.heap.size=T.heap.size:=by rw[K.size,I.size]
   refine go ?_;refine Ag (hU G.length U a5 G h6 (Nat.le_refl _)) rfl ?_ ?_;rotate_left
   ·rintro ch wq⟨u,x,W,rfl⟩;refine go ?_;exact Ab ⟨a7.trans u O,x,F.bind (P.bind (Run.callE W)),rfl⟩
   rintro v w7⟨k,a,t7,r7,D,H⟩;have h7:=(h6).next k D
   have b7:=(b6).E k ES;have g7:=(g6).E k ES;have a4:=(a7).trans k O;have z7:=k.size;obtain⟨p,rfl,C,a9⟩:=H.cells
   obtain⟨c,B,Q,d,g,rfl⟩:∃c B Q d g,p=[c,B,Q,d,g]:=by
    match p,C with
    | [c,B,Q,d,g],_=>exact⟨_,_,_,_,_,rfl⟩
   refine AP (out:=[c,B,Q,d,g]) rfl U EZ (fun w8 X=>?_);have z8:=X.size;have m:=b7.E X.E O;have g8:=g7.E X.E O;obtain⟨S8,R⟩:=FsAt.fresh (ok:=fun b=>T.heap.size<=b) (L:=[[c,B,Q,d,g]]) X (FsAt.one (H.mono fun b S=>by simp only[fresh]at S⊢;omega) rfl) U O;refine go ?_;refine AU rfl rfl rfl g8 O (fun w9 i=>?_);have b9:=m.E i.E ES;have g9:=i.D;have z9:=i.size;have z:=(FAt.node (q.indexed) [] q.val (n) S8 R).E i.E Ej;refine go ?_;refine BE rfl rfl z b9 rfl (fun w10 a8 e a1 l z10 a0=>go ?_);refine AW rfl rfl a1 a0.cells ⟨((a4.ext X.E).trans i.E ES).trans l ES,_,t7,F.bind (P.bind (Run.call r7 (Run.ret _ _))),((D.ext X.E).E i.E ES).E l ES,?_⟩;rw[<-e];show FAt _ _ _ (⟨q.indexed,[],q.val,n,[a]⟩:Fml);exact Fx
 ·refine go ?_;refine Ag (hP w3 _ h3 hN) rfl ?_ ?_;rotate_left
  ·rintro ch wq⟨u,x,W,rfl⟩;refine go ?_;exact Ab ⟨a2.trans u O,x,F.bind (Run.callE W),rfl⟩
  rintro v w4⟨k4,f,t4,r4,q4,f4⟩;have t:=b3.E k4 ES;have z4:=k4.size;refine BE rfl rfl f4 t rfl (fun T p e C A z5 j=>go ?_);refine AW rfl rfl C j.cells ⟨(a2.trans k4 O).trans A ES,f,t4,F.bind (Run.call r4 (Run.ret _ _)),q4.E A ES,?_⟩;rw[<-e];exact(f4.E A Ec).mono (fun b S=>by simp only[fresh]at S⊢;omega)
theorem psuntil_ok(E:Env)(N:Nat)(hP:C7 E N 292 (body .unary))(hU:∀M,M<N->C7 E M 213 (body .untilN)):C7 E N 213 (body .untilN):=by
 intro w ts h hN;have c5:=h.st.slt;unfold PDo;refine Az Tryz.func213 rfl Tryz.ntmps213 nlr EO (go ?_);refine AY (fun w1 n1=>?_);have b1:Blk w1 w.heap.size 37 zero5:=n1.D;have z1:=n1.size;have h1:=h.ext n1.E;have k1:Keep [E.s] w w1:=n1.E.any;refine go ?_;refine Ag (hP w1 ts h1 hN) rfl ?_ ?_;rotate_left
 ·rintro ch wq⟨H,I,K,rfl⟩;refine go ?_;exact Ab ⟨k1.trans H O,I,Run.callE K,rfl⟩
 rintro v w2⟨k2,a1,t2,F,q2,f2⟩;have h2:=h1.next k2 q2
 have b2:=b1.E k2 ES;have k12:=k1.trans k2 O;have z2:=k2.size;have l2:t2.length<=ts.length:=(show t2<:+ts from F.suffix).length_le;replace f2:=f2.lt;obtain⟨cs,rfl,a4,hone⟩:=f2.cells;obtain⟨p,B,Q,x,A,rfl⟩:=Ak a4;refine A2 (cs:=[p,B,Q,x,A]) rfl rfl EQ hone (fun w3 r=>?_);have h3:=h2.ext r.E;have b3:=b2.E r.E O;have z3:=r.size;have e3:=r.D;have f3:=f2.new r;have k13:=k12.ext r.E;obtain⟨ta,tc,c0,_⟩:=h3.st.D;have c2:=h3.st.lt;refine go ?_;refine AF (pstake_ok E w3 t2 E.mi infixT h3.st h3.st.inf U) rfl ?_;rintro v w4⟨c,o,t4,rfl,u,q4⟩;have h4:=h3.next c q4
 have b4:=b3.E c ES;have e4:=e3.E c ES;have f4:=f3.E c Ec;have k14:=k13.trans c O;have z4:=c.size;refine go ?_;refine A2 (cs:=takeV o) rfl rfl EQ (oneC_opr _) (fun f G=>?_);have h5:=h4.ext G.E;have b5:=b4.E G.E O;have e5:=e4.E G.E O;have f5:=f4.new G;have z5:=G.size;have g5:=G.D;have a9:=k14.ext G.E;refine go ?_;rcases take_inv u with⟨q,rfl,c1⟩|⟨rfl,rfl⟩
 ·replace g5:Blk f w4.heap.size 199 [iV q.op,iV q.indexed,iV q.val]:=g5;refine go ?_;refine A2 (cs:=[iV q.op,AL [],iV q.val,iV 0,.slice none 0 0]) rfl rfl EQ (oneC_fml _ _ _ _ _ _ _ rfl rfl rfl rfl) (fun w6 m=>?_);have h6:=h5.ext m.E;have b6:=b5.E m.E O;have e6:=e5.E m.E O;have f6:=f5.new m;have g6:=g5.E m.E O;have z6:=m.size;have u6:=m.D;have b0:=a9.ext m.E;refine go ?_;refine Ag (index_ok E w6 t4 q h6.st) rfl ?_ ?_;rotate_left
  ·rintro ch wq⟨H,I,K,rfl⟩;refine go ?_;exact Ab ⟨b0.trans H O,I,Run.call F (u.bind (Run.bindE K)),rfl⟩
  rintro v wi⟨t,n,T,P,qi,rfl,c3,c4⟩;have hi:=h6.next t qi
  have bi:=b6.E t ES;have ei:=e6.E t ES;have fi:=f6.E t Ec;have ui:=u6.E t ES;have a8:=b0.trans t O;have zi:=t.size;have l5:T.length<=t4.length:=(show T<:+t4 from P.suffix).length_le;refine go ?_;cases n with
  |none=>
   refine go ?_;refine CQ (.read 0 (.read 1 (.alt 2 (.alt 3 (.read 4 (.alt 5 .done .stop)) .stop) .stop))) Ap EO (by repeat (first|exact Be|refine BI ?_)) (fun k j ed=>⟨fun W=>Keep [E.s,f.heap.size] k W,?_,?_⟩)
   ·exact Ff
   have C:=(hi).ext j;have bd:=(bi).E j O;have gd:=(ui).E j O;have ed3:=(ei).E j O;have a3:=(fi).ext j;have zd:k.heap.size=(wi).heap.size:=by rw[ed]
   have fc:∀W,Keep [E.s,f.heap.size] k W->Cells W w2.heap.size 0 [p,B,Q,x,A]:=fun W a=>(ed3.E a ES).cells;((apply D_R rfl rfl;(intro W a;refine AQ rfl EQ (fc W a) ?_;exact AA ⟨rfl,rfl,rfl⟩))<;>(refine D_R rfl rfl (fun W a=>AX rfl dz) ?_))
   refine D_E rfl ?_;refine Ag (hU T.length U k T C (Nat.le_refl _)) rfl ?_ ?_;rotate_left
   ·rintro ch wq⟨H,I,K,rfl⟩;refine go ?_;exact Ab ⟨((a8).ext j).trans H O,I,Run.call F (u.bind (P.bind (Run.callE K))),rfl⟩
   rintro v w7⟨d,a2,t7,r7,D,f7⟩;have h7:=C.next d D
   have b7:=bd.E d ES;have g7:=gd.E d ES;have f37:=a3.E d Ec;have a7:=((a8).ext j).trans d O;have z7:=d.size;obtain⟨ds,rfl,a6,hone2⟩:=f7.cells;obtain⟨V,y,Z,d3,R,rfl⟩:=Ak a6;refine AA ⟨fun W=>Keep [E.s,f.heap.size] w7 W,fun W a=>(d.mono O).trans a O,Keep.refl _ _,?_⟩;refine D_E rfl ?_;refine AP (out:=[p,B,Q,x,A,V,y,Z,d3,R]) rfl U Ei (fun w8 X=>?_);have z8:=X.size;have b8:=b7.E X.E O;have g8:=g7.E X.E O;obtain⟨S8,F8⟩:=FsAt.fresh (ok:=fun b=>w.heap.size<b/\b≠f.heap.size) (L:=[[p,B,Q,x,A],[V,y,Z,d3,R]]) X (FsAt.two (f37.mono fun b S=>by simp only[fresh]at S⊢;omega) rfl (f7.mono fun b S=>by simp only[fresh]at S⊢;omega) rfl) U O;refine AA ⟨fun W=>Keep [E.s,f.heap.size] w8 W,fun W a=>X.E.any.trans a O,Keep.refl _ _,?_⟩;refine go ?_;refine D_E rfl ?_;refine AU rfl rfl rfl g8 O (fun w9 i=>?_);have b9:=b8.E i.E ES;have g9:=i.D;have z9:=i.size;have z:=(FAt.node q.op [] (q.val) 0 S8 F8).E i.E Ej;refine AA ⟨fun W=>W=w9,fun W a=>a▸i.E.mono O,rfl,?_⟩;refine go ?_;refine BE rfl rfl z b9 rfl (fun w10 cs' e a5 l z10 a0=>go ?_);refine AW rfl rfl a5 a0.cells ⟨((a7.ext X.E).trans i.E ES).trans l ES,⟨q.op,[],q.val,0,[a1,a2]⟩,t7,Run.call F (u.bind (P.bind (Run.call r7 (Run.ret _ _)))),((D.ext X.E).E i.E ES).E l ES,?_⟩;rw[<-e];exact Fx
  |some n=>
   refine go ?_;refine AU rfl rfl rfl ui O (fun wj g=>?_);have uj:Blk wj f.heap.size 37 [iV q.op,AL [],iV n,iV 0,.slice none 0 0]:=g.D;have hj:=hi.E g.E ES;have bj:=bi.E g.E ES;have ej:=ei.E g.E ES;have fj:=fi.E g.E Ec;have kwj:=a8.trans g.E ES;have zj:=g.size;refine go ?_;refine CQ (.read 0 (.read 1 (.alt 2 (.alt 3 (.read 4 (.alt 5 .done .stop)) .stop) .stop))) Ap EO (by repeat (first|exact Be|refine BI ?_)) (fun k j ed=>⟨fun W=>Keep [E.s,f.heap.size] k W,?_,?_⟩)
   ·exact Ff
   have C:=(hj).ext j;have bd:=(bj).E j O;have gd:=(uj).E j O;have ed3:=(ej).E j O;have a3:=(fj).ext j;have zd:k.heap.size=(wj).heap.size:=by rw[ed]
   have fc:∀W,Keep [E.s,f.heap.size] k W->Cells W w2.heap.size 0 [p,B,Q,x,A]:=fun W a=>(ed3.E a ES).cells;((apply D_R rfl rfl;(intro W a;refine AQ rfl EQ (fc W a) ?_;exact AA ⟨rfl,rfl,rfl⟩))<;>(refine D_R rfl rfl (fun W a=>AX rfl dz) ?_))
   refine D_E rfl ?_;refine Ag (hU T.length U k T C (Nat.le_refl _)) rfl ?_ ?_;rotate_left
   ·rintro ch wq⟨H,I,K,rfl⟩;refine go ?_;exact Ab ⟨((kwj).ext j).trans H O,I,Run.call F (u.bind (P.bind (Run.callE K))),rfl⟩
   rintro v w7⟨d,a2,t7,r7,D,f7⟩;have h7:=C.next d D
   have b7:=bd.E d ES;have g7:=gd.E d ES;have f37:=a3.E d Ec;have a7:=((kwj).ext j).trans d O;have z7:=d.size;obtain⟨ds,rfl,a6,hone2⟩:=f7.cells;obtain⟨V,y,Z,d3,R,rfl⟩:=Ak a6;refine AA ⟨fun W=>Keep [E.s,f.heap.size] w7 W,fun W a=>(d.mono O).trans a O,Keep.refl _ _,?_⟩;refine D_E rfl ?_;refine AP (out:=[p,B,Q,x,A,V,y,Z,d3,R]) rfl U Ei (fun w8 X=>?_);have z8:=X.size;have b8:=b7.E X.E O;have g8:=g7.E X.E O;obtain⟨S8,F8⟩:=FsAt.fresh (ok:=fun b=>w.heap.size<b/\b≠f.heap.size) (L:=[[p,B,Q,x,A],[V,y,Z,d3,R]]) X (FsAt.two (f37.mono fun b S=>by simp only[fresh]at S⊢;omega) rfl (f7.mono fun b S=>by simp only[fresh]at S⊢;omega) rfl) U O;refine AA ⟨fun W=>Keep [E.s,f.heap.size] w8 W,fun W a=>X.E.any.trans a O,Keep.refl _ _,?_⟩;refine go ?_;refine D_E rfl ?_;refine AU rfl rfl rfl g8 O (fun w9 i=>?_);have b9:=b8.E i.E ES;have g9:=i.D;have z9:=i.size;have z:=(FAt.node q.op [] (n) 0 S8 F8).E i.E Ej;refine AA ⟨fun W=>W=w9,fun W a=>a▸i.E.mono O,rfl,?_⟩;refine go ?_;refine BE rfl rfl z b9 rfl (fun w10 cs' e a5 l z10 a0=>go ?_);refine AW rfl rfl a5 a0.cells ⟨((a7.ext X.E).trans i.E ES).trans l ES,⟨q.op,[],n,0,[a1,a2]⟩,t7,Run.call F (u.bind (P.bind (Run.call r7 (Run.ret _ _)))),((D.ext X.E).E i.E ES).E l ES,?_⟩;rw[<-e];exact Fx
 ·refine go ?_;refine BE rfl rfl f5 b5 rfl (fun w6 cs e a4 k6 z6 b6=>go ?_);refine AW rfl rfl a4 b6.cells ⟨a9.trans k6 ES,a1,_,Run.call F (u.bind (Run.ret _ _)),h5.st.E k6 ES,?_⟩;rw[<-e];exact(f5.E k6 Ec).mono (fun b S=>by simp only[fresh]at S⊢;omega)
theorem chainP_and:ChainP [38] (body .untilN) (body .andL) where
 done h:=by
  rcases accepts_inv h with⟨e,_⟩|⟨_,_,_⟩
  ·cases e
  ·exact h.bind (Run.ret _ _)
 more h h1 h2:=h.bind (Run.call h1 (Run.call h2 (Run.ret _ _)))
 err1 h h1:=h.bind (Run.callE h1)
 err2 h h1 h2:=h.bind (Run.call h1 (Run.callE h2))
theorem chainP_or:ChainP [124] (body .andN) (body .orL) where
 done h:=by
  rcases accepts_inv h with⟨e,_⟩|⟨_,_,_⟩
  ·cases e
  ·exact h.bind (Run.ret _ _)
 more h h1 h2:=h.bind (Run.call h1 (Run.call h2 (Run.ret _ _)))
 err1 h h1:=h.bind (Run.callE h1)
 err2 h h1 h2:=h.bind (Run.call h1 (Run.callE h2))
theorem and_ok(E:Env)(N:Nat)(G:C7 E N 213 (body .untilN)):C7 E N 169 (body .andN):=by
 intro w u h D;have a0:=h.st.slt;unfold PDo;refine Az Tryz.func169 rfl Tryz.ntmps169 nlr EO (go ?_);refine AY (fun o k=>?_);have n:Blk o w.heap.size 37 zero5:=k.D;have z1:=k.size;have Z:=h.ext k.E;have x:Keep [E.s] w o:=k.E.any;refine go ?_;refine Ag (chain_ok E N 213 [38] (body .untilN) (body .andL) chainP_and G o u Z D) rfl ?_ ?_;rotate_left
 ·rintro V wq⟨I,X,W,rfl⟩;refine go ?_;refine Ab ⟨x.trans I O,X,?_,rfl⟩;rcases W.bind_inv with⟨a,r,Q,d⟩|⟨e,Q,d⟩
  ·rcases d.bind_inv with⟨l,K,A,g⟩|⟨e,A,g⟩
   ·cases g.det (Run.ret _ _)
   ·cases g;exact Run.call Q (Run.callE A)
  ·cases d;exact Run.callE Q
 rintro v T⟨f,l,R,F,y,M,P,L,rfl,H,m,B⟩;have h2:=Z.next f y
 have j:=n.E f ES;have p:=x.trans f O;have z2:=f.size;refine AF (psnode_ok T 5 (fresh o) M P L l m B H) rfl ?_;rintro v w3⟨i,q⟩;have z:=j.E i O;refine BE rfl rfl q z rfl (fun w4 cs e C c z4 t=>go ?_);refine AW rfl rfl C t.cells ⟨(p.ext i).trans c ES,nodeF 5 l,R,?_,(y.ext i).E c ES,?_⟩
 ·rcases F.bind_inv with⟨a,r,Q,d⟩|⟨e,Q,d⟩
  ·rcases d.bind_inv with⟨l,K,A,g⟩|⟨e,A,g⟩
   ·cases g.det (Run.ret _ _);exact Run.call Q (Run.call A (Run.ret _ _))
   ·cases g
  ·cases d
 ·rw[<-e];exact(q.E c Ec).mono (fun b S=>by simp only[fresh]at S⊢;omega)
theorem or_ok(E:Env)(N:Nat)(G:C7 E N 169 (body .andN)):C7 E N 109 (body .orN):=by
 intro w u h D;have a0:=h.st.slt;unfold PDo;refine Az Tryz.func109 rfl Tryz.ntmps109 nlr EO (go ?_);refine AY (fun o k=>?_);have n:Blk o w.heap.size 37 zero5:=k.D;have z1:=k.size;have Z:=h.ext k.E;have x:Keep [E.s] w o:=k.E.any;refine go ?_;refine Ag (chain_ok E N 169 [124] (body .andN) (body .orL) chainP_or G o u Z D) rfl ?_ ?_;rotate_left
 ·rintro V wq⟨I,X,W,rfl⟩;refine go ?_;refine Ab ⟨x.trans I O,X,?_,rfl⟩;rcases W.bind_inv with⟨a,r,Q,d⟩|⟨e,Q,d⟩
  ·rcases d.bind_inv with⟨l,K,A,g⟩|⟨e,A,g⟩
   ·cases g.det (Run.ret _ _)
   ·cases g;exact Run.call Q (Run.callE A)
  ·cases d;exact Run.callE Q
 rintro v T⟨f,l,R,F,y,M,P,L,rfl,H,m,B⟩;have h2:=Z.next f y
 have j:=n.E f ES;have p:=x.trans f O;have z2:=f.size;refine AF (psnode_ok T 6 (fresh o) M P L l m B H) rfl ?_;rintro v w3⟨i,q⟩;have z:=j.E i O;refine BE rfl rfl q z rfl (fun w4 cs e C c z4 t=>go ?_);refine AW rfl rfl C t.cells ⟨(p.ext i).trans c ES,nodeF 6 l,R,?_,(y.ext i).E c ES,?_⟩
 ·rcases F.bind_inv with⟨a,r,Q,d⟩|⟨e,Q,d⟩
  ·rcases d.bind_inv with⟨l,K,A,g⟩|⟨e,A,g⟩
   ·cases g.det (Run.ret _ _);exact Run.call Q (Run.call A (Run.ret _ _))
   ·cases g
  ·cases d
 ·rw[<-e];exact(q.E c Ec).mono (fun b S=>by simp only[fresh]at S⊢;omega)
theorem formula_ok(E:Env)(N:Nat)(hP:C7 E N 109 (body .orN))(hU:∀M,M<N->C7 E M 46 (body .formula)):C7 E N 46 (body .formula):=by
 intro w I h hN;have b4:=h.st.slt;unfold PDo;refine Az Tryz.func46 rfl Tryz.ntmps46 nlr EO (go ?_);refine AY (fun K A=>?_);have b1:Blk K w.heap.size 37 zero5:=A.D;have z1:=A.size;have h1:=h.ext A.E;have k1:Keep [E.s] w K:=A.E.any;refine go ?_;refine Ag (hP K I h1 hN) rfl ?_ ?_;rotate_left
 ·rintro ch wq⟨z,D,G,rfl⟩;refine go ?_;exact Ab ⟨k1.trans z O,D,Run.callE G,rfl⟩
 rintro v w2⟨k,P,H,F,q2,j⟩;have h2:=h1.next k q2
 have b2:=b1.E k ES;have a7:=k1.trans k O;have z2:=k.size;have l2:H.length<=I.length:=(show H<:+I from F.suffix).length_le;replace j:=j.lt;obtain⟨q,rfl,C,a6⟩:=j.cells;obtain⟨n,B,Q,g,i,rfl⟩:=Ak C;refine A2 (cs:=[n,B,Q,g,i]) rfl rfl EQ a6 (fun w3 r=>?_);have h3:=h2.ext r.E;have b3:=b2.E r.E O;have z3:=r.size;have e3:=r.D;have f3:=j.new r;have a8:=a7.ext r.E;refine go ?_;refine AF (CY E w3 H [45,62] h3.st) rfl ?_;rintro _ w4⟨c,b,t4,rfl,u,q4⟩;have h4:=h3.next c q4
 have t:=b3.E c ES;have e4:=e3.E c ES;have a:=f3.E c Ec;have p:=a8.trans c O;have z4:=c.size;refine go ?_;rcases accepts_inv u with⟨rfl,hl4,_,_⟩|⟨rfl,rfl,_⟩
 ·refine go ?_;refine CQ (.read 0 (.read 1 (.alt 2 (.alt 3 (.read 4 (.alt 5 .done .stop)) .stop) .stop))) Ap EO (by repeat (first|exact Be|refine BI ?_)) (fun m d ed=>⟨fun W=>Keep [E.s,w.heap.size] m W,?_,?_⟩)
  ·exact Ff
  have hd:=h4.ext d;have bd:=t.E d O;have a1:=e4.E d O;have a3:=a.ext d;have zd:m.heap.size=w4.heap.size:=by rw[ed]
  have fc:∀W,Keep [E.s,w.heap.size] m W->Cells W w2.heap.size 0 [n,B,Q,g,i]:=fun W o=>(a1.E o ES).cells;((apply D_R rfl rfl;(intro W o;refine AQ rfl EQ (fc W o) ?_;exact AA ⟨rfl,rfl,rfl⟩))<;>(refine D_R rfl rfl (fun W o=>AX rfl dz) ?_))
  refine D_E rfl ?_;refine Ag (hU t4.length U m t4 hd (Nat.le_refl _)) rfl ?_ ?_;rotate_left
  ·rintro ch wq⟨z,D,G,rfl⟩;refine go ?_;exact Ab ⟨(p.ext d).trans z O,D,Run.call F (u.bind (Run.callE G)),rfl⟩
  rintro v w7⟨f,a2,t7,r7,q7,f7⟩;have b7:=bd.E f ES;have f37:=a3.E f Ec;have a9:=(p.ext d).trans f O;have z7:=f.size;obtain⟨ds,rfl,a5,hone2⟩:=f7.cells;obtain⟨T,y,V,Z,R,rfl⟩:=Ak a5;refine AA ⟨fun W=>Keep [E.s,w.heap.size] w7 W,fun W o=>(f.mono O).trans o O,Keep.refl _ _,?_⟩;refine D_E rfl ?_;refine AP (out:=[n,B,Q,g,i,T,y,V,Z,R]) rfl U Ei (fun w8 X=>?_);have z8:=X.size;have b8:=b7.E X.E O;obtain⟨S8,F8⟩:=FsAt.fresh (ok:=fun b=>w.heap.size<b) (L:=[[n,B,Q,g,i],[T,y,V,Z,R]]) X (FsAt.two (f37.mono fun b S=>by simp only[fresh]at S⊢;omega) rfl (f7.mono fun b S=>by simp only[fresh]at S⊢;omega) rfl) U O;refine AA ⟨fun W=>Keep [E.s,w.heap.size] w8 W,fun W o=>X.E.any.trans o O,Keep.refl _ _,?_⟩;have f8:=FAt.node 7 [] 0 0 S8 F8;refine go ?_;refine D_E rfl ?_;refine BE rfl rfl f8 b8 rfl (fun b0 cs' e a4 l b5 a0=>?_);refine AA ⟨fun W=>W=b0,fun W o=>o▸l.mono O,rfl,?_⟩;refine go ?_;refine AW rfl rfl a4 a0.cells ⟨(a9.ext X.E).trans l ES,⟨7,[],0,0,[P,a2]⟩,t7,Run.call F (u.bind (Run.call r7 (Run.ret _ _))),(q7.ext X.E).E l ES,?_⟩;rw[<-e];exact(f8.E l Ej).mono (fun b S=>by simp only[fresh]at S⊢;omega)
 ·refine go ?_;refine BE rfl rfl a t rfl (fun w6 q e C x z6 b6=>go ?_);refine AW rfl rfl C b6.cells ⟨p.trans x ES,P,_,Run.call F (u.bind (Run.ret _ _)),h4.st.E x ES,?_⟩;rw[<-e];exact(a.E x Ec).mono (fun b S=>by simp only[fresh]at S⊢;omega)
theorem formulas_ok(E:Env)(N:Nat):C7 E N 327 (body .primary)/\C7 E N 292 (body .unary)/\C7 E N 213 (body .untilN)/\C7 E N 46 (body .formula):=by
 induction N using Nat.strongRecOn with
 |_ N ih=>
  have Z:=primary_ok E N fun M A=>(ih M A).2.2.2;have W:=unary_ok E N Z fun M A=>(ih M A).2.1;have R:=psuntil_ok E N W fun M A=>(ih M A).2.2.1;exact⟨Z,W,R,formula_ok E N (or_ok E N (and_ok E N R)) fun M A=>(ih M A).2.2.2⟩
def listR{α:Type}(R:Rp α)(z:0<R.size):Rp (List α) where
 fits ok w c l:=∃v,c=[v]/\SlAt R ok w v l
 size:=1
 len h:=by obtain⟨v,rfl,_⟩:=h;rfl
 one h:=by obtain⟨v,rfl,a,c,L,rfl,_⟩:=h;intro u g;simp at g;subst g;rfl
 E h k hX:=by obtain⟨v,e,a,c,L,p,Z,W⟩:=h;exact⟨v,e,a,c,L,p,Z.E k hX,W.E k hX⟩
 lt h:=by obtain⟨v,e,a,c,L,p,Z,W⟩:=h;exact⟨v,e,a,c,L,p,Sl_ltR z Z W,W.lt⟩
 mono h hk:=by obtain⟨v,e,a,c,L,p,Z,W⟩:=h;exact⟨v,e,a,c,L,p,Z.mono hk,W.mono hk⟩
structure WhileP{α:Type}(pm:G Bool)(pi:G α)(pl:G (List α)):Prop where
 done:∀{t},Run pm t (.ok (false,t))->Run pl t (.ok ([],t))
 more:∀{t t2 t3 a l},Run pm t (.ok (true,t))->Run pi t (.ok (a,t2))->Run pl t2 (.ok (l,t3))->Run pl t (.ok (a::l,t3))
 err1:∀{t e},Run pm t (.ok (true,t))->Run pi t (.error e)->Run pl t (.error e)
 err2:∀{t t2 a e},Run pm t (.ok (true,t))->Run pi t (.ok (a,t2))->Run pl t2 (.error e)->Run pl t (.error e)
 less:∀{t t2 a},Run pm t (.ok (true,t))->Run pi t (.ok (a,t2))->t2.length<t.length
def prepL{α:Type}(l:List α):Ans (List α)->Ans (List α)
 | .ok y=>.ok (l++y.1,y.2)
 | .error e=>.error e
theorem WhileP.step{α:Type}{pm:G Bool}{d:G α}{l:G (List α)}(h:WhileP pm d l){t b:List Tok}{a:α}(Z:Run pm t (.ok (true,t)))(W:Run d t (.ok (a,b))){r:Ans (List α)}(c:Run l b r):Run l t (prepL [a] r):=by
 cases r with
 |ok y=>exact h.more Z W c
 |error e=>exact h.err2 Z W c
theorem prepL_app{α:Type}(l m:List α)(r:Ans (List α)):prepL l (prepL m r)=prepL (l++m) r:=by
 cases r<;>simp[prepL]
theorem prepL_nil{α:Type}(r:Ans (List α)):prepL [] r=r:=by cases r<;>simp[prepL]
def ItemR{α:Type}(R:Rp α)(b:LV->Value)(E:Env)(N:Nat)(g:FuncId)(y:G α):Prop:=∀(w:World)(u:List Tok),PW w E u->u.length<=N->PDo E g [pt E.s] w y u (fun X v a=>∃c,v=b c/\R.fits (fresh w) X c a)
def aggV(c:LV):Value:=.agg c.toArray
def oneV(c:LV):Value:=c.headD undef
def MoreOk(E:Env)(y:World)(g:FuncId)(v1 v2:LV)(pm:G Bool):Prop:=∀(w:World)(u:List Tok),Keep [E.s] y w->PW w E u->Fn Zp g (v1++[]++v2) w (fun v X=>∃b,v=.bool b/\Run pm u (.ok (b,u))/\X=w)
theorem madeSgn:(madeCells (Value.agg #[AL [],.bool false,iV 0]).cells (1*3)).toList=[AL [],.bool false,iV 0]:=by kernel_rfl
theorem madeReq:(madeCells (Value.agg #[AL [],AL [],iV 0,iV 0,AL [],iV 0,iV 0,.slice none 0 0]).cells (1*8)).toList=[AL [],AL [],iV 0,iV 0,AL [],iV 0,iV 0,.slice none 0 0]:=by kernel_rfl
theorem madeSl:(madeCells (Value.slice none 0 0).cells (1*1)).toList=[.slice none 0 0]:=by kernel_rfl
theorem cells3{cs:LV}(h:cs.length=3):∃n B Q,cs=[n,B,Q]:=by
 match cs,h with
 | [n,B,Q],_=>exact⟨_,_,_,rfl⟩
theorem cells8'{cs:LV}(h:cs.length=8):∃n B Q S a F b k,cs=[n,B,Q,S,a,F,b,k]:=by
 match cs,h with
 | [n,B,Q,S,a,F,b,k],_=>exact⟨_,_,_,_,_,_,_,_,rfl⟩
theorem whileSgn_ok(E:Env)(N:Nat)(P g:FuncId)[AM Zp P][AM Zp g](v1 v2:LV)(pm:G Bool)(y:G Sgn)(z:G (List Sgn))(q:WhileP pm y z)(w:World)(ts:List Tok)(hM:MoreOk E w P v1 v2 pm)
  (hI:ItemR sgnR aggV E N g y)(h:PW w E ts)(hN:ts.length<=N):
  PDo E 79 [.func (.func P) v1.toArray v2.toArray,.func (.func g) #[pt E.s] #[]] w z ts (fun w' v l=>∃L,w'.ownsRow w.heap.size 129 3 v l.length L.flatten/\RsAt sgnR (fun b=>fresh w b/\v.ownBlock≠some b) w' L l):=by
 have a6:=h.st.slt;unfold PDo;refine Az Tryz.func79 rfl Tryz.ntmps79 nlr EO (go ?_)
 refine Ar (α:=Value×List (LV)×List _×List Tok) (fun x=>[(0,.func (.func P) v1.toArray v2.toArray),(1,.func (.func g) #[pt E.s] #[]),(5,x.1)])
  (fun x W=>Keep [E.s] w W/\PW W E x.2.2.2/\x.2.2.1.length+x.2.2.2.length<=ts.length/\x.2.2.2.length<=ts.length/\W.ownsRow w.heap.size 129 3 x.1 x.2.2.1.length x.2.1.flatten/\RsAt (sgnR) (fun b=>fresh w b/\x.1.ownBlock≠some b) W x.2.1 x.2.2.1/\
   ∀r,Run z x.2.2.2 r->Run z ts (prepL x.2.2.1 r))
  (fun x=>x.2.2.2.length) (.slice none 0 0,[],[],ts) ⟨rfl,rfl,rfl,trivial⟩ ⟨Keep.refl _ _,h,by simp,Nat.le_refl _,⟨by simp,.inl ⟨rfl,rfl⟩⟩,RsAt.nil,fun r M=>by rw[prepL_nil];exact M⟩ ?_
 rintro⟨v,L,l,F⟩w3 f3⟨k,R,T,a2,I,p,t⟩;simp only at k R a2 T I p t⊢;refine go ?_;refine A9 (v1:=v1) (v2:=v2) (vs:=[]) rfl (hM w3 F k R) rfl ?_;rintro _ Z⟨b,rfl,B,rfl⟩;have j:∀g,v.ownBlock=some g->w.heap.size<=g/\g<Z.heap.size:=fun g m=>An I m;have z3:=k.size;refine go ?_;cases b with
 |true=>
  refine go ?_;refine Cs (v1:=[pt E.s]) (v2:=[]) (vs:=[]) rfl (hI Z F R U) rfl ?_ ?_;rotate_left
  ·exact GD
  rintro u f⟨A,a,c2,C,q5,c,rfl,o⟩;have h5:=R.next A q5
  have a5:=q.less B C;have o5:=Ai I A (fun g m=>by have:=j g m;simp;omega);have F5:=p.E A (fun b S=>by have:=S.1;simp[fresh]at this⊢;omega);have a4:=k.trans A O;have a0:=(sgnR).lt o;have z5:=A.size;have H:=(sgnR).len o;have a1:=(sgnR).one o;obtain⟨u0,u1,u2,a3⟩:=cells3 H;refine AP (out:=c) rfl U (by rw[madeSgn,a3];rfl) (fun w6 d=>?_);have z6:=d.size;have o6:=d.own (n:=1) (size:=3) H EW (Nat.le_refl _);have a7:=h.st.cnt;refine Ax (ok:=Af) (v:=v) (sv:=.slice (sm f.heap.size) 1 1) rfl rfl (As o5 d.E) (Aa o6 fun _ _=>trivial) U rfl H a1 U U U (fun D w7 i=>go ?_);have o7:=i.own;have h7:=(h5.ext d.E).E i.E (fun x V=>by have:=j x (Option.mem_toList.1 V);omega)
  have X:∀b,D.ownBlock=some b->v.ownBlock=some b\/b=w6.heap.size:=fun b S=>by
   rcases i.D with e|e
   ·exact .inl Et
   ·rw[e]at S;exact .inr (Option.some.inj S).symm
  have F7:RsAt (sgnR) (fun b=>fresh w b/\D.ownBlock≠some b) w7 L l:=by
   refine((F5.lt.ext d.E).E i.E ?_).mono ?_
   ·rintro b⟨⟨_,S⟩,_⟩V;exact S (Option.mem_toList.1 V)
   ·rintro b⟨⟨h1,S⟩,K⟩;refine⟨h1,fun e=>?_⟩;rcases X b e with e|e
    ·exact S e
    ·omega
  have f7:(sgnR).fits (fun b=>fresh w b/\D.ownBlock≠some b) w7 c a:=by
   refine(sgnR).mono ((sgnR).E ((sgnR).ext a0 d.E) i.E ?_) ?_
   ·rintro b⟨S,K⟩V;have:=j b (Option.mem_toList.1 V);simp[fresh]at S;omega
   ·rintro b⟨S,K⟩;simp only[fresh]at S⊢;refine⟨by omega,fun e=>?_⟩;rcases X b e with e|e
    ·have:=j b e;omega
    ·omega
  refine⟨(D,L++[c],l++[a],c2),⟨rfl,⟨rfl,rfl,rfl,trivial⟩,⟨?_,h7,by simp only[List.length_append,List.length_cons,List.length_nil]at T⊢;omega,by simp only;omega,?_,F7.snoc f7,fun r M=>?_⟩⟩,by simp only;omega⟩
  ·exact(a4.ext d.E).trans i.E (fun x V K=>by have:=j x (Option.mem_toList.1 V);omega)
  ·exact F0
  ·rw[<-prepL_app];exact t _ (q.step B C M)
 |false=>
  exact Ft
theorem whileReq_ok(E:Env)(N:Nat)(P g:FuncId)[AM Zp P][AM Zp g](v1 v2:LV)(pm:G Bool)(y:G Rqm)(z:G (List Rqm))(q:WhileP pm y z)(w:World)(ts:List Tok)(hM:MoreOk E w P v1 v2 pm)
  (hI:ItemR reqR aggV E N g y)(h:PW w E ts)(hN:ts.length<=N):
  PDo E 137 [.func (.func P) v1.toArray v2.toArray,.func (.func g) #[pt E.s] #[]] w z ts (fun w' v l=>∃L,w'.ownsRow w.heap.size 57 8 v l.length L.flatten/\RsAt reqR (fun b=>fresh w b/\v.ownBlock≠some b) w' L l):=by
 have a6:=h.st.slt;unfold PDo;refine Az Tryz.func137 rfl Tryz.ntmps137 nlr EO (go ?_)
 refine Ar (α:=Value×List (LV)×List _×List Tok) (fun x=>[(0,.func (.func P) v1.toArray v2.toArray),(1,.func (.func g) #[pt E.s] #[]),(5,x.1)])
  (fun x W=>Keep [E.s] w W/\PW W E x.2.2.2/\x.2.2.1.length+x.2.2.2.length<=ts.length/\x.2.2.2.length<=ts.length/\W.ownsRow w.heap.size 57 8 x.1 x.2.2.1.length x.2.1.flatten/\RsAt (reqR) (fun b=>fresh w b/\x.1.ownBlock≠some b) W x.2.1 x.2.2.1/\
   ∀r,Run z x.2.2.2 r->Run z ts (prepL x.2.2.1 r))
  (fun x=>x.2.2.2.length) (.slice none 0 0,[],[],ts) ⟨rfl,rfl,rfl,trivial⟩ ⟨Keep.refl _ _,h,by simp,Nat.le_refl _,⟨by simp,.inl ⟨rfl,rfl⟩⟩,RsAt.nil,fun r M=>by rw[prepL_nil];exact M⟩ ?_
 rintro⟨v,L,l,F⟩w3 f3⟨k,R,T,a2,I,p,t⟩;simp only at k R a2 T I p t⊢;refine go ?_;refine A9 (v1:=v1) (v2:=v2) (vs:=[]) rfl (hM w3 F k R) rfl ?_;rintro _ Z⟨b,rfl,B,rfl⟩;have j:∀g,v.ownBlock=some g->w.heap.size<=g/\g<Z.heap.size:=fun g m=>An I m;have z3:=k.size;refine go ?_;cases b with
 |true=>
  refine go ?_;refine Cs (v1:=[pt E.s]) (v2:=[]) (vs:=[]) rfl (hI Z F R U) rfl ?_ ?_;rotate_left
  ·exact GD
  rintro u f⟨A,a,c2,C,q5,c,rfl,o⟩;have h5:=R.next A q5
  have a5:=q.less B C;have o5:=Ai I A (fun g m=>by have:=j g m;simp;omega);have F5:=p.E A (fun b S=>by have:=S.1;simp[fresh]at this⊢;omega);have a4:=k.trans A O;have a0:=(reqR).lt o;have z5:=A.size;have H:=(reqR).len o;have a1:=(reqR).one o;obtain⟨u0,u1,u2,u3,u4,u5,u6,u7,a3⟩:=cells8' H;refine AP (out:=c) rfl U (by rw[madeReq,a3];rfl) (fun w6 d=>?_);have z6:=d.size;have o6:=d.own (n:=1) (size:=8) H EW (Nat.le_refl _);have a7:=h.st.cnt;refine Ax (ok:=Af) (v:=v) (sv:=.slice (sm f.heap.size) 1 1) rfl rfl (As o5 d.E) (Aa o6 fun _ _=>trivial) U rfl H a1 U U U (fun D w7 i=>go ?_);have o7:=i.own;have h7:=(h5.ext d.E).E i.E (fun x V=>by have:=j x (Option.mem_toList.1 V);omega)
  have X:∀b,D.ownBlock=some b->v.ownBlock=some b\/b=w6.heap.size:=fun b S=>by
   rcases i.D with e|e
   ·exact .inl Et
   ·rw[e]at S;exact .inr (Option.some.inj S).symm
  have F7:RsAt (reqR) (fun b=>fresh w b/\D.ownBlock≠some b) w7 L l:=by
   refine((F5.lt.ext d.E).E i.E ?_).mono ?_
   ·rintro b⟨⟨_,S⟩,_⟩V;exact S (Option.mem_toList.1 V)
   ·rintro b⟨⟨h1,S⟩,K⟩;refine⟨h1,fun e=>?_⟩;rcases X b e with e|e
    ·exact S e
    ·omega
  have f7:(reqR).fits (fun b=>fresh w b/\D.ownBlock≠some b) w7 c a:=by
   refine(reqR).mono ((reqR).E ((reqR).ext a0 d.E) i.E ?_) ?_
   ·rintro b⟨S,K⟩V;have:=j b (Option.mem_toList.1 V);simp[fresh]at S;omega
   ·rintro b⟨S,K⟩;simp only[fresh]at S⊢;refine⟨by omega,fun e=>?_⟩;rcases X b e with e|e
    ·have:=j b e;omega
    ·omega
  refine⟨(D,L++[c],l++[a],c2),⟨rfl,⟨rfl,rfl,rfl,trivial⟩,⟨?_,h7,by simp only[List.length_append,List.length_cons,List.length_nil]at T⊢;omega,by simp only;omega,?_,F7.snoc f7,fun r M=>?_⟩⟩,by simp only;omega⟩
  ·exact(a4.ext d.E).trans i.E (fun x V K=>by have:=j x (Option.mem_toList.1 V);omega)
  ·exact F0
  ·rw[<-prepL_app];exact t _ (q.step B C M)
 |false=>
  exact Ft
def reqsR:Rp (List Rqm):=listR reqR (by show 0<8;decide)
theorem reqs_form{ok:Nat->Prop}{w:World}{c:LV}{a:List Rqm}(h:reqsR.fits ok w c a):∃X W,c=[.slice X a.length W]:=by
 obtain⟨E,b,j,i,_,r,_⟩:=h;exact⟨j,i,by rw[b,r]⟩
theorem whileReqs_ok(E:Env)(N:Nat)(P g:FuncId)[AM Zp P][AM Zp g](v1 v2:LV)(pm:G Bool)(y:G (List Rqm))(z:G (List (List Rqm)))(q:WhileP pm y z)(w:World)(ts:List Tok)(hM:MoreOk E w P v1 v2 pm)
  (hI:ItemR reqsR oneV E N g y)(h:PW w E ts)(hN:ts.length<=N):
  PDo E 81 [.func (.func P) v1.toArray v2.toArray,.func (.func g) #[pt E.s] #[]] w z ts (fun w' v l=>∃L,w'.ownsRow w.heap.size 23 1 v l.length L.flatten/\RsAt reqsR (fun b=>fresh w b/\v.ownBlock≠some b) w' L l):=by
 have a6:=h.st.slt;unfold PDo;refine Az Tryz.func81 rfl Tryz.ntmps81 nlr EO (go ?_)
 refine Ar (α:=Value×List (LV)×List _×List Tok) (fun x=>[(0,.func (.func P) v1.toArray v2.toArray),(1,.func (.func g) #[pt E.s] #[]),(5,x.1)])
  (fun x W=>Keep [E.s] w W/\PW W E x.2.2.2/\x.2.2.1.length+x.2.2.2.length<=ts.length/\x.2.2.2.length<=ts.length/\W.ownsRow w.heap.size 23 1 x.1 x.2.2.1.length x.2.1.flatten/\RsAt (reqsR) (fun b=>fresh w b/\x.1.ownBlock≠some b) W x.2.1 x.2.2.1/\
   ∀r,Run z x.2.2.2 r->Run z ts (prepL x.2.2.1 r))
  (fun x=>x.2.2.2.length) (.slice none 0 0,[],[],ts) ⟨rfl,rfl,rfl,trivial⟩ ⟨Keep.refl _ _,h,by simp,Nat.le_refl _,⟨by simp,.inl ⟨rfl,rfl⟩⟩,RsAt.nil,fun r K=>by rw[prepL_nil];exact K⟩ ?_
 rintro⟨v,L,l,F⟩w3 f3⟨k,R,T,a2,I,p,t⟩;simp only at k R a2 T I p t⊢;refine go ?_;refine A9 (v1:=v1) (v2:=v2) (vs:=[]) rfl (hM w3 F k R) rfl ?_;rintro _ Z⟨b,rfl,B,rfl⟩;have j:∀g,v.ownBlock=some g->w.heap.size<=g/\g<Z.heap.size:=fun g m=>An I m;have z3:=k.size;refine go ?_;cases b with
 |true=>
  refine go ?_;refine Cs (v1:=[pt E.s]) (v2:=[]) (vs:=[]) rfl (hI Z F R U) rfl ?_ ?_;rotate_left
  ·exact GD
  rintro u f⟨A,a,c2,C,q5,c,rfl,o⟩;have h5:=R.next A q5
  have a5:=q.less B C;have o5:=Ai I A (fun g m=>by have:=j g m;simp;omega);have F5:=p.E A (fun b S=>by have:=S.1;simp[fresh]at this⊢;omega);have a4:=k.trans A O;have a0:=(reqsR).lt o;have z5:=A.size;have Q:=(reqsR).len o;have a1:=(reqsR).one o;obtain⟨a8,a9,a3⟩:=reqs_form o;refine AP (out:=c) rfl U (by rw[madeSl,a3];rfl) (fun w6 d=>?_);have z6:=d.size;have o6:=d.own (n:=1) (size:=1) Q EW (Nat.le_refl _);have a7:=h.st.cnt;refine Ax (ok:=Af) (v:=v) (sv:=.slice (sm f.heap.size) 1 1) rfl rfl (As o5 d.E) (Aa o6 fun _ _=>trivial) U rfl Q a1 U U U (fun D w7 i=>go ?_);have o7:=i.own;have h7:=(h5.ext d.E).E i.E (fun x V=>by have:=j x (Option.mem_toList.1 V);omega)
  have X:∀b,D.ownBlock=some b->v.ownBlock=some b\/b=w6.heap.size:=fun b S=>by
   rcases i.D with e|e
   ·exact .inl Et
   ·rw[e]at S;exact .inr (Option.some.inj S).symm
  have F7:RsAt (reqsR) (fun b=>fresh w b/\D.ownBlock≠some b) w7 L l:=by
   refine((F5.lt.ext d.E).E i.E ?_).mono ?_
   ·rintro b⟨⟨_,S⟩,_⟩V;exact S (Option.mem_toList.1 V)
   ·rintro b⟨⟨h1,S⟩,H⟩;refine⟨h1,fun e=>?_⟩;rcases X b e with e|e
    ·exact S e
    ·omega
  have f7:(reqsR).fits (fun b=>fresh w b/\D.ownBlock≠some b) w7 c a:=by
   refine(reqsR).mono ((reqsR).E ((reqsR).ext a0 d.E) i.E ?_) ?_
   ·rintro b⟨S,H⟩V;have:=j b (Option.mem_toList.1 V);simp[fresh]at S;omega
   ·rintro b⟨S,H⟩;simp only[fresh]at S⊢;refine⟨by omega,fun e=>?_⟩;rcases X b e with e|e
    ·have:=j b e;omega
    ·omega
  refine⟨(D,L++[c],l++[a],c2),⟨rfl,⟨rfl,rfl,rfl,trivial⟩,⟨?_,h7,by simp only[List.length_append,List.length_cons,List.length_nil]at T⊢;omega,by simp only;omega,?_,F7.snoc f7,fun r K=>?_⟩⟩,by simp only;omega⟩
  ·exact(a4.ext d.E).trans i.E (fun x V H=>by have:=j x (Option.mem_toList.1 V);omega)
  ·exact F0
  ·rw[<-prepL_app];exact t _ (q.step B C K)
 |false=>
  refine go ?_;have hS:=Aa (ok:=fresh w) I (fun g m=>(j g m).1);obtain⟨sa,sc,rfl,_⟩:=id hS;refine go ?_;have M:=t _ (q.done B);simp only[prepL,List.append_nil]at M;exact AC rfl ⟨k,l,F,M,R.st,L,I,p⟩
end
section
variable {mk:Prop}[MK mk]
attribute [local semireducible] WC AT B6 BK Bz Cx DZ By
variable {P:Program}{all:Array Oper}
theorem stepP_mono{o:Oper}{f:Fr}{ds:DS}{w:World}{K K':Value->DS->World->Prop}{Z E:List PanicEntry->World->Prop}(H:∀v ds w,K v ds w->K' v ds w)(b:∀c w,Z c w->E c w)(h:By P o f ds w K Z):By P o f ds w K' E:=by
 unfold By at h⊢;revert h;generalize (execOp (ev f) o).run P w=res;intro h;cases res with
 |halt x w'=>cases x<;>first|exact h.elim|exact b _ _ h
 |ok m w'=>
  cases m with
  |value v=>exact H _ _ _ h
  |skip=>exact H _ _ _ h
  |defer d=>exact H _ _ _ h
  |enter g args=>
   refine Calls.mono h fun e i a=>?_;cases e with
   |returned v=>exact H _ _ _ a
   |panicked ch=>exact b _ _ a
   |outgrown=>exact a
  |round l g tmps assign body=>
   refine RoundIn.mono h fun e i a=>?_;cases e with
   |returned v=>exact H _ _ _ a
   |panicked ch=>exact b _ _ a
   |outgrown=>exact a
  |_=>exact h.elim
theorem WOps_mono{Z E:Fr->DS->List PanicEntry->World->Prop}{K K':Fr->DS->World->Prop}(H:∀f ds w,K f ds w->K' f ds w)(a:∀f ds c w,Z f ds c w->E f ds c w):∀(l:List Oper)(f:Fr)(ds:DS)(w:World),AT P all Z K l f ds w->AT P all E K' l f ds w
 | [],f,ds,w,h=>H f ds w h
 |o::rest,f,ds,w,h=>by
  unfold AT at h⊢
  split at h
  ·rename_i hg;rw[if_pos hg];exact stepP_mono (fun v ds w M=>WOps_mono H a rest _ ds w M) (fun c w M=>a _ _ _ _ M) h
  ·rename_i hg;rw[if_neg hg];exact WOps_mono H a rest _ ds w h
theorem WC_mono{n:Cf}:∀(c:Code){Q H:DD}(_:∀e f ds w,Q e f ds w->H e f ds w)(f:Fr)(ds:DS)(w:World),WC P n c Q f ds w->WC P n c H f ds w
 | .skip,_,_,hQ,f,ds,w,h=>hQ _ f ds w h
 | .label _,_,_,hQ,f,ds,w,h=>hQ _ f ds w h
 | .ret,_,_,hQ,f,ds,w,h=>hQ _ f ds w h
 | .exit _,_,_,hQ,f,ds,w,h=>hQ _ f ds w h
 | .goto _,_,_,_,_,_,_,h=>h.elim
 | .refuse _,_,_,_,_,_,_,h=>h.elim
 | .seq a b,_,_,hQ,f,ds,w,h=>by
  refine WC_mono a ?_ f ds w h;intro e f ds w M;cases e with
  |normal=>exact WC_mono b hQ f ds w M
  |_=>exact hQ _ f ds w M
 | .block id c,_,_,hQ,f,ds,w,h=>by
  refine WC_mono c ?_ f ds w h;intro e f ds w M;cases e with
  |exit i=>
   simp only[BK]at M⊢
   split at M
   ·rename_i hi;rw[if_pos hi];exact hQ _ f ds w M
   ·rename_i hi;rw[if_neg hi];exact hQ _ f ds w M
  |_=>exact hQ _ f ds w M
 | .scope c,_,_,hQ,f,ds,w,h=>by
  refine WC_mono c ?_ f ds w h;intro e f ds w M;cases e with
  |goto _=>exact M
  |_=>exact hQ _ f ds w M
 | .cond c x y,_,_,hQ,f,ds,w,h=>by
  simp only[WC]at h⊢;cases hc:ev f c<;>simp only[hc]at h⊢
  case bool b=>
   cases b with
   |true=>exact WC_mono x hQ f ds w h
   |false=>exact WC_mono y hQ f ds w h
 | .region id ops draw,_,_,hQ,f,ds,w,h=>by
  cases draw with
  |false=>exact WOps_mono (fun f ds w M=>hQ _ f ds w M) (fun f ds c w M=>hQ _ f ds w M) ops.toList f ds w h
  |true=>exact fun a Z W R=>wpIn_mono (h a Z W R) (lift_mono hQ)
 | .loop c,_,_,hQ,f,ds,w,h=>by
  obtain⟨α,I,μ,x,t,G⟩:=h;refine⟨α,I,μ,x,t,fun x f ds w z=>WC_mono c ?_ f ds w (G x f ds w z)⟩;intro e f ds w M;cases e with
  |normal=>exact M
  |_=>exact hQ _ f ds w M
 | .rangeFunc g ps qs body,_,_,hQ,f,ds,w,h=>fun a Z W R=>wpIn_mono (h a Z W R) (lift_mono hQ)
def joinQ{α:Type}(L:α->List (Nat×Value))(I:α->World->Prop)(ds:DS)(Q:DD):DD
 | .normal=>fun l b X=>∃x,b=ds/\agr (L x) l/\I x X
 |e=>Q e
section
variable {n:Cf}{Q:DD}{f:Fr}{ds:DS}{w:World}{α:Type}{L:α->List (Nat×Value)}{I:α->World->Prop}{ds0:DS}
theorem CA{a:Code}{K:Fr->DS->World->Prop}(L:α->List (Nat×Value))(I:α->World->Prop)(Z:WC P n a (joinQ L I ds Q) f ds w)(W:∀x w' l,I x w'->K (ov (L x) l) ds w'):WC P n a (B6 K Q) f ds w:=by
 refine WC_mono a ?_ f ds w Z;intro e l b w' M;cases e with
 |normal=>
  obtain⟨x,rfl,D,z⟩:=M;have:=W x w' l z;rw[ov_of_agr D]at this;exact this
 |_=>exact M
theorem Aj(x:α)(D:agr (L x) f)(z:I x w):joinQ L I ds Q .normal f ds w:=⟨x,rfl,D,z⟩
instance :Nx (joinQ L I ds0 Q .ret f ds w) (0=0) (Q .ret f ds w):=⟨fun _ h=>h⟩
instance {i:Nat}:Nx (joinQ L I ds0 Q (.exit i) f ds w) (0=0) (Q (.exit i) f ds w):=⟨fun _ h=>h⟩
instance {c:List PanicEntry}:Nx (joinQ L I ds0 Q (.panic c) f ds w) (0=0) (Q (.panic c) f ds w):=⟨fun _ h=>h⟩
end
theorem fin_retA2{P:Program}{fn:Func}{R:Value->World->Prop}{Y:List PanicEntry->World->Prop}{f:Fr}{w:World}{t u x T n b:Nat}{L:LV}[hT:AggT P T n](G:fn.results.toList=[.cell t T,.tmp u,.tmp x])(D:f t=.pointer (sm b))(K:L.length=n)(a:Cells w b 0 L)(h:R (.tuple #[.agg L.toArray,f u,f x]) w):Cx P fn R Y .ret f [] w:=
 ⟨rfl,by rw[G];exact⟨_,_,D,D9 hT K a,h⟩⟩
attribute [irreducible] joinQ
end
section
variable {mk:Prop}[MK mk]
def zero8:LV:=[AL [],AL [],iV 0,iV 0,AL [],iV 0,iV 0,.slice none 0 0]
theorem signal_ok(E:Env)(N:Nat):ItemR sgnR aggV E N 80 (body .signal):=by
 intro w ts h hN;have b0:=h.st.slt;unfold PDo;refine Az Tryz.func80 rfl Tryz.ntmps80 nlr EO (go ?_);refine AY (fun w1 C=>?_);have b1:Blk w1 w.heap.size 129 [AL [],.bool false,iV 0]:=C.D;have z1:=C.size;have h1:=h.ext C.E;have k1:Keep [E.s] w w1:=C.E.any;refine go ?_;refine AF (CY E w1 ts [105,110,112,117,116] h1.st) rfl ?_;rintro _ p⟨e,i,t2,rfl,F,q2⟩;have h2:=h1.next e q2
 have b2:=b1.E e ES;have a4:=k1.trans e O;have z2:=e.size;refine go ?_;refine A2 (cs:=[AL [],.bool i,iV 2]) rfl rfl EQ (by intro u g;simp at g;rcases g with rfl|rfl|rfl<;>rfl) (fun z r=>?_);have R:=h2.ext r.E;have b3:=b2.E r.E O;have z3:=r.size;have e3:=r.D;have H:=a4.ext r.E;refine go ?_
 refine CA (α:=List Tok) (fun _=>[(0,pt E.s),(2,pt w.heap.size),(3,pt p.heap.size)])
  (fun t W=>Run (if i then .ret ()else CZ [111,117,116,112,117,116]:G Unit) t2 (.ok ((),t))/\PW W E t/\Keep [E.s] w W/\z.heap.size<=W.heap.size/\Blk W w.heap.size 129 [AL [],.bool false,iV 0]/\Blk W p.heap.size 129 [AL [],.bool i,iV 2]) ?_ ?_
 ·cases i with
  |true=>
   refine go ?_;exact Aj t2 ⟨rfl,rfl,rfl,trivial⟩ ⟨Run.ret _ _,R,H,Nat.le_refl _,b3,e3⟩
  |false=>
   refine go ?_;refine Ag (DR E z t2 [111,117,116,112,117,116] R.st) rfl ?_ ?_;rotate_left
   ·rintro V Z⟨a,X,d,rfl⟩;refine go ?_;exact Ab ⟨H.trans a O,X,F.bind (Run.bindE d),rfl⟩
   rintro v w4⟨j,_,Q,f,q4,rfl⟩;refine go ?_;exact Aj Q ⟨rfl,rfl,rfl,trivial⟩ ⟨f,R.next j q4,H.trans j O,j.size,b3.E j ES,e3.E j ES⟩
 rintro Q w4 f4⟨f,B,a1,z4,b4,e4⟩;refine go ?_;refine Ag (pname_ok E w4 Q B.st B.gk) rfl ?_ ?_;rotate_left
 ·rintro V Z⟨a,X,d,rfl⟩;refine go ?_;exact Ab ⟨a1.trans a O,X,F.bind (f.bind (Run.bindE d)),rfl⟩
 rintro v w5⟨A,s,t5,P,q5,rfl,hs⟩;have h5:=B.next A q5
 have b5:=b4.E A ES;have e5:=e4.E A ES;have a5:=a1.trans A O;have z5:=A.size;refine go ?_;refine AU rfl rfl rfl e5 O (fun w6 l=>?_);have h6:=h5.E l.E ES;have b6:=b5.E l.E ES;have e6:Blk w6 p.heap.size 129 [AL s,.bool i,iV 2]:=l.D;have a6:=a5.trans l.E ES;have z6:=l.size;refine go ?_;refine AF (CY E w6 t5 [58] h6.st) rfl ?_;rintro _ w7⟨L,c,t7,rfl,T,q7⟩;have K:=h6.next L q7
 have S:=b6.E L ES;have e7:=e6.E L ES;have I:=a6.trans L O;have z7:=L.size;refine go ?_
 refine CA (α:=List Tok×Int) (fun _=>[(0,pt E.s),(2,pt w.heap.size),(3,pt p.heap.size)])
  (fun x W=>Run ((Ba [58]).bind fun b=>if b then numberG else .ret 2) t5 (.ok (x.2,x.1))/\PW W E x.1/\Keep [E.s] w W/\z.heap.size<=W.heap.size/\Blk W w.heap.size 129 [AL [],.bool false,iV 0]/\Blk W p.heap.size 129 [AL s,.bool i,iV x.2]) ?_ ?_
 ·cases c with
  |true=>
   refine go ?_;refine Ag (number_ok E w7 t7 K.st) rfl ?_ ?_;rotate_left
   ·rintro V Z⟨a,X,d,rfl⟩;refine go ?_;exact Ab ⟨I.trans a O,X,F.bind (f.bind (P.bind (Run.bindE (T.bind d)))),rfl⟩
   rintro v w8⟨k,n,t8,D,q8,rfl,a8,a9⟩;have y:=K.next k q8
   have m:=S.E k ES;have q:=e7.E k ES;have z8:=k.size;refine go ?_;refine AU rfl rfl rfl q O (fun w9 o=>?_);have z9:=o.size;refine go ?_;exact Aj (t8,n) ⟨rfl,rfl,rfl,trivial⟩ ⟨T.bind D,y.E o.E ES,(I.trans k O).trans o.E ES,by omega,m.E o.E ES,o.D⟩
  |false=>
   refine go ?_;exact Aj (t7,2) ⟨rfl,rfl,rfl,trivial⟩ ⟨T.bind (Run.ret _ _),K,I,by omega,S,e7⟩
 rintro⟨t8,n⟩w8 f8⟨D,y,a2,z8,m,q⟩;simp only at D y q;refine go ?_;refine Ag (DR E w8 t8 [59] y.st) rfl ?_ ?_;rotate_left
 ·rintro V Z⟨a,X,d,rfl⟩;refine go ?_;exact Ab ⟨a2.trans a O,X,F.bind (f.bind (P.bind (D.bind (Run.bindE d)))),rfl⟩
 rintro v w9⟨M,_,t9,r9,q9,rfl⟩;have b9:=m.E M ES;have e9:=q.E M ES;refine go ?_;refine AI (cs:=[AL s,.bool i,iV n]) rfl rfl rfl (by intro u g;simp at g;rcases g with rfl|rfl|rfl<;>rfl) b9 O (fun a7 a0=>?_);refine go ?_;have a3:Blk a7 w.heap.size 129 [AL s,.bool i,iV n]:=a0.D;exact AW rfl rfl rfl a3.cells ⟨(a2.trans M O).trans a0.E ES,⟨s,i,n⟩,t9,F.bind (f.bind (P.bind (D.bind (r9.bind (Run.ret _ _))))),q9.E a0.E ES,_,rfl,rfl⟩
theorem requirement_ok(E:Env)(N:Nat):ItemR reqR aggV E N 197 (body .req):=by
 intro w ts h hN;have b2:=h.st.slt;unfold PDo;refine Az Tryz.func197 rfl Tryz.ntmps197 nlr EO (go ?_);refine AY (fun o I=>?_);have b1:Blk o w.heap.size 57 zero8:=I.D;have z1:=I.size;have h1:=h.ext I.E;have k1:Keep [E.s] w o:=I.E.any;refine go ?_;refine A2 (cs:=[AL [],AL [],iV 1,iV 0,AL [],iV 0,iV 0,.slice none 0 0]) rfl rfl EQ (by intro u a;simp at a;rcases a with rfl|rfl|rfl|rfl|rfl|rfl<;>rfl) (fun w3 r=>?_);have h3:=h1.ext r.E;have b3:=b1.E r.E O;have z3:=r.size;have e3:=r.D;have a8:=k1.ext r.E;refine go ?_;refine AF (CY E w3 ts [97,115,115,117,109,101] h3.st) rfl ?_;rintro _ w2⟨e,i,T,rfl,F,q2⟩;have R:=h3.next e q2
 have j:=b3.E e ES;have e2:=e3.E e ES;have p:=a8.trans e O;have z2:=e.size;refine go ?_
 refine CA (α:=List Tok×Int) (fun _=>[(0,pt E.s),(2,pt w.heap.size),(3,pt o.heap.size)])
  (fun x W=>Run (if i then .ret 1 else(CZ [103,117,97,114,97,110,116,101,101]).bind fun _=>.ret 2:G Int) T (.ok (x.2,x.1))/\PW W E x.1/\Keep [E.s] w W/\w3.heap.size<=W.heap.size/\Blk W w.heap.size 57 zero8/\Blk W o.heap.size 57 [AL [],AL [],iV x.2,iV 0,AL [],iV 0,iV 0,.slice none 0 0]) ?_ ?_
 ·cases i with
  |true=>
   refine go ?_;exact Aj (T,1) ⟨rfl,rfl,rfl,trivial⟩ ⟨Run.ret _ _,R,p,by omega,j,e2⟩
  |false=>
   refine go ?_;refine Ag (DR E w2 T [103,117,97,114,97,110,116,101,101] R.st) rfl ?_ ?_;rotate_left
   ·rintro V Z⟨n,X,f,rfl⟩;refine go ?_;exact Ab ⟨p.trans n O,X,F.bind (Run.bindE (Run.bindE f)),rfl⟩
   rintro v w4⟨c,_,t4,d,q4,rfl⟩;have C:=e2.E c ES;have z4:=c.size;refine go ?_;refine AU rfl rfl rfl C O (fun w5 y=>?_);have z5:=y.size;refine go ?_;exact Aj (t4,2) ⟨rfl,rfl,rfl,trivial⟩ ⟨d.bind (Run.ret _ _),(R.next c q4).E y.E ES,(p.trans c O).trans y.E ES,by omega,(j.E c ES).E y.E ES,y.D⟩
 rintro⟨t4,M⟩w4 f4⟨d,D,a1,z4,b4,C⟩;simp only at d D C;refine go ?_;refine Ag (pname_ok E w4 t4 D.st D.gk) rfl ?_ ?_;rotate_left
 ·rintro V Z⟨n,X,f,rfl⟩;refine go ?_;exact Ab ⟨a1.trans n O,X,F.bind (d.bind (Run.bindE f)),rfl⟩
 rintro v w5⟨A,s,t5,P,q5,rfl,hs⟩;have h5:=D.next A q5
 have b5:=b4.E A ES;have e5:=C.E A ES;have a9:=a1.trans A O;have z5:=A.size;refine go ?_;refine AU rfl rfl rfl e5 O (fun w6 z=>?_);have h6:=h5.E z.E ES;have b6:=b5.E z.E ES;have e6:Blk w6 o.heap.size 57 [AL [],AL s,iV M,iV 0,AL [],iV 0,iV 0,.slice none 0 0]:=z.D;have a2:=a9.trans z.E ES;have z6:=z.size;refine go ?_;refine Ag (DR E w6 t5 [58] h6.st) rfl ?_ ?_;rotate_left
 ·rintro V Z⟨n,X,f,rfl⟩;refine go ?_;exact Ab ⟨a2.trans n O,X,F.bind (d.bind (P.bind (Run.bindE f))),rfl⟩
 rintro v w7⟨L,_,t7,r7,q7,rfl⟩;have h7:=h6.next L q7
 have b7:=b6.E L ES;have e7:=e6.E L ES;have a3:=a2.trans L O;have z7:=L.size;refine go ?_;refine Ag ((formulas_ok E t7.length).2.2.2 w7 t7 h7 (Nat.le_refl _)) rfl ?_ ?_;rotate_left
 ·rintro V Z⟨n,X,f,rfl⟩;refine go ?_;exact Ab ⟨a3.trans n O,X,F.bind (d.bind (P.bind (r7.bind (Run.callE f)))),rfl⟩
 rintro v w8⟨H,g,t8,r8,q8,f8⟩;have b8:=b7.E H ES;have e8:=e7.E H ES;have b0:=a3.trans H O;have z8:=H.size;obtain⟨q,rfl,a6,a0⟩:=f8.cells;obtain⟨k,B,Q,S,l,rfl⟩:=Ak a6;refine go ?_;refine AI (cs:=[k,B,Q,S,l]) rfl rfl rfl a0 e8 O (fun w9 m=>?_);have b9:=b8.E m.E ES;have e9:Blk w9 o.heap.size 57 [AL [],AL s,iV M,k,B,Q,S,l]:=m.D;have f9:=f8.E m.E (by intro b t;simp[fresh]at t⊢;omega);have z9:=m.size;refine go ?_
 have a7:oneC [AL [],AL s,iV M,k,B,Q,S,l]:=by
  intro u a;simp only[List.mem_cons,List.not_mem_nil,or_false]at a;rcases a with rfl|rfl|rfl|a
  ·rfl
  ·rfl
  ·rfl
  ·exact a0 u (by simp only[List.mem_cons,List.not_mem_nil,or_false];exact a)
 refine AI (cs:=[AL [],AL s,iV M,k,B,Q,S,l]) rfl rfl rfl a7 b9 (by simp[zero8]) (fun w10 K=>go ?_);have a4:Blk w10 w.heap.size 57 [AL [],AL s,iV M,k,B,Q,S,l]:=K.D;have a5:=f9.E K.E (by intro b t;simp[fresh]at t⊢;omega);exact AW rfl rfl rfl a4.cells ⟨(b0.trans m.E ES).trans K.E ES,⟨[],s,M,g⟩,t8,F.bind (d.bind (P.bind (r7.bind (Run.call r8 (Run.ret _ _))))),(q8.E m.E ES).E K.E ES,_,rfl,[k,B,Q,S,l],rfl,rfl,a5.mono fun b t=>by simp only[fresh]at t⊢;omega⟩
theorem line_ok(E:Env)(N:Nat):ItemR reqR aggV E N 139 (body .line):=by
 intro w P h H;have a0:=h.st.slt;unfold PDo;refine Az Tryz.func139 rfl Tryz.ntmps139 nlr EO (go ?_);refine AY (fun Q A=>?_);have x:Blk Q w.heap.size 57 zero8:=A.D;have z1:=A.size;have Z:=h.ext A.E;have m:Keep [E.s] w Q:=A.E.any;refine go ?_;refine Ag (requirement_ok E N Q P Z H) rfl ?_ ?_;rotate_left
 ·rintro V wq⟨n,X,W,rfl⟩;refine go ?_;exact Ab ⟨m.trans n O,X,Run.callE W,rfl⟩
 rintro v w2⟨e,r,K,F,L,c,rfl,k⟩;have D:=Z.next e L
 have j:=x.E e ES;have p:=m.trans e O;have z2:=e.size;have t:c.length=8:=reqR.len k;have l:=reqR.one k;refine A2 (cs:=c) rfl t EQ l (fun T d=>?_);have R:=D.ext d.E;have z:=j.E d.E O;have C:=reqR.ext k d.E;have z3:=d.size;have I:=d.D;have q:=p.ext d.E;refine go ?_;refine Ag (DR E T K [59] R.st) rfl ?_ ?_;rotate_left
 ·rintro V wq⟨n,X,W,rfl⟩;refine go ?_;exact Ab ⟨q.trans n O,X,Run.call F (Run.bindE W),rfl⟩
 rintro v w4⟨f,_,M,u,G,rfl⟩;have y:=z.E f ES;have g:=I.E f ES;have a:=reqR.E C f Ec;have z4:=f.size;refine go ?_;refine A8 rfl g t ?_;refine AI (cs:=c) rfl rfl t l y (by simp[zero8]) (fun w5 i=>go ?_)
 have B:Blk w5 w.heap.size 57 c:=by
  have:=i.D;rw[BY zero8 c t]at this;exact this
 have o:=reqR.E a i.E Ec;exact AW rfl rfl t B.cells ⟨(q.trans f O).trans i.E ES,r,M,Run.call F (u.bind (Run.ret _ _)),G.E i.E ES,c,rfl,reqR.mono o fun b S=>by simp only[fresh]at S⊢;omega⟩
theorem DV(s t:LU)(ts:List Tok):Run (sees2 s t) ts (.ok (A4 s (ts.head?.map bare)||A4 t (ts.head?.map bare),ts)):=Run.look (Run.ret _ _)
theorem opened_ok(E:Env)(w:World):MoreOk E w 82 [pt E.s] [] (sees2 [112,97,114,116] [112,97,114,116]):=by
 intro w u _ h;show Fn Zp _ [pt E.s] _ _;refine AN Tryz.func82 rfl Tryz.ntmps82 (go ?_);refine AF (sees_ok E w u [112,97,114,116] h.st) rfl ?_;rintro v X⟨rfl,rfl⟩;refine go ?_;refine AC rfl ⟨_,rfl,?_,rfl⟩;have:=DV [112,97,114,116] [112,97,114,116] u
 rwa [Bool.or_self]at this
theorem required_ok(E:Env)(w:World):MoreOk E w 138 [pt E.s] [] (sees2 [97,115,115,117,109,101] [103,117,97,114,97,110,116,101,101]):=by
 intro w u _ h;show Fn Zp _ [pt E.s] _ _;refine AN Tryz.func138 rfl Tryz.ntmps138 (go ?_);refine AF (sees_ok E w u [97,115,115,117,109,101] h.st) rfl ?_;rintro v X⟨rfl,rfl⟩;have G:=DV [97,115,115,117,109,101] [103,117,97,114,97,110,116,101,101] u;cases hb:A4 [97,115,115,117,109,101] (u.head?.map bare)with
 |true=>
  refine go ?_;refine AC rfl ⟨_,rfl,?_,rfl⟩;rw[hb]at G;exact G
 |false=>
  refine go ?_;refine AF (sees_ok E X u [103,117,97,114,97,110,116,101,101] h.st) rfl ?_;rintro v L⟨rfl,rfl⟩;refine go ?_;refine AC rfl ⟨_,rfl,?_,rfl⟩;rw[hb]at G;exact G
theorem declared_ok(E:Env)(y:World)(T:Nat)(V:Blk y T 68 [pt E.s])(N:T≠E.s):MoreOk E y 77 [] [pt T] (sees2 [105,110,112,117,116] [111,117,116,112,117,116]):=by
 intro w u L h;show Fn Zp _ [pt T] _ _;have S:=V.E L (by simpa using N);refine AN Tryz.func77 rfl Tryz.ntmps77 (go ?_);refine AF (sees_ok E w u [105,110,112,117,116] h.st) rfl ?_;rintro v X⟨rfl,rfl⟩;have G:=DV [105,110,112,117,116] [111,117,116,112,117,116] u;cases hc:A4 [105,110,112,117,116] (u.head?.map bare)with
 |true=>
  refine go ?_;refine AC rfl ⟨_,rfl,?_,rfl⟩;rw[hc]at G;exact G
 |false=>
  refine go ?_;refine AF (sees_ok E X u [111,117,116,112,117,116] h.st) rfl ?_;rintro v a⟨rfl,rfl⟩;refine go ?_;refine AC rfl ⟨_,rfl,?_,rfl⟩;rw[hc]at G;exact G
theorem expect_inv{t:LU}{ts ts':List Tok}{u:Unit}(h:Run (CZ t) ts (.ok (u,ts'))):ts'.length+1=ts.length:=by
 cases hs:A4 t (ts.head?.map bare)with
 |true=>
  have e:=h.det (run_expect_t hs);cases e;cases ts with
  |nil=>simp[A4]at hs
  |cons x l=>rfl
 |false=>have e:=h.det (run_expect_f hs);cases e
theorem name_inv{ts ts':List Tok}{s:LU}(h:Run nameG ts (.ok (s,ts'))):ts'.length+1=ts.length:=by
 cases ts with
 |nil=>cases h.det (Run.look (Run.fail _))
 |cons x l=>
  cases hb:(decide (x.kind=1)&&BH x.text)with
  |true=>
   have G:Run nameG (x::l) (.ok (x.text,l)):=by
    refine Run.look ?_;show Run (if(decide (x.kind=1)&&BH x.text)=true then _ else _) _ _;rw[if_pos hb];exact Run.next (Run.ret _ _)
   cases h.det G;rfl
  |false=>
   have G:Run nameG (x::l) (.error (x::l)):=by
    refine Run.look ?_;show Run (if(decide (x.kind=1)&&BH x.text)=true then _ else _) _ _;rw[hb];exact Run.fail _
   cases h.det G
theorem Run.le{α:Type}{p:G α}{l l':List Tok}{a:α}(h:Run p l (.ok (a,l'))):l'.length<=l.length:=(show l'<:+l from h.suffix).length_le
theorem DM{α β:Type}{p:G α}{q:α->G β}{l l':List Tok}{b:β}(h:Run (p.bind q) l (.ok (b,l'))):∃a l1,Run p l (.ok (a,l1))/\Run (q a) l1 (.ok (b,l')):=by
 rcases h.bind_inv with⟨a,l1,Z,W⟩|⟨e,_,W⟩
 ·exact⟨a,l1,Z,W⟩
 ·cases W
theorem call_ok{α:Type}{nt:NT}{k:nt.T->G α}{l l':List Tok}{b:α}(h:Run (.call nt k) l (.ok (b,l'))):∃a l1,RunN nt l (.ok (a,l1))/\Run (k a) l1 (.ok (b,l')):=by
 rcases h.call_inv with⟨a,l1,Z,W⟩|⟨e,_,W⟩
 ·exact⟨a,l1,Z,W⟩
 ·cases W
theorem signal_less{t b:List Tok}{a:Sgn}(h:Run (body .signal) t (.ok (a,b))):b.length<t.length:=by
 exact GL
theorem req_less{t b:List Tok}{a:Rqm}(h:Run (body .req) t (.ok (a,b))):b.length<t.length:=by
 exact GL
theorem line_less{t b:List Tok}{a:Rqm}(h:Run (body .line) t (.ok (a,b))):b.length<t.length:=by
 obtain⟨r,m,e,h⟩:=call_ok h;have:=req_less e;have:=h.le;omega
theorem part_less{t b:List Tok}{a:List Rqm}(h:Run (body .part) t (.ok (a,b))):b.length<t.length:=by
 obtain⟨_,m,e,h⟩:=DM h;have:=expect_inv e;have:=h.le;omega
theorem whileP_sig:WhileP (sees2 [105,110,112,117,116] [111,117,116,112,117,116]) (body .signal) (body .sigs) where
 done h:=h.bind (Run.ret _ _)
 more h h1 h2:=h.bind (Run.call h1 (Run.call h2 (Run.ret _ _)))
 err1 h h1:=h.bind (Run.callE h1)
 err2 h h1 h2:=h.bind (Run.call h1 (Run.callE h2))
 less _ h:=signal_less h
theorem whileP_lines:WhileP (sees2 [97,115,115,117,109,101] [103,117,97,114,97,110,116,101,101]) (body .line) (body .lines) where
 done h:=h.bind (Run.ret _ _)
 more h h1 h2:=h.bind (Run.call h1 (Run.call h2 (Run.ret _ _)))
 err1 h h1:=h.bind (Run.callE h1)
 err2 h h1 h2:=h.bind (Run.call h1 (Run.callE h2))
 less _ h:=line_less h
theorem whileP_parts:WhileP (sees2 [112,97,114,116] [112,97,114,116]) (body .part) (body .parts) where
 done h:=h.bind (Run.ret _ _)
 more h h1 h2:=h.bind (Run.call h1 (Run.call h2 (Run.ret _ _)))
 err1 h h1:=h.bind (Run.callE h1)
 err2 h h1 h2:=h.bind (Run.call h1 (Run.callE h2))
 less _ h:=part_less h
theorem own_blkN{w:World}{B e n size:Nat}{a:Option Addr}{cap:Nat}{xs:LV}(h:w.ownsRow B e size (.slice a n cap) n xs)(I:0<n):
  ∃g L,a=some ⟨g,0,none⟩/\B<=g/\Blk w g e L/\n*size<=L.length/\∀w' i u,Put w w' g e (L.set i u)->w'.ownsRow B e size (.slice a n cap) n (xs.set i u):=by
 obtain⟨K,p⟩:=h;rcases p with⟨_,rfl⟩|⟨g,V,G,p,s,c,Z,W,R,b⟩
 ·omega
 ·cases p;refine⟨g,G.toList,rfl,s,by simpa[Blk]using c,?_,fun w' i u y=>⟨by simpa using K,.inr ⟨g,cap,(G.toList.set i u).toArray,rfl,s,y.D,Z,W,by simpa using R,?_⟩⟩⟩
  ·have:=congrArg List.length b;simp at this;rw[K]at this;simp;omega
  ·show((G.toList.set i u).toArray.toList.take (n*size))=_;rw[<-b,List.take_set]
theorem flatten_set(n:Nat)(u:Value):∀(L:List (LV))(k j:Nat)(c:LV),(∀c∈L,c.length=n)->L[k]?=some c->j<n->L.flatten.set (k*n+j) u=(L.set k (c.set j u)).flatten
 | [],k,j,c,_,h,_=>by simp at h
 |d::L,0,j,c,h5,h,hj=>by
  simp at h;subst h;have:=h5 d O;rw[Nat.zero_mul,Nat.zero_add,List.flatten_cons,List.set_append_left _ _ U];rfl
 |d::L,k+1,j,c,h5,h,hj=>by
  have C:=h5 d O;rw[List.flatten_cons,List.set_append_right _ _ (by rw[C,Nat.succ_mul];omega),C,show(k+1)*n+j-n=k*n+j by rw[Nat.succ_mul];omega];rw[flatten_set n u L k j c (fun c T=>h5 c Eb) Ed hj];rfl
def inPart(s:LU)(r:Rqm):Rqm:=⟨s,r.name,r.kind,r.formula⟩
def upTo{α:Type}(f:α->α)(k:Nat)(l:List α):List α:=(l.take k).map f++l.drop k
theorem upTo_get{α:Type}(f:α->α){k:Nat}{l:List α}(L:k<=l.length)(i:Nat):(upTo f k l)[i]?=if i<k then(l[i]?).map f else l[i]?:=by
 unfold upTo
 split
 ·rename_i h;rw[List.getElem?_append_left EP,List.getElem?_map,List.getElem?_take,if_pos h]
 ·rename_i h;rw[List.getElem?_append_right EP,List.getElem?_drop]
  congr 1
  simp;omega
theorem upTo_len{α:Type}(f:α->α)(k:Nat)(l:List α)(L:k<=l.length):(upTo f k l).length=l.length:=by simp[upTo];omega
theorem part_ok(E:Env)(N:Nat):ItemR reqsR oneV E N 83 (body .part):=by
 intro w ts h hN;have b9:=h.st.slt;unfold PDo;refine Az Tryz.func83 rfl Tryz.ntmps83 nlr EO (go ?_);refine Ag (DR E w ts [112,97,114,116] h.st) rfl ?_ ?_;rotate_left
 ·rintro t G⟨n,X,j,rfl⟩;refine go ?_;exact Ab ⟨(Keep.refl [E.s] w).trans n O,X,Run.bindE j,rfl⟩
 rintro v w1⟨H,_,t1,e,q1,rfl⟩;have Z:=h.next H q1
 refine go ?_;refine Ag (pname_ok E w1 t1 Z.st Z.gk) rfl ?_ ?_;rotate_left
 ·rintro t G⟨n,X,j,rfl⟩;refine go ?_;exact Ab ⟨H.trans n O,X,e.bind (Run.bindE j),rfl⟩
 rintro v w2⟨k2,s,t2,F,q2,rfl,hs⟩;have P:=Z.next k2 q2
 have a4:=H.trans k2 O;refine go ?_;refine Ag (DR E w2 t2 [123] P.st) rfl ?_ ?_;rotate_left
 ·rintro t G⟨n,X,j,rfl⟩;refine go ?_;exact Ab ⟨a4.trans n O,X,e.bind (F.bind (Run.bindE j)),rfl⟩
 rintro v z⟨K,_,t3,M,q3,rfl⟩;have R:=P.next K q3
 have I:=a4.trans K O;refine go ?_;refine Ag (whileReq_ok E t3.length _ _ [pt E.s] [] _ _ _ whileP_lines z t3 (required_ok E z) (line_ok E _) R (Nat.le_refl _)) rfl ?_ ?_;rotate_left
 ·rintro t G⟨n,X,j,rfl⟩;refine go ?_;exact Ab ⟨I.trans n O,X,e.bind (F.bind (M.bind (Run.callE j))),rfl⟩
 rintro v w4⟨k4,l,t4,r4,q4,L,o,F4⟩;have B:=R.next k4 q4
 have a5:=I.trans k4 O
 obtain⟨a,c,rfl⟩:∃a c,v=.slice a l.length c:=by
  rcases o.2 with⟨rfl,h0⟩|⟨g,b4,b5,rfl,_⟩
  ·exact⟨none,0,by rw[h0]⟩
  ·exact Gq
 have b8:l.length<=9223372036854775807:=by
  obtain⟨_,_,hv,g1,g2,_⟩:=Aa (ok:=Af) o fun _ _=>trivial;cases hv;omega
 refine go ?_;refine Ag (DR E w4 t4 [125] B.st) rfl ?_ ?_;rotate_left
 ·rintro t G⟨n,X,j,rfl⟩;refine go ?_;exact Ab ⟨a5.trans n O,X,e.bind (F.bind (M.bind (Run.call r4 (Run.bindE j)))),rfl⟩
 rintro v w5⟨A,_,t5,r5,q5,rfl⟩;have h5:=B.next A q5
 have b3:=a5.trans A O;have c0:=I.size;have a2:∀g,(Value.slice a l.length c).ownBlock=some g->z.heap.size<=g/\g<w4.heap.size:=fun g p=>An o p;have o5:=Ai o A (fun g p=>by have:=a2 g p;simp;omega);have F5:=F4.E A (fun b S=>by have:=S.1;simp[fresh]at this⊢;omega);refine go ?_
 refine Ar (α:=Nat) (fun k=>[(3,AL s),(4,.slice a l.length c),(20,iV (l.length:Int)),(21,iV (k:Int))])
  (fun k W=>k<=l.length/\Keep [E.s] w W/\PSt W E t5/\∃u,W.ownsRow z.heap.size 57 8 (.slice a l.length c) l.length u.flatten/\RsAt reqR (fun b=>fresh z b/\(Value.slice a l.length c).ownBlock≠some b) W u (upTo (inPart s) k l)) (fun k=>l.length-k) 0 ⟨rfl,rfl,rfl,rfl,trivial⟩
  ⟨by omega,b3,q5,L,o5,by simpa[upTo]using F5⟩ ?_
 rintro k w6 f6⟨y,k6,q6,u,o6,f⟩;refine go ?_;by_cases D:k<l.length
 ·obtain⟨g,Lc,rfl,hB,S,b6,b0⟩:=own_blkN o6 U;have b7:k*8+8<=l.length*8:=by omega
  have a3:=upTo_len (inPart s) k l y;obtain⟨q,Q⟩:∃q,u[k]?=some q:=⟨_,List.getElem?_eq_getElem (by rw[f.1,a3];exact D)⟩;obtain⟨r,hr⟩:∃r,l[k]?=some r:=⟨_,List.getElem?_eq_getElem D⟩;have b1:(upTo (inPart s) k l)[k]?=some r:=by rw[upTo_get _ y,if_neg U,hr]
  have a8:=f.2 k q r Q b1;refine go ?_;refine AU (v:=AL s) rfl rfl rfl S U (fun w7 m=>go ?_);have e0:0+k*8+0=k*8+0:=by omega
  rw[e0]at m;have o7:=b0 w7 _ _ m;have a9:=flatten_set 8 (AL s) u k 0 q f.len Q U;rw[a9]at o7;have z3:=K.size;refine⟨k+1,⟨rfl,⟨rfl,rfl,rfl,?_,trivial⟩,⟨by omega,k6.trans m.E (fun x V D=>by simp at V;omega),q6.E m.E (fun x V=>by simp at V;omega),_,o7,?_⟩⟩,by omega⟩
  ·show iV ((k:Int)+1)=_;rw[Int.natCast_add];rfl
  ·refine⟨by rw[List.length_set,f.1,upTo_len _ _ _ y,upTo_len _ _ _ U],fun i d x C V=>?_⟩;have a0:∀b,(fresh z b/\(Value.slice (sm g) l.length c).ownBlock≠some b)->b∉[g]:=fun b S V=>S.2 (by simp at V;subst V;rfl);rw[upTo_get _ U]at V;rw[List.getElem?_set]at C;by_cases T:k=i
   ·subst T;rw[if_pos rfl,if_pos (by rw[f.1,a3];exact D)]at C;cases C;rw[if_pos U,hr]at V;cases V;obtain⟨d,rfl,a6,a7⟩:=a8;exact⟨d,rfl,a6,a7.E m.E a0⟩
   ·rw[if_neg T]at C
    have b2:(upTo (inPart s) k l)[i]?=some x:=by
     rw[upTo_get _ y];by_cases Z:i<k
     ·rw[if_pos Z];rwa [if_pos U]at V
     ·rw[if_neg Z];rwa [if_neg U]at V
    exact reqR.E (f.2 i d x C b2) m.E a0
 ·obtain rfl:k=l.length:=by omega
  refine go ?_;have hm:upTo (inPart s) l.length l=l.map (inPart s):=by simp[upTo]
  rw[hm]at f;have S6:=Aa (ok:=fresh w) o6 (fun g p=>by have:=a2 g p;simp only[fresh];omega);have a1:(l.map (inPart s)).length=l.length:=by simp
  refine AC rfl ⟨k6,l.map (inPart s),t5,e.bind (F.bind (M.bind (Run.call r4 (r5.bind (Run.ret _ _))))),q6,[.slice a l.length c],rfl,_,rfl,a,c,u,by rw[a1],by rw[a1];exact S6,f.mono fun b S=>by have:=S.1;simp only[fresh]at this⊢;omega⟩
end
end Go.Proofs.YtjbocjodncbogaaGreatDoor
