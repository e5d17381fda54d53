/- TopTextGoals, part 11 of 16: rules, lemmas, walks. Conditions: none. -/
import Derived.Test.YtjbocjodncbogaaGreatDoorTX10
import Derived.Test.YtjbocjodncbogaaGreatDoorShl
namespace Go.Proofs.YtjbocjodncbogaaGreatDoor
open Go.RowKit
set_option linter.unusedVariables false
section
variable {mk:Prop}[MK mk]
theorem lookup_key{β:Type}{a:Int}{b:β}:∀{l:List (Int×β)},l.lookup a=some b->a∈l.map (·.1)
 | [],h=>by cases h
 |(k,v)::l,h=>by
  rw[List.lookup_cons]at h;by_cases L:a=k
  ·simp[L]
  ·rw[show(a==k)=false by simpa using L]at h;have:=lookup_key (l:=l) h;simp only[List.map_cons,List.mem_cons];exact .inr this
theorem op_cases{op:Int}{s:Sty}(h:Cb op=some s):op=1\/op=2\/op=3\/op=4\/op=5\/op=6\/op=7\/op=8\/op=9\/op=10\/op=11\/op=12\/op=13\/op=14\/op=15\/op=16\/op=17\/op=18\/op=19:=by
 have:=lookup_key h;simpa[styL]using this
theorem node_parts{op v b:Int}{k:LU}{n:Nat}(h:DX op k v b n=true):∃s,Cb op=some s/\s.least<=n/\n<=s.most/\0<=v/\v<=(s.val:Int)/\0<=b/\b<=(s.bound:Int)/\(op=3->BH k=true)/\(op≠3->k=[]):=by
 unfold DX at h;cases hs:Cb op with
 |none=>rw[hs]at h;cases h
 |some s=>
  rw[hs]at h;simp only[Bool.and_eq_true,decide_eq_true_eq]at h;obtain⟨⟨Z,W,R,B,d,a⟩,K⟩:=h;refine⟨s,rfl,Z,W,R,B,d,a,fun e=>?_,fun e=>?_⟩
  ·rw[if_pos e]at K;exact K
  ·rw[if_neg e]at K;simpa using K
theorem kind_low:∀c:UInt8,A5 c=true->Df c=some 2:=by
 intro c h;have:c.toNat∈(List.range 26).map (·+97):=by simp[A5]at h;simp;exact⟨c.toNat-97,by omega,by omega⟩
 have e:c=UInt8.ofNat c.toNat:=by simp
 rw[e];revert this;generalize c.toNat=n;intro I;simp only[List.range,List.range.loop,List.map_cons,List.map_nil,List.mem_cons,List.not_mem_nil,or_false]at I;rcases I with rfl|rfl|rfl|rfl|rfl|rfl|rfl|rfl|rfl|rfl|rfl|rfl|rfl|rfl|rfl|rfl|rfl|rfl|rfl|rfl|rfl|rfl|rfl|rfl|rfl|rfl<;>rfl
theorem kind_dig:∀c:UInt8,Au c=true->Df c=some 3:=by
 intro c h;have:c.toNat∈(List.range 10).map (·+48):=by simp[Au]at h;simp;exact⟨c.toNat-48,by omega,by omega⟩
 have e:c=UInt8.ofNat c.toNat:=by simp
 rw[e];revert this;generalize c.toNat=n;intro I;simp only[List.range,List.range.loop,List.map_cons,List.map_nil,List.mem_cons,List.not_mem_nil,or_false]at I;rcases I with rfl|rfl|rfl|rfl|rfl|rfl|rfl|rfl|rfl|rfl<;>rfl
theorem takeW_app{p:UInt8->Bool}{u:LU}(g:∀c,u.head?=some c->p c=false):∀s:LU,s.all p=true->(s++u).takeWhile p=s
 | [],_=>by
  cases u with
  |nil=>rfl
  |cons c u=>simp[g c rfl]
 |c::s,h=>by
  simp only[List.all_cons,Bool.and_eq_true]at h;rw[List.cons_append,List.takeWhile_cons,if_pos h.1,takeW_app g s h.2]
theorem fol_name{u:LU}(h:folB u.head?=true):∀c,u.head?=some c->BD c=false:=by
 intro c T;rw[T]at h;simp only[folB,Ch,BD,Bool.not_eq_true',Bool.or_eq_false_iff]at h⊢;exact⟨⟨h.1.1.1,h.1.2⟩,h.2⟩
theorem fol_dig{u:LU}(h:folB u.head?=true):∀c,u.head?=some c->Au c=false/\Ch c=false/\c.toNat≠95:=by
 intro c T;rw[T]at h;simp only[folB,Bool.not_eq_true',Bool.or_eq_false_iff,decide_eq_false_iff_not]at h;exact⟨h.1.2,h.1.1,h.2⟩
theorem CL{k:LU}(I:BH k=true):1<=k.length/\k.length<=12/\A5 (k.getD 0 0)=true/\k.all BD=true/\k∉keysL:=by
 simp only[BH,Bool.and_eq_true,decide_eq_true_eq,Bool.not_eq_true',decide_eq_false_iff_not]at I;exact⟨I.1.1.1.1,I.1.1.1.2,I.1.1.2,I.1.2,I.2⟩
theorem word_step{k u:LU}(Z:1<=k.length)(W:k.length<=12)(R:A5 (k.getD 0 0)=true)(B:k.all BD=true)(g:folB u.head?=true):BU (k++u) 0 []=.ok (k.length,[⟨1,k,0⟩]):=by
 cases k with
 |nil=>simp at Z
 |cons c s=>
  have B:s.all BD=true:=by
   simp only[List.all_cons,Bool.and_eq_true]at B;exact B.2
  have e:Ao BD (c::s++u) (0+1)=s.length+1:=by
   show 0+1+((s++u).takeWhile BD).length=_;rw[takeW_app (fol_name g) s B];omega
  unfold BU;rw[show(c::s++u).getD 0 0=c from rfl,kind_low c R];show EN _ 0 []=_;unfold EN;simp only[List.length_cons]at W;rw[e,if_neg U];unfold C8;rw[if_neg O];simp
theorem num_step{n:Nat}{u:LU}(I:n<=9999)(g:folB u.head?=true):BU (digs n++u) 0 []=.ok ((digs n).length,[⟨2,digs n,0⟩]):=by
 have y:=digs_pos n;have K:=digs_len I;have C:=digs_dig n n (Nat.le_refl _);have k:(digs n).all Au=true:=List.all_eq_true.2 C;have w:(digs n++u).getD 0 0=(digs n).getD 0 0:=getD_left U
 have t:Au ((digs n).getD 0 0)=true:=by
  rw[List.getD_eq_getElem?_getD,List.getElem?_eq_getElem U];exact C _ (List.getElem_mem _)
 have e:Ao Au (digs n++u) 0=(digs n).length:=by
  show 0+((digs n++u).takeWhile Au).length=_;rw[takeW_app (fun c T=>(fol_dig g c T).1) _ k];omega
 have S:BM (digs n++u) 0=false:=by
  unfold BM;rw[e,w];simp only[Bool.or_eq_false_iff,Bool.and_eq_false_iff,decide_eq_false_iff_not];refine⟨⟨by omega,?_⟩,?_⟩
  ·by_cases N:n<10
   ·left;rw[CV N];simp
   ·right;exact digs_head n n (Nat.le_refl _) U
  ·cases u with
   |nil=>left;simp
   |cons c u=>
    right;have T:(digs n++c::u).getD (digs n).length 0=c:=by simp[List.getD_eq_getElem?_getD]
    rw[T];obtain⟨_,Z,W⟩:=fol_dig g c rfl;exact⟨Z,W⟩
 unfold BU;rw[w,kind_dig _ t];show EI _ 0 []=_;unfold EI;rw[S,e];show C8 _ 0 [] 2 _=_;unfold C8;rw[if_neg O];simp
theorem ReadL.name{k s:LU}{f:List BT}(I:BH k=true)(h:ReadL s f)(F:folB s.head?=true):ReadL (k++s) ((1,k)::f):=by
 obtain⟨Z,W,R,B,_⟩:=CL I;exact .tok Z (word_step Z W R B F) h
theorem ReadL.num{n:Int}{s:LU}{f:List BT}(I:n<=9999)(h:ReadL s f)(F:folB s.head?=true):ReadL (Ci n++s) ((2,Ci n)::f):=
 .tok (digs_pos _) (num_step U F) h
theorem ReadL.one{c:UInt8}{s:LU}{f:List BT}(T:c=40\/c=41\/c=91\/c=93\/c=59\/c=58\/c=123\/c=125\/c=124\/c=38\/c=61)(h:ReadL s f):ReadL (c::s) ((3,[c])::f):=by
 refine ReadL.sym (y:=[c]) O ?_ ?_ h
 ·rcases T with rfl|rfl|rfl|rfl|rfl|rfl|rfl|rfl|rfl|rfl|rfl<;>exact⟨0,rfl⟩
 ·rcases T with rfl|rfl|rfl|rfl|rfl|rfl|rfl|rfl|rfl|rfl|rfl<;>simp[symsL,CC]
theorem ReadL.imp{s:LU}{f:List BT}(h:ReadL s f):ReadL (45::62::s) ((3,[45,62])::f):=ReadL.sym (y:=[45,62]) O ⟨0,rfl⟩ (by simp[symsL,CC]) h
theorem ReadL.not{s:LU}{f:List BT}(h:ReadL s f)(F:s.head?≠some 61):ReadL (33::s) ((3,[33])::f):=by
 refine ReadL.sym (y:=[33]) O ⟨0,rfl⟩ ?_ h;cases s with
 |nil=>simp[symsL,CC]
 |cons c s=>
  have T:c≠61:=fun e=>F (by rw[e];rfl);simp[symsL,CC,T]
theorem ReadL.big{c:UInt8}{d:UInt8}{s:LU}{f:List BT}(T:c∈[88,89,90,79,72,70,71,85,82,83,84])(C:d=32\/d=91)(h:ReadL (d::s) f):ReadL (c::d::s) ((1,[c])::f):=by
 refine .tok (y:=[c]) O ?_ h;simp only[List.mem_cons,List.not_mem_nil,or_false]at T;rcases T with rfl|rfl|rfl|rfl|rfl|rfl|rfl|rfl|rfl|rfl|rfl<;>rcases C with rfl|rfl<;>rfl
theorem ReadL.index{v:Int}{s:LU}{f:List BT}(p:v<=9999)(h:ReadL s f):ReadL (91::(Ci v++93::32::s)) ((3,[91])::(2,Ci v)::(3,[93])::f):=
 ReadL.one O (ReadL.num p (ReadL.one O (ReadL.gap (.inl rfl) h)) rfl)
def Fol(s:LU):Prop:=folB s.head?=true/\s.head?≠some 61
theorem fol_blank(s:LU):Fol (32::s):=⟨rfl,by simp⟩
theorem small_ne{k s:LU}(Z:1<=k.length)(h:A5 (k.getD 0 0)=true):(k++s).head?≠some 61:=by
 cases k with
 |nil=>simp at Z
 |cons c k=>
  intro e;simp only[List.cons_append,List.head?_cons,Option.some.injEq]at e;subst e;exact absurd (show A5 61=true from h) ET
theorem sign_reads{op v b:Int}{k:LU}{n:Nat}(h:DX op k v b n=true){s:LU}{f:List BT}(G:ReadL s f)(F:n=0->folB s.head?=true)(P:s.head?≠some 61):
  ReadL (sgT op k v b++s) (sgK op k v b++f)/\(sgT op k v b++s).head?≠some 61/\(2<=n->Fol (sgT op k v b++s)):=by
 obtain⟨L,X,Z,W,R,B,d,a,K,i⟩:=node_parts h;have S:∀{t:LU}{c:List BT},ReadL t c->ReadL (32::t) c:=fun q=>ReadL.gap (.inl rfl) q;rcases op_cases X with rfl|rfl|rfl|rfl|rfl|rfl|rfl|rfl|rfl|rfl|rfl|rfl|rfl|rfl|rfl|rfl|rfl|rfl|rfl<;>simp[Cb,styL,List.lookup]at X<;>subst X<;>simp only at Z W B a
 ·have F:=F U;exact⟨.tok (y:=[116,114,117,101]) O (word_step O O ET ET F) G,by simp[sgT,Br,Cb,styL,List.lookup],fun _=>by omega⟩
 ·have F:=F U;exact⟨.tok (y:=[102,97,108,115,101]) O (word_step O O ET ET F) G,by simp[sgT,Br,Cb,styL,List.lookup],fun _=>by omega⟩
 ·have F:=F U;have I:=K rfl;obtain⟨A,_,r,_⟩:=CL I;by_cases p:v=1
  ·refine⟨?_,?_,fun _=>by omega⟩
   ·simp only[sgT,sgK,if_pos p];exact ReadL.name I G F
   ·rw[show sgT 3 k v b=k by simp[sgT,p]];exact small_ne A r
  ·refine⟨?_,?_,fun _=>by omega⟩
   ·simp only[sgT,sgK,if_neg p];have:=ReadL.name I (ReadL.one (c:=61) O (ReadL.num (n:=v) U G F)) rfl;simpa using this
   ·rw[show sgT 3 k v b=k++[61]++Ci v by simp[sgT,p],List.append_assoc,List.append_assoc];exact small_ne A r
 ·exact⟨ReadL.not G P,by simp[sgT,Br,Cb,styL,List.lookup],fun _=>by omega⟩
 ·exact⟨S (ReadL.one O (S G)),by simp[sgT,Br,Cb,styL,List.lookup],fun _=>fol_blank _⟩
 ·exact⟨S (ReadL.one O (S G)),by simp[sgT,Br,Cb,styL,List.lookup],fun _=>fol_blank _⟩
 ·exact⟨S (ReadL.imp (S G)),by simp[sgT,Br,Cb,styL,List.lookup],fun _=>fol_blank _⟩
 ·exact FX
 ·exact Gr
 ·exact Gr
 ·exact FX
 ·exact FX
 ·refine⟨?_,by simp[sgT,Br,Cb,styL,List.lookup],fun _=>by omega⟩;have:=ReadL.big (c:=70) O (.inr rfl) (ReadL.index (v:=b) U G);simpa[sgT,sgK,Br,Cb,styL,List.lookup]using this
 ·refine⟨?_,by simp[sgT,Br,Cb,styL,List.lookup],fun _=>by omega⟩;have:=ReadL.big (c:=71) O (.inr rfl) (ReadL.index (v:=b) U G);simpa[sgT,sgK,Br,Cb,styL,List.lookup]using this
 ·by_cases p:v=0
  ·simp only[sgT,sgK,if_pos p];exact⟨ReadL.big O (.inl rfl) (S G),by simp,fun _=>by omega⟩
  ·simp only[sgT,sgK,if_neg p];exact⟨ReadL.big O (.inl rfl) (S G),by simp,fun _=>by omega⟩
 ·by_cases p:v=0
  ·subst p;exact⟨S (ReadL.big (c:=83) O (.inl rfl) (S G)),by simp[sgT,Br,Cb,styL,List.lookup],fun _=>fol_blank _⟩
  ·have:=S (ReadL.big (c:=83) O (.inr rfl) (ReadL.index (v:=v) U G));refine⟨?_,by simp[sgT,Br,Cb,styL,List.lookup,p],fun _=>?_⟩
   ·simpa[sgT,sgK,Br,Cb,styL,List.lookup,p]using this
   ·simp only[Fol,sgT,Br,Cb,styL,List.lookup];simp[p,folB,Ch,A5,isUp,Au]
 ·by_cases p:v=1
  ·subst p;exact⟨S (ReadL.big (c:=84) O (.inl rfl) (S G)),by simp[sgT,Br,Cb,styL,List.lookup],fun _=>fol_blank _⟩
  ·have:=S (ReadL.big (c:=84) O (.inr rfl) (ReadL.index (v:=v) U G));refine⟨?_,by simp[sgT,Br,Cb,styL,List.lookup,p],fun _=>?_⟩
   ·simpa[sgT,sgK,Br,Cb,styL,List.lookup,p]using this
   ·simp only[Fol,sgT,Br,Cb,styL,List.lookup];simp[p,folB,Ch,A5,isUp,Au]
 ·exact FX
 ·exact FX
def ReadsF(f:Fml):Prop:=∀(n:Nat)(s:LU)(a:List BT),ReadL s a->Fol s->ReadL (prF n f++s) (tkF n f++a)/\(prF n f++s).head?≠some 61
theorem CT:∀{l:LF},okL l=true->∀a∈l,okF a=true
 | [],_,a,h=>by cases h
 |c::l,h,a,D=>by
  simp only[okL,Bool.and_eq_true]at h;rcases List.mem_cons.1 D with rfl|D
  ·exact h.1
  ·exact CT h.2 a D
theorem rest_readsF{op v b:Int}{d:LU}{k:Nat}(h:DX op d v b k=true)(L:2<=k)(next:Nat):∀(l:LF),(∀a∈l,ReadsF a)->∀(s:LU)(f:List BT),ReadL s f->Fol s->ReadL (prR next (sgT op d v b) l++s) (tkR next (sgK op d v b) l++f)/\Fol (prR next (sgT op d v b) l++s)
 | [],_,s,f,hr,hs=>⟨hr,hs⟩
 |a::l,hl,s,f,hr,hs=>by
  obtain⟨e,I⟩:=rest_readsF h L next l (fun c T=>hl c Eb) s f hr hs
  obtain⟨F,N⟩:=hl a O next _ _ e I
  obtain⟨i,_,g⟩:=sign_reads h F (fun t=>by omega) N;simp only[prR,tkR,List.append_assoc];exact⟨i,g L⟩
theorem body_reads{op v b:Int}{k:LU}{args:LF}(h:DX op k v b args.length=true)(first next:Nat)(K:∀a∈args,ReadsF a){s:LU}{f:List BT}(G:ReadL s f)(F:Fol s):
  ReadL (prA first next (sgT op k v b) args++s) (tkA first next (sgK op k v b) args++f)/\(prA first next (sgT op k v b) args++s).head?≠some 61:=by
 match args,h,K with
 | [],h,K=>
  obtain⟨i,g,_⟩:=sign_reads h G (fun _=>F.1) F.2;simp only[prA,tkA];exact⟨i,g⟩
 | [a],h,K=>
  obtain⟨j,N⟩:=K a O first _ _ G F
  obtain⟨i,g,_⟩:=sign_reads h j (fun t=>by simp at t) N;simp only[prA,tkA,prR,tkR,List.isEmpty_nil,if_pos,List.append_assoc,List.append_nil,List.nil_append];exact⟨i,g⟩
 |a::c::l,h,K=>
  obtain⟨m,I⟩:=rest_readsF h O next (c::l) (fun d C=>K d (by simp at C;simp[C])) s f G F
  obtain⟨j,N⟩:=K a O first _ _ m I
  have e:(c::l).isEmpty=false:=rfl;simp only[prA,tkA,e,Bool.false_eq_true,if_false,List.append_assoc,List.nil_append];exact⟨j,N⟩
theorem readsF:∀(m:Nat)(f:Fml),SizeOf.sizeOf f<=m->okF f=true->ReadsF f
 |0,f,hm,_=>by cases f;simp at hm
 |m+1,.mk op nm v b args,hm,hok=>by
  simp only[okF,Bool.and_eq_true]at hok;have K:∀a∈args,ReadsF a:=fun a D=>readsF m a (by have:=List.sizeOf_lt_of_mem D;simp at hm;omega) (CT hok.2 a D);intro n s d G F;simp only[prF,tkF];by_cases T:(Br op).level<n
  ·rw[decide_eq_true T];obtain⟨e,_⟩:=body_reads hok.1 (Br op).first (Br op).next K (ReadL.one (c:=41) O G) ⟨rfl,by simp⟩
   have:=ReadL.one (c:=40) O e;refine⟨?_,by simp[wrapT]⟩;simpa[wrapT,wrapK]using this
  ·rw[decide_eq_false T];exact body_reads hok.1 (Br op).first (Br op).next K G F
end
section
variable {mk:Prop}[MK mk]
attribute [local semireducible] WC AT B6 BK Bz Cx DZ By
variable {P:Program}{ops:Array Oper}{rr:Option Nat}
def backB(l:List Oper):Bool:=(List.range l.length).all fun i=>match l[i]? with
 |some o=>o.after.toList.all fun e=>Nat.blt e.on i
 |none=>true
theorem backB_at{l:List Oper}(h:backB l=true){i:Nat}{o:Oper}(a:l[i]?=some o):∀e∈o.after,e.on<i:=by
 intro e b;have H:i<l.length:=(List.getElem?_eq_some_iff.1 a).1;have:=List.all_eq_true.1 h i (List.mem_range.2 H);rw[a]at this;have:=List.all_eq_true.1 this e (by simpa using b);rw[Nat.blt_eq]at this;exact this
theorem filter_lt{p q:Nat->Bool}{j:Nat}(K:∀x,q x=true->p x=true)(T:p j=true)(n:q j=false):∀{l:List Nat},j∈l->(l.filter q).length<(l.filter p).length
 | [],h=>by cases h
 |x::l,h=>by
  have C:∀m:List Nat,(m.filter q).length<=(m.filter p).length:=by
   intro m
   induction m with
   |nil=>exact Nat.le_refl _
   |cons y m a=>
    rw[List.filter_cons,List.filter_cons];cases hy:q y with
    |true=>rw[K y hy];simp;exact a
    |false=>cases p y<;>simp<;>omega
  rw[List.filter_cons,List.filter_cons];rcases List.mem_cons.1 h with rfl|h
  ·rw[T,n];have:=C l;simp;omega
  ·have a:=filter_lt K T n h;cases hx:q x with
   |true=>rw[K x hx];simp;exact a
   |false=>cases p x<;>simp<;>omega
theorem wpAny_inv{n:Nat}{Q:DD}{Inv:(Nat->Bool)->Fr->DS->World->Prop}(a3:ops.toList.all (opOk n rr.isSome)=true)(m:∀(i:Nat)(o:Oper),ops[i]?=some o->∀e∈o.after,e.on<i)
  (a6:∀(L:Nat->Bool)(f:Fr)(ds:DS)(w:World)(i:Nat)(o:Oper),Inv L f ds w->ops[i]?=some o->L i=false->(∀e∈o.after,Region.binds .any e=true->L e.on=true)->
   AT P ops (fun f ds A w=>Q (.panic A) f ds w) (fun l b w'=>Inv (fun j=>j==i||L j) l b w') [o] f ds w)
  (D:∀(L:Nat->Bool)(f:Fr)(ds:DS)(w:World),Inv L f ds w->(∀i,i<ops.size->L i=true)->Q .normal f ds w):
  ∀(X:Nat)(G:Array Bool)(a:Act)(w:World),G.size=ops.size->((List.range ops.size).filter fun i=> !G.getD i true).length<=X->a.tmps.size=n->Inv (fun i=>G.getD i true) (Ca a) a.defers w->
   wpAnyIn (rnd rr) 0 P .any ops (liftQ n Q) X G a w:=by
 have v:∀(G:Array Bool),G.size=ops.size->Region.ready .any ops G=[]->∀i,i<ops.size->G.getD i true=true:=by
  intro G y c i
  induction i using Nat.strongRecOn with
  |ind i ih=>
   intro H;cases hl:G.getD i true with
   |true=>rfl
   |false=>
    exfalso;have r:ops[i]?=some ops[i]:=Array.getElem?_eq_getElem H
    have:i∈Region.ready .any ops G:=by
     refine mem_ready.2 ⟨hl,_,r,fun e d S=>?_⟩;have h:=m i _ r e d;have:=ih e.on h U;rw[Array.getD_eq_getD_getElem?,Array.getElem?_eq_getElem U]at this⊢;exact this
    rw[c]at this;cases this
 have s:∀(G:Array Bool)(a:Act)(w:World),G.size=ops.size->a.tmps.size=n->Inv (fun i=>G.getD i true) (Ca a) a.defers w->Region.ready .any ops G=[]->liftQ n Q .normal a w:=
  fun G a w y I z c=>⟨I,D _ _ _ _ z (fun i H=>v G y c i H)⟩
 intro X
 induction X with
 |zero=>
  intro G a w y T I z
  have c:Region.ready .any ops G=[]:=by
   cases hrd:Region.ready .any ops G with
   |nil=>rfl
   |cons j t=>
    exfalso;obtain⟨R,oj,a2,_⟩:=mem_ready.1 (show j∈Region.ready .any ops G by rw[hrd];simp);have a0:j<ops.size:=(Array.getElem?_eq_some_iff.1 a2).1;have hm:j∈(List.range ops.size).filter fun i=> !G.getD i true:=List.mem_filter.2 ⟨List.mem_range.2 a0,by rw[R];rfl⟩;have:=List.length_pos_of_mem hm;omega
  exact⟨c,s G a w y I z c⟩
 |succ X ih=>
  intro G a w y T I z;refine⟨s G a w y I z,fun i H=>?_⟩;obtain⟨k,g,F,M⟩:=mem_ready.1 H;have E:i<ops.size:=(Array.getElem?_eq_some_iff.1 F).1;have N:opOk n rr.isSome g=true:=List.all_eq_true.1 a3 g (by simpa using Array.mem_of_getElem? F)
  have a4:∀e∈g.after,Region.binds .any e=true->G.getD e.on true=true:=fun e d S=>by
   have Z:=M e d S;have h:=m i _ F e d;rw[Array.getD_eq_getD_getElem?,Array.getElem?_eq_getElem U]at Z⊢;exact Z
  have a5:=a6 _ _ _ _ i g z F k a4;refine wpOp_of_WOps F I N ?_ a5;intro u w' a1 K
  have B:(fun j=>(G.setIfInBounds i true).getD j true)=fun j=>j==i||G.getD j true:=by
   funext j
   by_cases C:j=i
   ·subst C;rw[Array.getD_eq_getD_getElem?,Array.getElem?_setIfInBounds_self,if_pos U];simp
   ·rw[Array.getD_eq_getD_getElem?,Array.getElem?_setIfInBounds_ne (Ne.symm C),<-Array.getD_eq_getD_getElem?];simp[C]
  refine ih (G.setIfInBounds i true) u w' (by simp[y]) ?_ a1 (by rw[B];exact K)
  have h:=filter_lt (p:=fun j=> !G.getD j true) (q:=fun j=> !(G.setIfInBounds i true).getD j true) (j:=i) (fun x V=>by
   have W:(G.setIfInBounds i true).getD x true=(x==i||G.getD x true):=congrFun B x;rw[W]at V;simp only[Bool.not_eq_true',Bool.or_eq_false_iff]at V⊢;exact V.2) (by rw[k];rfl) (by have W:(G.setIfInBounds i true).getD i true=(i==i||G.getD i true):=congrFun B i;rw[W];simp) (List.mem_range.2 E)
  omega
def quietQ(Q:DD):DD:=fun e f F w=>match e with
 | .normal=>Q .normal f F w
 |_=>False
theorem C_inv{n:Cf}{Q:DD}{id:Nat}{l:List Oper}{f:Fr}{ds:DS}{w:World}(Inv:(Nat->Bool)->Fr->DS->World->Prop)(s:P.follows .mixedOrders=true)(T:(l.all (opOk n.n n.r.isSome)&&backB l)=true)
  (z:∀d,Ext w d->d.heap=w.heap->Inv (fun i=> !Nat.blt i l.length) f ds d)
  (k:∀(L:Nat->Bool)(f:Fr)(ds:DS)(w:World)(i:Nat)(o:Oper),Inv L f ds w->l[i]?=some o->L i=false->(∀e∈o.after.toList,Region.binds .any e=true->L e.on=true)->
   AT P l.toArray (fun _ _ _ _=>False) (fun g b w'=>Inv (fun j=>j==i||L j) g b w') [o] f ds w)
  (p:∀(L:Nat->Bool)(f:Fr)(ds:DS)(w:World),Inv L f ds w->(∀i,i<l.length->L i=true)->Q .normal f ds w):WC P n (.region id l.toArray true) Q f ds w:=by
 simp only[Bool.and_eq_true]at T;rintro a I rfl rfl;refine wpIn_mono (Q:=liftQ n.n (quietQ Q)) (wpIn_region_any s ?_) ?_
 ·refine wpAny_inv (P:=P) (Q:=quietQ Q) (Inv:=Inv) (ops:=l.toArray) (rr:=n.r) T.1 (fun i o h e c=>backB_at T.2 Ed e c) (fun L f ds w i o Z W R B=>k L f ds w i o Z (by simpa using W) R (fun e c=>B e (by simpa using c))) (fun L f ds w Z W=>p L f ds w Z (fun i H=>W i Es)) _ _ a _ O ?_ I ?_
  ·exact Nat.le_trans (List.length_filter_le _ _) O
  ·have:=z {w with drawn:=w.drawn+1} ⟨rfl,rfl,rfl,Nat.le_refl _,fun _ _ _=>rfl,fun _=>mark_heap rfl,Nat.le_succ _⟩ rfl
   have e:(fun i=>(Array.replicate l.toArray.size false).getD i true)=fun i=> !Nat.blt i l.length:=by
    funext i
    rw[Array.getD_eq_getD_getElem?,Array.getElem?_replicate];by_cases H:i<l.length
    ·simp[H]
    ·have S:Nat.blt i l.length=false:=by rw[Bool.eq_false_iff,ne_eq,Nat.blt_eq];exact H
     simp[H,S]
   rw[e];exact this
 ·intro e a w K;obtain⟨Z,W⟩:=K;cases e with
  |normal=>exact⟨Z,W⟩
  |_=>exact W.elim
end
section
variable {mk:Prop}[MK mk]
def Ct(s:Sty):LV:=[AL s.sign,iV (s.level:Int),iV (s.first:Int),iV (s.next:Int),iV (s.least:Int),iV (s.most:Int),iV (s.val:Int),iV (s.bound:Int),iV (s.usual:Int)]
def Bu(s:Sty):Value:=.agg (Ct s).toArray
theorem styC_one(s:Sty):oneC (Ct s):=by
 intro u g;simp only[Ct,List.mem_cons,List.not_mem_nil,or_false]at g;rcases g with rfl|rfl|rfl|rfl|rfl|rfl|rfl|rfl|rfl<;>rfl
def pfx:Sty:=⟨[],4,4,0,1,1,0,0,0⟩
def ifx:Sty:=⟨[],3,4,3,2,2,0,0,0⟩
def styK(k:Nat):Sty:=((styL.map (·.2))[k-1]?).getD pfx
def Aw(k:Nat):Value:=Bu (styK k)
def fn1:Value:=.func (.func 156) #[] #[]
def fn2:Value:=.func (.func 157) #[] #[]
def fn3:Value:=.func (.func 158) #[] #[]
def sty0:LV:=[AL [],iV 0,iV 0,iV 0,iV 0,iV 0,iV 0,iV 0,iV 0]
instance :VMapT Zp 157 (.agg sty0.toArray):=vmapT_of Tryz.underlying157 Tryz.underlying3 EO
theorem EM(w:World)(s:Sty)(g:LU):Fn Zp 156 [Bu s,AL g] w fun v w'=>v=Bu {s with sign:=g}/\Ext w w':=by
 refine AN Tryz.func156 rfl Tryz.ntmps156 (go ?_);refine A3 (L:=Ct s) rfl (fun Q A=>?_);refine AY (fun N W=>?_);have b1:=A.D.E W.E O;have b2:Blk N Q.heap.size 163 sty0:=W.D;have m:=A.size;refine go ?_;refine AU rfl rfl rfl b1 (by simp[Ct]) (fun z a=>?_);have d:Blk z w.heap.size 163 (Ct {s with sign:=g}):=a.D;have b:=b2.E a.E EP;refine go ?_;refine AI (cs:=Ct {s with sign:=g}) rfl rfl rfl (styC_one _) b (by simp[sty0,Ct]) (fun c p=>?_);have t:Blk c Q.heap.size 163 (Ct {s with sign:=g}):=p.D;refine go ?_;exact AW rfl rfl rfl t.cells ⟨rfl,((A.E.trans W.E).E a.E O).E p.E EP⟩
theorem bounded_ok(w:World)(s:Sty)(g:LU):Fn Zp 158 [Bu s,AL g] w fun v w'=>v=Bu {s with sign:=g,bound:=9999}/\Ext w w':=by
 refine AN Tryz.func158 rfl Tryz.ntmps158 (go ?_);refine A3 (L:=Ct s) rfl (fun Q A=>?_);refine AY (fun N W=>?_);have b1:=A.D.E W.E O;have b2:Blk N Q.heap.size 163 sty0:=W.D;have m:=A.size;refine go ?_;refine AU rfl rfl rfl b1 (by simp[Ct]) (fun d a=>?_);have z:Blk d w.heap.size 163 (Ct {s with sign:=g}):=a.D;refine go ?_;refine AU rfl rfl rfl z (by simp[Ct]) (fun e p=>?_);have t:Blk e w.heap.size 163 (Ct {s with sign:=g,bound:=9999}):=p.D;have c:=(b2.E a.E EP).E p.E EP;refine go ?_;refine AI (cs:=Ct {s with sign:=g,bound:=9999}) rfl rfl rfl (styC_one _) c (by simp[sty0,Ct]) (fun h b=>?_);have j:Blk h Q.heap.size 163 (Ct {s with sign:=g,bound:=9999}):=b.D;refine go ?_;exact AW rfl rfl rfl j.cells ⟨rfl,(((A.E.trans W.E).E a.E O).E p.E O).E b.E EP⟩
theorem valued_ok(w:World)(s:Sty)(g:LU)(m u:Nat):Fn Zp 157 [Bu s,AL g,iV (m:Int),iV (u:Int)] w fun v w'=>v=Bu {s with sign:=g,val:=m,usual:=u}/\Ext w w':=by
 refine AN Tryz.func157 rfl Tryz.ntmps157 (go ?_);refine A3 (L:=Ct s) rfl (fun Q A=>?_);refine AY (fun N W=>?_);have b1:=A.D.E W.E O;have b2:Blk N Q.heap.size 163 sty0:=W.D;have k:=A.size;refine go ?_;refine AU rfl rfl rfl b1 (by simp[Ct]) (fun e a=>?_);have z:Blk e w.heap.size 163 (Ct {s with sign:=g}):=a.D;refine go ?_;refine AU rfl rfl rfl z (by simp[Ct]) (fun h p=>?_);have t:Blk h w.heap.size 163 (Ct {s with sign:=g,val:=m}):=p.D;refine go ?_;refine AU rfl rfl rfl t (by simp[Ct]) (fun i b=>?_);have j:Blk i w.heap.size 163 (Ct {s with sign:=g,val:=m,usual:=u}):=b.D;have d:=((b2.E a.E EP).E p.E EP).E b.E EP;refine go ?_;refine AI (cs:=Ct {s with sign:=g,val:=m,usual:=u}) rfl rfl rfl (styC_one _) d (by simp[sty0,Ct]) (fun x n=>?_);have c:Blk x Q.heap.size 163 (Ct {s with sign:=g,val:=m,usual:=u}):=n.D;refine go ?_;exact AW rfl rfl rfl c.cells ⟨rfl,((((A.E.trans W.E).E a.E O).E p.E O).E b.E O).E n.E EP⟩
def valT:List (Nat×Nat×Value):=[(1,9,Aw 1),(3,10,Aw 2),(5,11,Aw 3),(7,12,fn1),(8,13,Bu pfx),(9,14,Aw 4),(11,15,Aw 5),(13,16,Aw 6),(15,17,Aw 7),(17,18,fn1),(18,19,Bu pfx),(19,20,Aw 8),(21,21,fn1),(22,22,Bu ifx),(23,23,Aw 9),(25,24,fn1),(26,25,Bu ifx),(27,26,Aw 10),(29,27,fn1),(30,28,Bu pfx),(31,29,Aw 11),(33,30,fn1),(34,31,Bu pfx),(35,32,Aw 12),(37,33,fn3),(38,34,Bu pfx),(39,35,Aw 13),(41,36,fn3),(42,37,Bu pfx),(43,38,Aw 14),(45,39,fn2),(46,40,Bu pfx),(47,41,Aw 15),(49,42,fn2),(50,43,Bu ifx),(51,44,Aw 16),(53,45,fn2),(54,46,Bu ifx),(55,47,Aw 17),(57,48,fn1),(58,49,Bu pfx),(59,50,Aw 18),(61,51,fn1),(62,52,Bu pfx),(63,53,Aw 19)]
def insT:List (Nat×Int×Value):=[(2,1,Aw 1),(4,2,Aw 2),(6,3,Aw 3),(10,4,Aw 4),(12,5,Aw 5),(14,6,Aw 6),(16,7,Aw 7),(20,8,Aw 8),(24,9,Aw 9),(28,10,Aw 10),(32,11,Aw 11),(36,12,Aw 12),(40,13,Aw 13),(44,14,Aw 14),(48,15,Aw 15),(52,16,Aw 16),(56,17,Aw 17),(60,18,Aw 18),(64,19,Aw 19)]
def vOps:List Nat:=valT.map (·.1)
def vSlots:List Nat:=valT.map (·.2.1)
def iOps:List Nat:=insT.map (·.1)
theorem v_ops:∀p∈valT,p.1<67/\p.1≠0/\p.1≠65/\p.1≠66/\p.1∉iOps:=by
 have h:(vOps.all fun i=>Nat.blt i 67&&i !=0&&i !=65&&i !=66&& !iOps.contains i)=true:=by kernel_rfl
 intro p y;have:=List.all_eq_true.1 h p.1 (List.mem_map.2 ⟨p,y,rfl⟩);simpa[Nat.blt_eq,and_assoc]using this
theorem v_slots:∀p∈valT,8<p.2.1/\p.2.1<54:=by
 have h:(vSlots.all fun i=>Nat.blt 8 i&&Nat.blt i 54)=true:=by kernel_rfl
 intro p y;have:=List.all_eq_true.1 h p.2.1 (List.mem_map.2 ⟨p,y,rfl⟩);simpa[Nat.blt_eq]using this
theorem i_ops:∀p∈insT,p.1<67/\p.1≠0/\p.1≠65/\p.1≠66/\p.1∉vOps:=by
 have h:(iOps.all fun i=>Nat.blt i 67&&i !=0&&i !=65&&i !=66&& !vOps.contains i)=true:=by kernel_rfl
 intro p y;have:=List.all_eq_true.1 h p.1 (List.mem_map.2 ⟨p,y,rfl⟩);simpa[Nat.blt_eq,and_assoc]using this
theorem nodup_of{l:List Nat}(h:(l.zipIdx.all fun x=>l.zipIdx.all fun y=>Nat.beq x.2 y.2|| !Nat.beq x.1 y.1)=true){i j:Nat}{a:Nat}(H:l[i]?=some a)(T:l[j]?=some a):i=j:=by
 have Z:=List.all_eq_true.1 h (a,i) (List.mem_zipIdx_iff_getElem?.2 Es);have W:=List.all_eq_true.1 Z (a,j) (List.mem_zipIdx_iff_getElem?.2 (by simpa using T));simpa using W
theorem uniq_of{α:Type}{l:List α}{g:α->Nat}(h:(((l.map g).zipIdx).all fun x=>(l.map g).zipIdx.all fun y=>Nat.beq x.2 y.2|| !Nat.beq x.1 y.1)=true){p q:α}(b:p∈l)(K:q∈l)(e:g p=g q):p=q:=by
 obtain⟨i,H⟩:=List.getElem?_of_mem b;obtain⟨j,T⟩:=List.getElem?_of_mem K;have:=nodup_of h (i:=i) (j:=j) (a:=g p) (by rw[List.getElem?_map,H];rfl) (by rw[List.getElem?_map,T,e];rfl);subst this;rw[H]at T;exact Option.some.inj T
theorem v_uop{p q:Nat×Nat×Value}(y:p∈valT)(K:q∈valT)(e:p.1=q.1):p=q:=uniq_of (g:=(·.1)) EO y K e
theorem v_uslot{p q:Nat×Nat×Value}(y:p∈valT)(K:q∈valT)(e:p.2.1=q.2.1):p=q:=uniq_of (g:=(·.2.1)) EO y K e
theorem i_uop{p q:Nat×Int×Value}(y:p∈insT)(K:q∈insT)(e:p.1=q.1):p=q:=uniq_of (g:=(·.1)) EO y K e
theorem i_ukey{p q:Nat×Int×Value}(y:p∈insT)(K:q∈insT)(e:p.2.1=q.2.1):p=q:=uniq_of (g:=fun x=>x.2.1.toNat) EO y K (congrArg Int.toNat e)
structure StyInv(b1 b2:Nat)(wd:World)(ds0:DS)(L:Nat->Bool)(f:Fr)(ds:DS)(w:World):Prop where
 ds:ds=ds0
 ext:Ext wd w
 p1:f 1=.pointer (sm b1)
 p2:f 2=.pointer (sm b2)
 p3:f 3=fn1
 p4:f 4=fn2
 p5:f 5=fn3
 vals:∀p∈valT,L p.1=true->f p.2.1=p.2.2
 ord:∀p∈insT,L p.1=true->L 0=true
 map:L 0=true->∃r M,f 8=.map (some r)/\wd.heap.size<=r/\VMap w r M/\∀k v,(k,v)∈M↔∃p∈insT,L p.1=true/\k=p.2.1/\v=p.2.2
 ord65:L 65=true->L 0=true
 l65:L 65=true->f 54=f 8
 l66:L 66=true->f 0=f 8/\L 65=true
theorem upd_at(f:Fr)(d:Nat)(v:Value):upd f d v d=v:=by simp[upd]
theorem Bj{f:Fr}{d j:Nat}{v:Value}(h:j≠d):upd f d v j=f j:=by
 have:Nat.beq j d=false:=by rw[Bool.eq_false_iff,ne_eq,Nat.beq_eq];exact h
 simp[upd,this]
section
variable {b1 b2:Nat}{wd w w':World}{ds0 ds:DS}{L:Nat->Bool}{f:Fr}
theorem DP{i j:Nat}(h:j≠i):(j==i||L j)=L j:=by simp[h]
theorem or_at(i:Nat):(i==i||L i)=true:=by simp
theorem Aq{p:Nat×Nat×Value}(h:StyInv b1 b2 wd ds0 L f ds w)(y:p∈valT)(k:Ext w w'):StyInv b1 b2 wd ds0 (fun j=>j==p.1||L j) (upd f p.2.1 p.2.2) ds w':=by
 obtain⟨n,T,I,o,m⟩:=v_ops p y;obtain⟨d,s⟩:=v_slots p y;have A:∀q∈insT,q.1≠p.1:=fun q c e=>m (List.mem_map.2 ⟨q,c,e⟩);refine⟨h.ds,h.ext.trans k,by rw[Bj U];exact h.p1,by rw[Bj U];exact h.p2,by rw[Bj U];exact h.p3,by rw[Bj U];exact h.p4,by rw[Bj U];exact h.p5,?_,?_,?_,?_,?_,?_⟩
 ·intro q c K;by_cases e:q.1=p.1
  ·rw[v_uop c y e,upd_at]
  ·rw[Bj (fun i=>e (by rw[v_uslot c y i]))];exact h.vals q c (by rw[DP e]at K;exact K)
 ·intro q c K;rw[DP (A q c)]at K;show(0==p.1||L 0)=true;rw[DP (Ne.symm T)];exact h.ord q c K
 ·intro K;rw[DP (Ne.symm T)]at K;obtain⟨r,M,b,i,l,g⟩:=h.map K;refine⟨r,M,by rw[Bj U];exact b,i,l.E k O,fun a v=>?_⟩;rw[g];constructor
  ·rintro⟨q,c,Z,W⟩;exact⟨q,c,by rw[DP (A q c)];exact Z,W⟩
  ·rintro⟨q,c,Z,W⟩;rw[DP (A q c)]at Z;exact⟨q,c,Z,W⟩
 ·intro K;rw[DP (Ne.symm I)]at K;show(0==p.1||L 0)=true;rw[DP (Ne.symm T)];exact h.ord65 K
 ·intro K;rw[DP (Ne.symm I)]at K;rw[Bj U,Bj U];exact h.l65 K
 ·intro K;rw[DP (Ne.symm o)]at K;rw[Bj U,Bj U,DP (Ne.symm I)];exact h.l66 K
theorem styInv_make(h:StyInv b1 b2 wd ds0 L f ds w)(k:Ext w w')(m:VMap w' w.heap.size [])(t:L 0=false):StyInv b1 b2 wd ds0 (fun j=>j==0||L j) (upd f 8 (.map (some w.heap.size))) ds w':=by
 have c:∀q∈insT,L q.1=false:=fun q b=>by
  cases K:L q.1 with
  |false=>rfl
  |true=>rw[h.ord q b K]at t;cases t
 refine⟨h.ds,h.ext.trans k,by rw[Bj U];exact h.p1,by rw[Bj U];exact h.p2,by rw[Bj U];exact h.p3,by rw[Bj U];exact h.p4,by rw[Bj U];exact h.p5,?_,?_,?_,fun _=>or_at 0,?_,?_⟩
 ·intro q b K;obtain⟨e,T,_⟩:=v_ops q b;obtain⟨d,M⟩:=v_slots q b;rw[Bj U];exact h.vals q b (by rw[DP T]at K;exact K)
 ·intro q b K;exact or_at 0
 ·intro K;refine⟨w.heap.size,[],upd_at _ _ _,h.ext.size,m,fun a v=>⟨fun h=>Eh,?_⟩⟩;rintro⟨q,b,Z,W⟩;obtain⟨e,T,_⟩:=i_ops q b;rw[DP T,c q b]at Z;cases Z
 ·intro K;rw[DP U]at K;rw[h.ord65 K]at t;cases t
 ·intro K;rw[DP U]at K;rw[h.ord65 (h.l66 K).2]at t;cases t
theorem StyInv.none{q:Nat×Int×Value}{M:List (Int×Value)}(h:StyInv b1 b2 wd ds0 L f ds w)(a:q∈insT)(K:L q.1=false)(s:∀k v,(k,v)∈M↔∃p∈insT,L p.1=true/\k=p.2.1/\v=p.2.2):M.lookup q.2.1=none:=by
 refine vlookup_none fun p y e=>?_;obtain⟨x,V,Z,W,_⟩:=(s p.1 p.2).1 y;rw[i_ukey V a (by rw[<-W,e]),K]at Z;cases Z
theorem BZ{q:Nat×Int×Value}{r:Nat}{M:List (Int×Value)}(h:StyInv b1 b2 wd ds0 L f ds w)(b:q∈insT)(G:f 8=.map (some r))(o:wd.heap.size<=r)(s:∀k v,(k,v)∈M↔∃p∈insT,L p.1=true/\k=p.2.1/\v=p.2.2)
  (k:Keep [r] w w')(m:VMap w' r (M++[(q.2.1,q.2.2)]))(t:L 0=true):StyInv b1 b2 wd ds0 (fun j=>j==q.1||L j) f ds w':=by
 obtain⟨l,T,I,g,i⟩:=i_ops q b;have d:∀p∈valT,p.1≠q.1:=fun p y e=>i (List.mem_map.2 ⟨p,y,e⟩);have c:(0==q.1||L 0)=true:=by rw[t];simp
 refine⟨h.ds,h.ext.E k (by simpa using o),h.p1,h.p2,h.p3,h.p4,h.p5,?_,fun _ _ _=>c,?_,fun _=>c,?_,?_⟩
 ·intro p y K;rw[DP (d p y)]at K;exact h.vals p y K
 ·intro _;refine⟨r,_,G,o,m,fun a v=>?_⟩;rw[List.mem_append,s];constructor
  ·rintro(⟨p,y,Z,W,R⟩|Z)
   ·exact⟨p,y,by rw[Z];simp,W,R⟩
   ·simp only[List.mem_singleton,Prod.mk.injEq]at Z;exact⟨q,b,or_at _,Z.1,Z.2⟩
  ·rintro⟨p,y,Z,W,R⟩;by_cases e:p.1=q.1
   ·have:=i_uop y b e;subst this;right;simp[W,R]
   ·rw[DP e]at Z;exact .inl ⟨p,y,Z,W,R⟩
 ·intro K;rw[DP (Ne.symm I)]at K;exact h.l65 K
 ·intro K;rw[DP (Ne.symm g)]at K;rw[DP (Ne.symm I)];exact h.l66 K
theorem styInv_65(h:StyInv b1 b2 wd ds0 L f ds w)(t:L 0=true):StyInv b1 b2 wd ds0 (fun j=>j==65||L j) (upd f 54 (f 8)) ds w:=by
 refine⟨h.ds,h.ext,by rw[Bj U];exact h.p1,by rw[Bj U];exact h.p2,by rw[Bj U];exact h.p3,by rw[Bj U];exact h.p4,by rw[Bj U];exact h.p5,?_,?_,?_,?_,?_,?_⟩
 ·intro q K c;obtain⟨k,T,I,_⟩:=v_ops q K;obtain⟨d,l⟩:=v_slots q K;rw[Bj U];exact h.vals q K (by rw[DP I]at c;exact c)
 ·intro q K c;rw[t];rfl
 ·intro _;obtain⟨r,M,b,e,i,g⟩:=h.map t;refine⟨r,M,by rw[Bj U];exact b,e,i,fun a v=>?_⟩;rw[g];constructor
  ·rintro⟨q,K,Z,W⟩;exact⟨q,K,by rw[Z];simp,W⟩
  ·rintro⟨q,K,Z,W⟩;obtain⟨_,_,I,_⟩:=i_ops q K;rw[DP I]at Z;exact⟨q,K,Z,W⟩
 ·intro _;rw[t];rfl
 ·intro _;rw[upd_at,Bj U]
 ·intro c;rw[DP U]at c;rw[Bj U,Bj U];exact⟨(h.l66 c).1,or_at 65⟩
theorem styInv_66(h:StyInv b1 b2 wd ds0 L f ds w)(z:L 65=true):StyInv b1 b2 wd ds0 (fun j=>j==66||L j) (upd f 0 (f 54)) ds w:=by
 have t:=h.ord65 z;refine⟨h.ds,h.ext,by rw[Bj U];exact h.p1,by rw[Bj U];exact h.p2,by rw[Bj U];exact h.p3,by rw[Bj U];exact h.p4,by rw[Bj U];exact h.p5,?_,?_,?_,?_,?_,?_⟩
 ·intro q K c;obtain⟨i,T,k,o,_⟩:=v_ops q K;obtain⟨d,l⟩:=v_slots q K;rw[Bj U];exact h.vals q K (by rw[DP o]at c;exact c)
 ·intro q K c;rw[t];rfl
 ·intro _;obtain⟨r,M,b,e,I,g⟩:=h.map t;refine⟨r,M,by rw[Bj U];exact b,e,I,fun a v=>?_⟩;rw[g];constructor
  ·rintro⟨q,K,Z,W⟩;exact⟨q,K,by rw[Z];simp,W⟩
  ·rintro⟨q,K,Z,W⟩;obtain⟨_,_,_,o,_⟩:=i_ops q K;rw[DP o]at Z;exact⟨q,K,Z,W⟩
 ·intro _;rw[t];rfl
 ·intro _;rw[Bj U,Bj U];exact h.l65 z
 ·intro c;rw[upd_at,Bj U,h.l65 z,z];exact⟨rfl,by simp⟩
end
section
attribute [local semireducible] WC AT B6 BK Bz Cx DZ By
variable {P:Program}{all:Array Oper}{Z:Fr->DS->List PanicEntry->World->Prop}{K:Fr->DS->World->Prop}{rest:List Oper}{f:Fr}{ds:DS}{w:World}{d:Nat}{ty:TypeId}{pos:String}{af:Array Edge}
theorem DJ{x:Operand}{v:Value}(V:ev f x=v)(h:AT P all Z K rest (upd f d v) ds w):AT P all Z K (⟨some d,.move x,ty,pos,af,none⟩::rest) f ds w:=by
 subst V;exact Cq h
theorem C3{x:Operand}{l:List Operand}{v:Value}{vs:LV}(h:ev f x=v)(T:evL f l=vs):evL f (x::l)=v::vs:=by
 subst h;subst T;rfl
end
theorem Al{o:Oper}{L:Nat->Bool}{j:Nat}(h:(o.after.toList.any fun e=>Nat.beq e.on j&&Region.binds .any e)=true)(k:∀e∈o.after.toList,Region.binds .any e=true->L e.on=true):L j=true:=by
 obtain⟨e,a,W⟩:=List.any_eq_true.1 h;simp only[Bool.and_eq_true]at W;have R:e.on=j:=Nat.eq_of_beq_eq_true W.1;rw[<-R];exact k e a W.2
theorem ins_sty:∀p∈insT,(Cb p.2.1).map Bu=some p.2.2:=by
 intro p y;simp only[insT,List.mem_cons,List.not_mem_nil,or_false]at y;rcases y with rfl|rfl|rfl|rfl|rfl|rfl|rfl|rfl|rfl|rfl|rfl|rfl|rfl|rfl|rfl|rfl|rfl|rfl|rfl<;>rfl
theorem sty_ins{op:Int}{s:Sty}(h:Cb op=some s):∃p∈insT,p.2.1=op:=by
 rcases op_cases h with rfl|rfl|rfl|rfl|rfl|rfl|rfl|rfl|rfl|rfl|rfl|rfl|rfl|rfl|rfl|rfl|rfl|rfl|rfl
 ·exact⟨(2,1,Aw 1),by simp[insT],rfl⟩
 ·exact⟨(4,2,Aw 2),by simp[insT],rfl⟩
 ·exact⟨(6,3,Aw 3),by simp[insT],rfl⟩
 ·exact⟨(10,4,Aw 4),by simp[insT],rfl⟩
 ·exact⟨(12,5,Aw 5),by simp[insT],rfl⟩
 ·exact⟨(14,6,Aw 6),by simp[insT],rfl⟩
 ·exact⟨(16,7,Aw 7),by simp[insT],rfl⟩
 ·exact⟨(20,8,Aw 8),by simp[insT],rfl⟩
 ·exact⟨(24,9,Aw 9),by simp[insT],rfl⟩
 ·exact⟨(28,10,Aw 10),by simp[insT],rfl⟩
 ·exact⟨(32,11,Aw 11),by simp[insT],rfl⟩
 ·exact⟨(36,12,Aw 12),by simp[insT],rfl⟩
 ·exact⟨(40,13,Aw 13),by simp[insT],rfl⟩
 ·exact⟨(44,14,Aw 14),by simp[insT],rfl⟩
 ·exact⟨(48,15,Aw 15),by simp[insT],rfl⟩
 ·exact⟨(52,16,Aw 16),by simp[insT],rfl⟩
 ·exact⟨(56,17,Aw 17),by simp[insT],rfl⟩
 ·exact⟨(60,18,Aw 18),by simp[insT],rfl⟩
 ·exact⟨(64,19,Aw 19),by simp[insT],rfl⟩
def StyM(w:World)(r:Nat):Prop:=∃M,VMap w r M/\∀a,M.lookup a=(Cb a).map Bu
theorem StyM.E{X:List Nat}{w w':World}{r:Nat}(h:StyM w r)(k:Keep X w w')(G:r∉X):StyM w' r:=by
 obtain⟨M,a,W⟩:=h;exact⟨M,a.E k G,W⟩
set_option maxHeartbeats 6400000 in
set_option maxRecDepth 20000 in
theorem styles_ok(w:World):Fn Zp 102 [] w fun v w'=>∃r,v=.map (some r)/\Ext w w'/\w.heap.size<=r/\StyM w' r:=by
 refine AN Tryz.func102 rfl Tryz.ntmps102 (go ?_);refine A2 (cs:=Ct pfx) rfl rfl EQ (styC_one _) (fun Q n1=>AA (go ?_));refine A2 (cs:=Ct ifx) rfl rfl EQ (styC_one _) (fun N T=>AA (go ?_));have X:Ext w N:=n1.E.trans T.E;have F:Blk N w.heap.size 163 (Ct pfx):=n1.D.E T.E O;have B2:Blk N Q.heap.size 163 (Ct ifx):=T.D;refine C_inv (StyInv w.heap.size Q.heap.size N []) Ap EO ?_ ?_ ?_
 ·intro w3 k3 I;refine⟨rfl,k3,rfl,rfl,rfl,rfl,rfl,fun p C c=>?_,fun p C c=>?_,fun c=>(by cases c),fun c=>(by cases c),fun c=>(by cases c),fun c=>(by cases c)⟩
  ·have:=(v_ops p C).1;have S:Nat.blt p.1 67=true:=by rw[Nat.blt_eq];exact this
   have c:(!Nat.blt p.1 67)=true:=c;rw[S]at c;cases c
  ·have:=(i_ops p C).1;have S:Nat.blt p.1 67=true:=by rw[Nat.blt_eq];exact this
   have c:(!Nat.blt p.1 67)=true:=c;rw[S]at c;cases c
 ·intro L f ds w i o z a c b;have B:Blk N _ 163 (Ct pfx):=F;have E:Blk N _ 163 (Ct ifx):=B2;have a1:i<67:=(List.getElem?_eq_some_iff.1 a).1
  match i,a1,a,c,b with
  |0,_,a,c,b=>
   obtain rfl:=Option.some.inj a;refine W_makeMapV (fun Q h m R=>AA ?_);exact styInv_make z h R c
  |1,_,a,c,b=>
   obtain rfl:=Option.some.inj a;refine BO (vs:=_) (out:=Ct (styK 1)) rfl EO (go ?_);exact Aq (p:=(1,9,Aw 1)) z EU (Ext.refl _)
  |2,_,a,c,b=>
   obtain rfl:=Option.some.inj a;have t:L 0=true:=Al (j:=0) EO b;have l:L 1=true:=Al (j:=1) EO b;obtain⟨r,M,G,u,A,n⟩:=z.map t;refine A6 (x:=1) (y:=Aw 1) G rfl (z.vals (1,9,Aw 1) EU l) A (z.none (q:=(2,1,Aw 1)) EX c n) (fun Q h m R=>AA ?_);exact BZ (q:=(2,1,Aw 1)) z EX G u n h R t
  |3,_,a,c,b=>
   obtain rfl:=Option.some.inj a;refine BO (vs:=_) (out:=Ct (styK 2)) rfl EO (go ?_);exact Aq (p:=(3,10,Aw 2)) z EU (Ext.refl _)
  |4,_,a,c,b=>
   obtain rfl:=Option.some.inj a;have t:L 0=true:=Al (j:=0) EO b;have l:L 3=true:=Al (j:=3) EO b;obtain⟨r,M,G,u,A,n⟩:=z.map t;refine A6 (x:=2) (y:=Aw 2) G rfl (z.vals (3,10,Aw 2) EU l) A (z.none (q:=(4,2,Aw 2)) EX c n) (fun Q h m R=>AA ?_);exact BZ (q:=(4,2,Aw 2)) z EX G u n h R t
  |5,_,a,c,b=>
   obtain rfl:=Option.some.inj a;refine BO (vs:=_) (out:=Ct (styK 3)) rfl EO (go ?_);exact Aq (p:=(5,11,Aw 3)) z EU (Ext.refl _)
  |6,_,a,c,b=>
   obtain rfl:=Option.some.inj a;have t:L 0=true:=Al (j:=0) EO b;have l:L 5=true:=Al (j:=5) EO b;obtain⟨r,M,G,u,A,n⟩:=z.map t;refine A6 (x:=3) (y:=Aw 3) G rfl (z.vals (5,11,Aw 3) EU l) A (z.none (q:=(6,3,Aw 3)) EX c n) (fun Q h m R=>AA ?_);exact BZ (q:=(6,3,Aw 3)) z EX G u n h R t
  |7,_,a,c,b=>
   obtain rfl:=Option.some.inj a;refine DJ (v:=fn1) z.p3 (go ?_);exact Aq (p:=(7,12,fn1)) z EU (Ext.refl _)
  |8,_,a,c,b=>
   obtain rfl:=Option.some.inj a;refine A8 z.p1 (B.E z.ext O) rfl (go ?_);exact Aq (p:=(8,13,Bu pfx)) z EU (Ext.refl _)
  |9,_,a,c,b=>
   obtain rfl:=Option.some.inj a;have l:L 7=true:=Al (j:=7) EO b;have W:L 8=true:=Al (j:=8) EO b;refine A9 (v1:=[]) (v2:=[]) (vs:=[Bu pfx,AL [33]]) (z.vals (7,12,fn1) EU l) (EM w pfx _) (C3 (z.vals (8,13,Bu pfx) EU W) rfl) ?_;rintro _ Q⟨rfl,h⟩;refine go ?_;exact Aq (p:=(9,14,Aw 4)) z EU h
  |10,_,a,c,b=>
   obtain rfl:=Option.some.inj a;have t:L 0=true:=Al (j:=0) EO b;have l:L 9=true:=Al (j:=9) EO b;obtain⟨r,M,G,u,A,n⟩:=z.map t;refine A6 (x:=4) (y:=Aw 4) G rfl (z.vals (9,14,Aw 4) EU l) A (z.none (q:=(10,4,Aw 4)) EX c n) (fun Q h m R=>AA ?_);exact BZ (q:=(10,4,Aw 4)) z EX G u n h R t
  |11,_,a,c,b=>
   obtain rfl:=Option.some.inj a;refine BO (vs:=_) (out:=Ct (styK 5)) rfl EO (go ?_);exact Aq (p:=(11,15,Aw 5)) z EU (Ext.refl _)
  |12,_,a,c,b=>
   obtain rfl:=Option.some.inj a;have t:L 0=true:=Al (j:=0) EO b;have l:L 11=true:=Al (j:=11) EO b;obtain⟨r,M,G,u,A,n⟩:=z.map t;refine A6 (x:=5) (y:=Aw 5) G rfl (z.vals (11,15,Aw 5) EU l) A (z.none (q:=(12,5,Aw 5)) EX c n) (fun Q h m R=>AA ?_);exact BZ (q:=(12,5,Aw 5)) z EX G u n h R t
  |13,_,a,c,b=>
   obtain rfl:=Option.some.inj a;refine BO (vs:=_) (out:=Ct (styK 6)) rfl EO (go ?_);exact Aq (p:=(13,16,Aw 6)) z EU (Ext.refl _)
  |14,_,a,c,b=>
   obtain rfl:=Option.some.inj a;have t:L 0=true:=Al (j:=0) EO b;have l:L 13=true:=Al (j:=13) EO b;obtain⟨r,M,G,u,A,n⟩:=z.map t;refine A6 (x:=6) (y:=Aw 6) G rfl (z.vals (13,16,Aw 6) EU l) A (z.none (q:=(14,6,Aw 6)) EX c n) (fun Q h m R=>AA ?_);exact BZ (q:=(14,6,Aw 6)) z EX G u n h R t
  |15,_,a,c,b=>
   obtain rfl:=Option.some.inj a;refine BO (vs:=_) (out:=Ct (styK 7)) rfl EO (go ?_);exact Aq (p:=(15,17,Aw 7)) z EU (Ext.refl _)
  |16,_,a,c,b=>
   obtain rfl:=Option.some.inj a;have t:L 0=true:=Al (j:=0) EO b;have l:L 15=true:=Al (j:=15) EO b;obtain⟨r,M,G,u,A,n⟩:=z.map t;refine A6 (x:=7) (y:=Aw 7) G rfl (z.vals (15,17,Aw 7) EU l) A (z.none (q:=(16,7,Aw 7)) EX c n) (fun Q h m R=>AA ?_);exact BZ (q:=(16,7,Aw 7)) z EX G u n h R t
  |17,_,a,c,b=>
   obtain rfl:=Option.some.inj a;refine DJ (v:=fn1) z.p3 (go ?_);exact Aq (p:=(17,18,fn1)) z EU (Ext.refl _)
  |18,_,a,c,b=>
   obtain rfl:=Option.some.inj a;refine A8 z.p1 (B.E z.ext O) rfl (go ?_);exact Aq (p:=(18,19,Bu pfx)) z EU (Ext.refl _)
  |19,_,a,c,b=>
   obtain rfl:=Option.some.inj a;have l:L 17=true:=Al (j:=17) EO b;have W:L 18=true:=Al (j:=18) EO b;refine A9 (v1:=[]) (v2:=[]) (vs:=[Bu pfx,AL [88,32]]) (z.vals (17,18,fn1) EU l) (EM w pfx _) (C3 (z.vals (18,19,Bu pfx) EU W) rfl) ?_;rintro _ Q⟨rfl,h⟩;refine go ?_;exact Aq (p:=(19,20,Aw 8)) z EU h
  |20,_,a,c,b=>
   obtain rfl:=Option.some.inj a;have t:L 0=true:=Al (j:=0) EO b;have l:L 19=true:=Al (j:=19) EO b;obtain⟨r,M,G,u,A,n⟩:=z.map t;refine A6 (x:=8) (y:=Aw 8) G rfl (z.vals (19,20,Aw 8) EU l) A (z.none (q:=(20,8,Aw 8)) EX c n) (fun Q h m R=>AA ?_);exact BZ (q:=(20,8,Aw 8)) z EX G u n h R t
  |21,_,a,c,b=>
   obtain rfl:=Option.some.inj a;refine DJ (v:=fn1) z.p3 (go ?_);exact Aq (p:=(21,21,fn1)) z EU (Ext.refl _)
  |22,_,a,c,b=>
   obtain rfl:=Option.some.inj a;refine A8 z.p2 (E.E z.ext O) rfl (go ?_);exact Aq (p:=(22,22,Bu ifx)) z EU (Ext.refl _)
  |23,_,a,c,b=>
   obtain rfl:=Option.some.inj a;have l:L 21=true:=Al (j:=21) EO b;have W:L 22=true:=Al (j:=22) EO b;refine A9 (v1:=[]) (v2:=[]) (vs:=[Bu ifx,AL [32,85,32]]) (z.vals (21,21,fn1) EU l) (EM w ifx _) (C3 (z.vals (22,22,Bu ifx) EU W) rfl) ?_;rintro _ Q⟨rfl,h⟩;refine go ?_;exact Aq (p:=(23,23,Aw 9)) z EU h
  |24,_,a,c,b=>
   obtain rfl:=Option.some.inj a;have t:L 0=true:=Al (j:=0) EO b;have l:L 23=true:=Al (j:=23) EO b;obtain⟨r,M,G,u,A,n⟩:=z.map t;refine A6 (x:=9) (y:=Aw 9) G rfl (z.vals (23,23,Aw 9) EU l) A (z.none (q:=(24,9,Aw 9)) EX c n) (fun Q h m R=>AA ?_);exact BZ (q:=(24,9,Aw 9)) z EX G u n h R t
  |25,_,a,c,b=>
   obtain rfl:=Option.some.inj a;refine DJ (v:=fn1) z.p3 (go ?_);exact Aq (p:=(25,24,fn1)) z EU (Ext.refl _)
  |26,_,a,c,b=>
   obtain rfl:=Option.some.inj a;refine A8 z.p2 (E.E z.ext O) rfl (go ?_);exact Aq (p:=(26,25,Bu ifx)) z EU (Ext.refl _)
  |27,_,a,c,b=>
   obtain rfl:=Option.some.inj a;have l:L 25=true:=Al (j:=25) EO b;have W:L 26=true:=Al (j:=26) EO b;refine A9 (v1:=[]) (v2:=[]) (vs:=[Bu ifx,AL [32,82,32]]) (z.vals (25,24,fn1) EU l) (EM w ifx _) (C3 (z.vals (26,25,Bu ifx) EU W) rfl) ?_;rintro _ Q⟨rfl,h⟩;refine go ?_;exact Aq (p:=(27,26,Aw 10)) z EU h
  |28,_,a,c,b=>
   obtain rfl:=Option.some.inj a;have t:L 0=true:=Al (j:=0) EO b;have l:L 27=true:=Al (j:=27) EO b;obtain⟨r,M,G,u,A,n⟩:=z.map t;refine A6 (x:=10) (y:=Aw 10) G rfl (z.vals (27,26,Aw 10) EU l) A (z.none (q:=(28,10,Aw 10)) EX c n) (fun Q h m R=>AA ?_);exact BZ (q:=(28,10,Aw 10)) z EX G u n h R t
  |29,_,a,c,b=>
   obtain rfl:=Option.some.inj a;refine DJ (v:=fn1) z.p3 (go ?_);exact Aq (p:=(29,27,fn1)) z EU (Ext.refl _)
  |30,_,a,c,b=>
   obtain rfl:=Option.some.inj a;refine A8 z.p1 (B.E z.ext O) rfl (go ?_);exact Aq (p:=(30,28,Bu pfx)) z EU (Ext.refl _)
  |31,_,a,c,b=>
   obtain rfl:=Option.some.inj a;have l:L 29=true:=Al (j:=29) EO b;have W:L 30=true:=Al (j:=30) EO b;refine A9 (v1:=[]) (v2:=[]) (vs:=[Bu pfx,AL [70,32]]) (z.vals (29,27,fn1) EU l) (EM w pfx _) (C3 (z.vals (30,28,Bu pfx) EU W) rfl) ?_;rintro _ Q⟨rfl,h⟩;refine go ?_;exact Aq (p:=(31,29,Aw 11)) z EU h
  |32,_,a,c,b=>
   obtain rfl:=Option.some.inj a;have t:L 0=true:=Al (j:=0) EO b;have l:L 31=true:=Al (j:=31) EO b;obtain⟨r,M,G,u,A,n⟩:=z.map t;refine A6 (x:=11) (y:=Aw 11) G rfl (z.vals (31,29,Aw 11) EU l) A (z.none (q:=(32,11,Aw 11)) EX c n) (fun Q h m R=>AA ?_);exact BZ (q:=(32,11,Aw 11)) z EX G u n h R t
  |33,_,a,c,b=>
   obtain rfl:=Option.some.inj a;refine DJ (v:=fn1) z.p3 (go ?_);exact Aq (p:=(33,30,fn1)) z EU (Ext.refl _)
  |34,_,a,c,b=>
   obtain rfl:=Option.some.inj a;refine A8 z.p1 (B.E z.ext O) rfl (go ?_);exact Aq (p:=(34,31,Bu pfx)) z EU (Ext.refl _)
  |35,_,a,c,b=>
   obtain rfl:=Option.some.inj a;have l:L 33=true:=Al (j:=33) EO b;have W:L 34=true:=Al (j:=34) EO b;refine A9 (v1:=[]) (v2:=[]) (vs:=[Bu pfx,AL [71,32]]) (z.vals (33,30,fn1) EU l) (EM w pfx _) (C3 (z.vals (34,31,Bu pfx) EU W) rfl) ?_;rintro _ Q⟨rfl,h⟩;refine go ?_;exact Aq (p:=(35,32,Aw 12)) z EU h
  |36,_,a,c,b=>
   obtain rfl:=Option.some.inj a;have t:L 0=true:=Al (j:=0) EO b;have l:L 35=true:=Al (j:=35) EO b;obtain⟨r,M,G,u,A,n⟩:=z.map t;refine A6 (x:=12) (y:=Aw 12) G rfl (z.vals (35,32,Aw 12) EU l) A (z.none (q:=(36,12,Aw 12)) EX c n) (fun Q h m R=>AA ?_);exact BZ (q:=(36,12,Aw 12)) z EX G u n h R t
  |37,_,a,c,b=>
   obtain rfl:=Option.some.inj a;refine DJ (v:=fn3) z.p5 (go ?_);exact Aq (p:=(37,33,fn3)) z EU (Ext.refl _)
  |38,_,a,c,b=>
   obtain rfl:=Option.some.inj a;refine A8 z.p1 (B.E z.ext O) rfl (go ?_);exact Aq (p:=(38,34,Bu pfx)) z EU (Ext.refl _)
  |39,_,a,c,b=>
   obtain rfl:=Option.some.inj a;have l:L 37=true:=Al (j:=37) EO b;have W:L 38=true:=Al (j:=38) EO b;refine A9 (v1:=[]) (v2:=[]) (vs:=[Bu pfx,AL [70,91]]) (z.vals (37,33,fn3) EU l) (bounded_ok w pfx _) (C3 (z.vals (38,34,Bu pfx) EU W) rfl) ?_;rintro _ Q⟨rfl,h⟩;refine go ?_;exact Aq (p:=(39,35,Aw 13)) z EU h
  |40,_,a,c,b=>
   obtain rfl:=Option.some.inj a;have t:L 0=true:=Al (j:=0) EO b;have l:L 39=true:=Al (j:=39) EO b;obtain⟨r,M,G,u,A,n⟩:=z.map t;refine A6 (x:=13) (y:=Aw 13) G rfl (z.vals (39,35,Aw 13) EU l) A (z.none (q:=(40,13,Aw 13)) EX c n) (fun Q h m R=>AA ?_);exact BZ (q:=(40,13,Aw 13)) z EX G u n h R t
  |41,_,a,c,b=>
   obtain rfl:=Option.some.inj a;refine DJ (v:=fn3) z.p5 (go ?_);exact Aq (p:=(41,36,fn3)) z EU (Ext.refl _)
  |42,_,a,c,b=>
   obtain rfl:=Option.some.inj a;refine A8 z.p1 (B.E z.ext O) rfl (go ?_);exact Aq (p:=(42,37,Bu pfx)) z EU (Ext.refl _)
  |43,_,a,c,b=>
   obtain rfl:=Option.some.inj a;have l:L 41=true:=Al (j:=41) EO b;have W:L 42=true:=Al (j:=42) EO b;refine A9 (v1:=[]) (v2:=[]) (vs:=[Bu pfx,AL [71,91]]) (z.vals (41,36,fn3) EU l) (bounded_ok w pfx _) (C3 (z.vals (42,37,Bu pfx) EU W) rfl) ?_;rintro _ Q⟨rfl,h⟩;refine go ?_;exact Aq (p:=(43,38,Aw 14)) z EU h
  |44,_,a,c,b=>
   obtain rfl:=Option.some.inj a;have t:L 0=true:=Al (j:=0) EO b;have l:L 43=true:=Al (j:=43) EO b;obtain⟨r,M,G,u,A,n⟩:=z.map t;refine A6 (x:=14) (y:=Aw 14) G rfl (z.vals (43,38,Aw 14) EU l) A (z.none (q:=(44,14,Aw 14)) EX c n) (fun Q h m R=>AA ?_);exact BZ (q:=(44,14,Aw 14)) z EX G u n h R t
  |45,_,a,c,b=>
   obtain rfl:=Option.some.inj a;refine DJ (v:=fn2) z.p4 (go ?_);exact Aq (p:=(45,39,fn2)) z EU (Ext.refl _)
  |46,_,a,c,b=>
   obtain rfl:=Option.some.inj a;refine A8 z.p1 (B.E z.ext O) rfl (go ?_);exact Aq (p:=(46,40,Bu pfx)) z EU (Ext.refl _)
  |47,_,a,c,b=>
   obtain rfl:=Option.some.inj a;have l:L 45=true:=Al (j:=45) EO b;have W:L 46=true:=Al (j:=46) EO b;refine A9 (v1:=[]) (v2:=[]) (vs:=[Bu pfx,AL [89,32],iV 1,iV 0]) (z.vals (45,39,fn2) EU l) (valued_ok w pfx _ 1 0) (C3 (z.vals (46,40,Bu pfx) EU W) rfl) ?_;rintro _ Q⟨rfl,h⟩;refine go ?_;exact Aq (p:=(47,41,Aw 15)) z EU h
  |48,_,a,c,b=>
   obtain rfl:=Option.some.inj a;have t:L 0=true:=Al (j:=0) EO b;have l:L 47=true:=Al (j:=47) EO b;obtain⟨r,M,G,u,A,n⟩:=z.map t;refine A6 (x:=15) (y:=Aw 15) G rfl (z.vals (47,41,Aw 15) EU l) A (z.none (q:=(48,15,Aw 15)) EX c n) (fun Q h m R=>AA ?_);exact BZ (q:=(48,15,Aw 15)) z EX G u n h R t
  |49,_,a,c,b=>
   obtain rfl:=Option.some.inj a;refine DJ (v:=fn2) z.p4 (go ?_);exact Aq (p:=(49,42,fn2)) z EU (Ext.refl _)
  |50,_,a,c,b=>
   obtain rfl:=Option.some.inj a;refine A8 z.p2 (E.E z.ext O) rfl (go ?_);exact Aq (p:=(50,43,Bu ifx)) z EU (Ext.refl _)
  |51,_,a,c,b=>
   obtain rfl:=Option.some.inj a;have l:L 49=true:=Al (j:=49) EO b;have W:L 50=true:=Al (j:=50) EO b;refine A9 (v1:=[]) (v2:=[]) (vs:=[Bu ifx,AL [32,83],iV 9999,iV 0]) (z.vals (49,42,fn2) EU l) (valued_ok w ifx _ 9999 0) (C3 (z.vals (50,43,Bu ifx) EU W) rfl) ?_;rintro _ Q⟨rfl,h⟩;refine go ?_;exact Aq (p:=(51,44,Aw 16)) z EU h
  |52,_,a,c,b=>
   obtain rfl:=Option.some.inj a;have t:L 0=true:=Al (j:=0) EO b;have l:L 51=true:=Al (j:=51) EO b;obtain⟨r,M,G,u,A,n⟩:=z.map t;refine A6 (x:=16) (y:=Aw 16) G rfl (z.vals (51,44,Aw 16) EU l) A (z.none (q:=(52,16,Aw 16)) EX c n) (fun Q h m R=>AA ?_);exact BZ (q:=(52,16,Aw 16)) z EX G u n h R t
  |53,_,a,c,b=>
   obtain rfl:=Option.some.inj a;refine DJ (v:=fn2) z.p4 (go ?_);exact Aq (p:=(53,45,fn2)) z EU (Ext.refl _)
  |54,_,a,c,b=>
   obtain rfl:=Option.some.inj a;refine A8 z.p2 (E.E z.ext O) rfl (go ?_);exact Aq (p:=(54,46,Bu ifx)) z EU (Ext.refl _)
  |55,_,a,c,b=>
   obtain rfl:=Option.some.inj a;have l:L 53=true:=Al (j:=53) EO b;have W:L 54=true:=Al (j:=54) EO b;refine A9 (v1:=[]) (v2:=[]) (vs:=[Bu ifx,AL [32,84],iV 9999,iV 1]) (z.vals (53,45,fn2) EU l) (valued_ok w ifx _ 9999 1) (C3 (z.vals (54,46,Bu ifx) EU W) rfl) ?_;rintro _ Q⟨rfl,h⟩;refine go ?_;exact Aq (p:=(55,47,Aw 17)) z EU h
  |56,_,a,c,b=>
   obtain rfl:=Option.some.inj a;have t:L 0=true:=Al (j:=0) EO b;have l:L 55=true:=Al (j:=55) EO b;obtain⟨r,M,G,u,A,n⟩:=z.map t;refine A6 (x:=17) (y:=Aw 17) G rfl (z.vals (55,47,Aw 17) EU l) A (z.none (q:=(56,17,Aw 17)) EX c n) (fun Q h m R=>AA ?_);exact BZ (q:=(56,17,Aw 17)) z EX G u n h R t
  |57,_,a,c,b=>
   obtain rfl:=Option.some.inj a;refine DJ (v:=fn1) z.p3 (go ?_);exact Aq (p:=(57,48,fn1)) z EU (Ext.refl _)
  |58,_,a,c,b=>
   obtain rfl:=Option.some.inj a;refine A8 z.p1 (B.E z.ext O) rfl (go ?_);exact Aq (p:=(58,49,Bu pfx)) z EU (Ext.refl _)
  |59,_,a,c,b=>
   obtain rfl:=Option.some.inj a;have l:L 57=true:=Al (j:=57) EO b;have W:L 58=true:=Al (j:=58) EO b;refine A9 (v1:=[]) (v2:=[]) (vs:=[Bu pfx,AL [79,32]]) (z.vals (57,48,fn1) EU l) (EM w pfx _) (C3 (z.vals (58,49,Bu pfx) EU W) rfl) ?_;rintro _ Q⟨rfl,h⟩;refine go ?_;exact Aq (p:=(59,50,Aw 18)) z EU h
  |60,_,a,c,b=>
   obtain rfl:=Option.some.inj a;have t:L 0=true:=Al (j:=0) EO b;have l:L 59=true:=Al (j:=59) EO b;obtain⟨r,M,G,u,A,n⟩:=z.map t;refine A6 (x:=18) (y:=Aw 18) G rfl (z.vals (59,50,Aw 18) EU l) A (z.none (q:=(60,18,Aw 18)) EX c n) (fun Q h m R=>AA ?_);exact BZ (q:=(60,18,Aw 18)) z EX G u n h R t
  |61,_,a,c,b=>
   obtain rfl:=Option.some.inj a;refine DJ (v:=fn1) z.p3 (go ?_);exact Aq (p:=(61,51,fn1)) z EU (Ext.refl _)
  |62,_,a,c,b=>
   obtain rfl:=Option.some.inj a;refine A8 z.p1 (B.E z.ext O) rfl (go ?_);exact Aq (p:=(62,52,Bu pfx)) z EU (Ext.refl _)
  |63,_,a,c,b=>
   obtain rfl:=Option.some.inj a;have l:L 61=true:=Al (j:=61) EO b;have W:L 62=true:=Al (j:=62) EO b;refine A9 (v1:=[]) (v2:=[]) (vs:=[Bu pfx,AL [72,32]]) (z.vals (61,51,fn1) EU l) (EM w pfx _) (C3 (z.vals (62,52,Bu pfx) EU W) rfl) ?_;rintro _ Q⟨rfl,h⟩;refine go ?_;exact Aq (p:=(63,53,Aw 19)) z EU h
  |64,_,a,c,b=>
   obtain rfl:=Option.some.inj a;have t:L 0=true:=Al (j:=0) EO b;have l:L 63=true:=Al (j:=63) EO b;obtain⟨r,M,G,u,A,n⟩:=z.map t;refine A6 (x:=19) (y:=Aw 19) G rfl (z.vals (63,53,Aw 19) EU l) A (z.none (q:=(64,19,Aw 19)) EX c n) (fun Q h m R=>AA ?_);exact BZ (q:=(64,19,Aw 19)) z EX G u n h R t
  |65,_,a,c,b=>
   obtain rfl:=Option.some.inj a;have t:L 0=true:=Al (j:=0) EO b;refine DJ (v:=f 8) rfl (go ?_);exact styInv_65 z t
  |66,_,a,c,b=>
   obtain rfl:=Option.some.inj a;have t:L 65=true:=Al (j:=65) EO b;refine AO ?_;refine DJ (v:=f 54) rfl (AA ?_);exact styInv_66 z t
 ·intro L f ds w z k;obtain⟨a0,_⟩:=z.l66 (k 66 ET);obtain⟨r,M,e1,e2,I,g⟩:=z.map (k 0 ET);refine go ?_;obtain rfl:=z.ds;refine AC rfl ⟨r,by rw[a0,e1],X.trans z.ext,Nat.le_trans X.size e2,M,I,fun op=>?_⟩;cases hs:Cb op with
  |none=>
   refine vlookup_none fun p C e=>?_;obtain⟨q,D,_,W,_⟩:=(g p.1 p.2).1 C;have:=ins_sty q D;rw[<-W,e,hs]at this;cases this
  |some s=>
   obtain⟨q,D,V⟩:=sty_ins hs;have H:=ins_sty q D;rw[V,hs]at H;have H:Bu s=q.2.2:=Option.some.inj H;have n:(op,Bu s)∈M:=(g _ _).2 ⟨q,D,k _ (i_ops q D).1,V.symm,H⟩;exact vlookup_at (nodup_vint I) n
end
section
variable {mk:Prop}[MK mk]
end
structure GP(w:World):Prop where
 gk:GK w
 pow:Lib.TabIs Zp w "internal/strconv.uint64pow10" .u64 Lib.pow10Tab
theorem pow_block{w:World}(h:Lib.TabIs Zp w "internal/strconv.uint64pow10" .u64 Lib.pow10Tab):∃g,Tryz.prog.globalNamed "internal/strconv.uint64pow10" =some g/\g<10/\g<w.heap.size:=by
 have a:Tryz.prog.globalNamed "internal/strconv.uint64pow10" =some 6:=by kernel_rfl
 refine⟨_,a,by decide,?_⟩;unfold Lib.TabIs World.var? at h;rw[a]at h;simp only[Option.bind_some]at h
 split at h
 ·rename_i heq;exact(Array.getElem?_eq_some_iff.1 heq).1
 ·cases h
theorem GP.E{X:List Nat}{w w':World}(h:GP w)(k:Keep X w w')(b:∀x∈X,10<=x):GP w':=by
 refine⟨h.gk.E k b,?_⟩;obtain⟨g,a,Z,W⟩:=pow_block h.pow;have y:=h.pow;unfold Lib.TabIs World.var? at y⊢;rw[a]at y⊢;simp only[Option.bind_some]at y⊢;rw[k.block g W (fun V=>by have:=b _ V;omega)];exact y
theorem GP.ext{w w':World}(h:GP w)(k:Ext w w'):GP w':=h.E k fun x V=>by cases V
theorem ext_growP{w:World}{k:Nat}{W:Array Obj}:Ext w (Go.Sort.grow (w.drewN k) W):=by
 refine⟨rfl,rfl,rfl,by simp[Go.Sort.grow,World.drewN],fun b S _=>?_,fun h=>h.elim,?_⟩
 ·simp only[Go.Sort.grow,World.drewN];rw[Array.getElem?_append_left S]
 ·simp[Go.Sort.grow,World.drewN]
theorem itoa_digs{n:Int}(h:0<=n):Lib.itoa n=Ci n:=by
 unfold Lib.itoa Ci;rw[if_neg U]
 have:∀(m k:Nat),k<=m->Lib.decDigits k=digs k:=by
  intro m
  induction m with
  |zero=>
   intro k L;rw[Lib.decDigits,dif_pos U,CV U]
  |succ m ih=>
   intro k L;by_cases Z:k<10
   ·rw[Lib.decDigits,dif_pos Z,CV Z]
   ·rw[Lib.decDigits,dif_neg Z,digs_big U,ih (k/10) U]
 exact this _ _ (Nat.le_refl _)
theorem itoa_ok(w:World)(n:Int)(t:0<=n)(Z:n<=9999)(X:GP w):Fn Zp 198 [iV n] w fun v w'=>v=AL (Ci n)/\Ext w w':=by
 refine Calls.mono (Tryz.strconv_Itoa n U U w X.pow) ?_;rintro e w'⟨rfl,k,W,rfl⟩;rw[itoa_digs t];exact⟨rfl,ext_growP⟩
def unp:List PanicEntry:=[{v:=.iface 229 (.agg #[]),recovered:=false}]
theorem Cd(w:World)(b:Bool):FnP Zp 103 [.bool b] w (fun v w'=>v=.tuple #[]/\b=true/\w'=w) (fun V w'=>V=unp/\b=false/\w'=w):=by
 refine Az Tryz.func103 rfl Tryz.ntmps103 nlr EO (go ?_);cases b with
 |true=>
  refine go ?_;exact A1 rfl ⟨rfl,rfl,rfl⟩
 |false=>
  repeat refine nx rfl ?_
  (refine AJ (BO EQ EQ ?_)<;>refine Db (Ds rfl ?_))
  repeat refine nx rfl ?_
  exact Ab ⟨rfl,rfl,rfl⟩
theorem wname_ok(w:World)(s:LU)(X:GK w):FnP Zp 88 [AL s] w (fun v w'=>v=AL s/\BH s=true/\w'=w) (fun V w'=>V=unp/\BH s=false/\w'=w):=by
 refine Az Tryz.func88 rfl Tryz.ntmps88 nlr EO (go ?_);refine AF (sigName_ok s w X) rfl ?_;rintro v Q⟨rfl,rfl⟩;refine Ag (Cd Q (BH s)) rfl ?_ ?_;rotate_left
 ·rintro V N⟨rfl,S,rfl⟩;refine go ?_;exact Ab ⟨rfl,S,rfl⟩
 rintro v N⟨rfl,S,rfl⟩;refine go ?_;exact AC rfl ⟨rfl,S,rfl⟩
def numB(n:Int):Bool:=decide (0<=n)&&decide (n<=9999)
theorem wnumber_ok(w:World)(n:Int)(X:GP w):FnP Zp 140 [iV n] w (fun v w'=>v=AL (Ci n)/\numB n=true/\Ext w w') (fun V w'=>V=unp/\numB n=false/\w'=w):=by
 refine Az Tryz.func140 rfl Tryz.ntmps140 nlr EO (go ?_);by_cases t:0<=n
 ·by_cases Z:n<=9999
  ·refine go ?_;refine Ag (Cd w true) rfl ?_ ?_;rotate_left
   ·rintro V N⟨_,S,_⟩;cases S
   rintro v N⟨rfl,S,rfl⟩;refine go ?_;refine AF (itoa_ok N n t Z X) rfl ?_;rintro v z⟨rfl,i⟩;refine go ?_;exact AC rfl ⟨rfl,by simp[numB,t,Z],i⟩
  ·refine go ?_;refine Ag (Cd w false) rfl ?_ ?_
   ·rintro v N⟨_,S,_⟩;cases S
   rintro V N⟨rfl,S,rfl⟩;refine go ?_;exact Ab ⟨rfl,by simp[numB,Z],rfl⟩
 ·refine go ?_;refine Ag (Cd w false) rfl ?_ ?_
  ·rintro v N⟨_,S,_⟩;cases S
  rintro V N⟨rfl,S,rfl⟩;refine go ?_;exact Ab ⟨rfl,by simp[numB,t],rfl⟩
def nodeC(s:Sty)(f:Fml):Bool:=decide (s.least<=f.args.length/\f.args.length<=s.most)&&decide (0<=f.val/\f.val<=(s.val:Int))&&decide (0<=f.bound/\f.bound<=(s.bound:Int))&&(decide (f.op=3)||f.name.isEmpty)
theorem prcheck_ok(w:World)(s:Sty)(b o:Nat)(f:Fml)(a:Option Addr)(c:Nat)(t:Cells w b o (fcC f (.slice a f.args.length c))):FnP Zp 159 [Bu s,.pointer (some ⟨b,o,none⟩)] w
  (fun v w'=>v=.tuple #[]/\Ext w w'/\nodeC s f=true) (fun V w'=>V=unp/\Ext w w'/\nodeC s f=false):=by
 refine Az Tryz.func159 rfl Tryz.ntmps159 nlr EO ?_;repeat refine nx rfl ?_
 (refine AJ ?_;refine A3 (L:=Ct s) rfl (fun Q A=>AA ?_))
 have n:=A.D;have Z:=A.E;refine go ?_;by_cases r:s.least<=f.args.length
 case neg=>
  refine CQ (rd 0 18 (.alt 18 .done .stop)) Ap EO (by repeat (first|exact Be|refine BI ?_)) (fun N M H=>⟨Ext N,?_,?_⟩)
  ·exact FQ
  have P:=n.E M O;have l:∀W,Ext N W->W.cell? ⟨b,o+4,none⟩=some (.slice a f.args.length c):=fun W e=>((Z.trans M).trans e).cell (t 4 _ rfl) O;have m:∀W,Ext N W->W.cell? ⟨b,o+2,none⟩=some (iV f.val):=fun W e=>((Z.trans M).trans e).cell (t 2 _ rfl) O;have k:∀W,Ext N W->W.cell? ⟨b,o+3,none⟩=some (iV f.bound):=fun W e=>((Z.trans M).trans e).cell (t 3 _ rfl) O;have g:∀W,Ext N W->W.cell? ⟨w.heap.size,0+4,none⟩=some (iV (s.least:Int)):=fun W e=>(P.E e O).cell rfl;have p:∀W,Ext N W->W.cell? ⟨w.heap.size,0+5,none⟩=some (iV (s.most:Int)):=fun W e=>(P.E e O).cell rfl;have q:∀W,Ext N W->W.cell? ⟨w.heap.size,0+6,none⟩=some (iV (s.val:Int)):=fun W e=>(P.E e O).cell rfl;have d:∀W,Ext N W->W.cell? ⟨w.heap.size,0+7,none⟩=some (iV (s.bound:Int)):=fun W e=>(P.E e O).cell rfl;((refine D_R rfl rfl (fun W i=>AX rfl dz) ?_)<;>(refine D_R rfl rfl (fun W i=>AG rfl dz) ?_)<;>(refine D_R rfl rfl (fun W i=>AB rfl dz) ?_)<;>(refine D_R rfl rfl (fun W i=>AH rfl (l W i) dz) ?_)<;>(refine D_R rfl rfl (fun W i=>Bi rfl dz) ?_)<;>(refine D_R rfl rfl (fun W i=>AB rfl dz) ?_)<;>(refine D_R rfl rfl (fun W i=>AH rfl (g W i) dz) ?_)<;>(refine D_geq rfl rfl rfl rfl (fun T=>?_) (fun T=>?_)<;>try omega)<;>(refine D_R rfl rfl (fun W i=>AE rfl dz) ?_)<;>refine At rfl rfl rfl rfl (At rfl rfl rfl rfl (At rfl rfl rfl rfl (At rfl rfl rfl rfl (At rfl rfl rfl rfl (At rfl rfl rfl rfl (At rfl rfl rfl rfl (At rfl rfl rfl rfl ?_)))))))<;>(refine D_R rfl rfl (fun W i=>Ad rfl (AE rfl dz)) ?_))
  refine D_E rfl ?_;refine Ag (Cd N false) rfl ?_ ?_
  ·rintro v j⟨_,S,_⟩;cases S
  rintro V j⟨rfl,S,rfl⟩;refine go ?_;exact Ab ⟨rfl,Z.trans M,by simp[nodeC,r]⟩
 by_cases u:f.args.length<=s.most
 case neg=>
  refine CQ (rd 0 18 (.alt 18 .done .stop)) Ap EO (by repeat (first|exact Be|refine BI ?_)) (fun N M H=>⟨Ext N,?_,?_⟩)
  ·exact FQ
  have P:=n.E M O;have l:∀W,Ext N W->W.cell? ⟨b,o+4,none⟩=some (.slice a f.args.length c):=fun W e=>((Z.trans M).trans e).cell (t 4 _ rfl) O;have m:∀W,Ext N W->W.cell? ⟨b,o+2,none⟩=some (iV f.val):=fun W e=>((Z.trans M).trans e).cell (t 2 _ rfl) O;have k:∀W,Ext N W->W.cell? ⟨b,o+3,none⟩=some (iV f.bound):=fun W e=>((Z.trans M).trans e).cell (t 3 _ rfl) O;have g:∀W,Ext N W->W.cell? ⟨w.heap.size,0+4,none⟩=some (iV (s.least:Int)):=fun W e=>(P.E e O).cell rfl;have p:∀W,Ext N W->W.cell? ⟨w.heap.size,0+5,none⟩=some (iV (s.most:Int)):=fun W e=>(P.E e O).cell rfl;have q:∀W,Ext N W->W.cell? ⟨w.heap.size,0+6,none⟩=some (iV (s.val:Int)):=fun W e=>(P.E e O).cell rfl;have d:∀W,Ext N W->W.cell? ⟨w.heap.size,0+7,none⟩=some (iV (s.bound:Int)):=fun W e=>(P.E e O).cell rfl;((refine D_R rfl rfl (fun W i=>AX rfl dz) ?_)<;>(refine D_R rfl rfl (fun W i=>AG rfl dz) ?_)<;>(refine D_R rfl rfl (fun W i=>AB rfl dz) ?_)<;>(refine D_R rfl rfl (fun W i=>AH rfl (l W i) dz) ?_)<;>(refine D_R rfl rfl (fun W i=>Bi rfl dz) ?_)<;>(refine D_R rfl rfl (fun W i=>AB rfl dz) ?_)<;>(refine D_R rfl rfl (fun W i=>AH rfl (g W i) dz) ?_)<;>(refine D_geq rfl rfl rfl rfl (fun T=>?_) (fun T=>?_)<;>try omega)<;>(refine D_R rfl rfl (fun W i=>AE rfl dz) ?_)<;>(refine D_R rfl rfl (fun W i=>AK rfl (AX rfl dz)) ?_)<;>(refine D_R rfl rfl (fun W i=>AK rfl (AG rfl dz)) ?_)<;>(refine D_R rfl rfl (fun W i=>AK rfl (AB rfl dz)) ?_)<;>(refine D_R rfl rfl (fun W i=>AK rfl (AH rfl (l W i) dz)) ?_)<;>(refine D_R rfl rfl (fun W i=>AK rfl (Bi rfl dz)) ?_)<;>(refine D_R rfl rfl (fun W i=>AK rfl (AB rfl dz)) ?_)<;>(refine D_R rfl rfl (fun W i=>AK rfl (AH rfl (p W i) dz)) ?_)<;>(refine D_leq rfl rfl rfl rfl (fun T=>?_) (fun T=>?_)<;>try omega)<;>(refine D_R rfl rfl (fun W i=>Ae rfl (AE rfl dz)) ?_))
  refine D_E rfl ?_;refine Ag (Cd N false) rfl ?_ ?_
  ·rintro v j⟨_,S,_⟩;cases S
  rintro V j⟨rfl,S,rfl⟩;refine go ?_;exact Ab ⟨rfl,Z.trans M,by simp[nodeC,u]⟩
 refine CQ (rd 0 18 (.alt 18 .done .stop)) Ap EO (by repeat (first|exact Be|refine BI ?_)) (fun N M H=>⟨Ext N,?_,?_⟩)
 ·exact FQ
 have P:=n.E M O;have l:∀W,Ext N W->W.cell? ⟨b,o+4,none⟩=some (.slice a f.args.length c):=fun W e=>((Z.trans M).trans e).cell (t 4 _ rfl) O;have m:∀W,Ext N W->W.cell? ⟨b,o+2,none⟩=some (iV f.val):=fun W e=>((Z.trans M).trans e).cell (t 2 _ rfl) O;have k:∀W,Ext N W->W.cell? ⟨b,o+3,none⟩=some (iV f.bound):=fun W e=>((Z.trans M).trans e).cell (t 3 _ rfl) O;have g:∀W,Ext N W->W.cell? ⟨w.heap.size,0+4,none⟩=some (iV (s.least:Int)):=fun W e=>(P.E e O).cell rfl;have p:∀W,Ext N W->W.cell? ⟨w.heap.size,0+5,none⟩=some (iV (s.most:Int)):=fun W e=>(P.E e O).cell rfl;have q:∀W,Ext N W->W.cell? ⟨w.heap.size,0+6,none⟩=some (iV (s.val:Int)):=fun W e=>(P.E e O).cell rfl;have d:∀W,Ext N W->W.cell? ⟨w.heap.size,0+7,none⟩=some (iV (s.bound:Int)):=fun W e=>(P.E e O).cell rfl;((refine D_R rfl rfl (fun W i=>AX rfl dz) ?_)<;>(refine D_R rfl rfl (fun W i=>AG rfl dz) ?_)<;>(refine D_R rfl rfl (fun W i=>AB rfl dz) ?_)<;>(refine D_R rfl rfl (fun W i=>AH rfl (l W i) dz) ?_)<;>(refine D_R rfl rfl (fun W i=>Bi rfl dz) ?_)<;>(refine D_R rfl rfl (fun W i=>AB rfl dz) ?_)<;>(refine D_R rfl rfl (fun W i=>AH rfl (g W i) dz) ?_)<;>(refine D_geq rfl rfl rfl rfl (fun T=>?_) (fun T=>?_)<;>try omega)<;>(refine D_R rfl rfl (fun W i=>AE rfl dz) ?_)<;>(refine D_R rfl rfl (fun W i=>AK rfl (AX rfl dz)) ?_)<;>(refine D_R rfl rfl (fun W i=>AK rfl (AG rfl dz)) ?_)<;>(refine D_R rfl rfl (fun W i=>AK rfl (AB rfl dz)) ?_)<;>(refine D_R rfl rfl (fun W i=>AK rfl (AH rfl (l W i) dz)) ?_)<;>(refine D_R rfl rfl (fun W i=>AK rfl (Bi rfl dz)) ?_)<;>(refine D_R rfl rfl (fun W i=>AK rfl (AB rfl dz)) ?_)<;>(refine D_R rfl rfl (fun W i=>AK rfl (AH rfl (p W i) dz)) ?_)<;>(refine D_leq rfl rfl rfl rfl (fun T=>?_) (fun T=>?_)<;>try omega)<;>(refine D_R rfl rfl (fun W i=>Ae rfl (AE rfl dz)) ?_))
 refine D_E rfl ?_;refine Ag (Cd N true) rfl ?_ ?_;rotate_left
 ·rintro V j⟨_,S,_⟩;cases S
 rintro v j⟨rfl,S,rfl⟩;refine AA ⟨Ext j,fun _ e=>e,Ext.refl _,?_⟩;refine go ?_;replace Z:=Z.trans M;clear l m k g p q d M H n;have n:=P;clear P;by_cases x:0<=f.val
 case neg=>
  refine CQ (rd 0 14 (.alt 14 .done .stop)) Ap EO (by repeat (first|exact Be|refine BI ?_)) (fun N M H=>⟨Ext N,?_,?_⟩)
  ·exact FQ
  have P:=n.E M O;have l:∀W,Ext N W->W.cell? ⟨b,o+4,none⟩=some (.slice a f.args.length c):=fun W e=>((Z.trans M).trans e).cell (t 4 _ rfl) O;have m:∀W,Ext N W->W.cell? ⟨b,o+2,none⟩=some (iV f.val):=fun W e=>((Z.trans M).trans e).cell (t 2 _ rfl) O;have k:∀W,Ext N W->W.cell? ⟨b,o+3,none⟩=some (iV f.bound):=fun W e=>((Z.trans M).trans e).cell (t 3 _ rfl) O;have g:∀W,Ext N W->W.cell? ⟨w.heap.size,0+4,none⟩=some (iV (s.least:Int)):=fun W e=>(P.E e O).cell rfl;have p:∀W,Ext N W->W.cell? ⟨w.heap.size,0+5,none⟩=some (iV (s.most:Int)):=fun W e=>(P.E e O).cell rfl;have q:∀W,Ext N W->W.cell? ⟨w.heap.size,0+6,none⟩=some (iV (s.val:Int)):=fun W e=>(P.E e O).cell rfl;have d:∀W,Ext N W->W.cell? ⟨w.heap.size,0+7,none⟩=some (iV (s.bound:Int)):=fun W e=>(P.E e O).cell rfl;((refine D_R rfl rfl (fun W i=>AX rfl dz) ?_)<;>(refine D_R rfl rfl (fun W i=>AG rfl dz) ?_)<;>(refine D_R rfl rfl (fun W i=>AB rfl dz) ?_)<;>(refine D_R rfl rfl (fun W i=>AH rfl (m W i) dz) ?_)<;>(refine D_geq rfl rfl rfl rfl (fun T=>?_) (fun T=>?_)<;>try omega)<;>(refine D_R rfl rfl (fun W i=>AE rfl dz) ?_)<;>refine At rfl rfl rfl rfl (At rfl rfl rfl rfl (At rfl rfl rfl rfl (At rfl rfl rfl rfl (At rfl rfl rfl rfl (At rfl rfl rfl rfl (At rfl rfl rfl rfl ?_))))))<;>(refine D_R rfl rfl (fun W i=>Ad rfl (AE rfl dz)) ?_))
  refine D_E rfl ?_;refine Ag (Cd N false) rfl ?_ ?_
  ·rintro v j⟨_,S,_⟩;cases S
  rintro V j⟨rfl,S,rfl⟩;refine go ?_;exact Ab ⟨rfl,Z.trans M,by simp[nodeC,x]⟩
 by_cases G:f.val<=(s.val:Int)
 case neg=>
  refine CQ (rd 0 14 (.alt 14 .done .stop)) Ap EO (by repeat (first|exact Be|refine BI ?_)) (fun N M H=>⟨Ext N,?_,?_⟩)
  ·exact FQ
  have P:=n.E M O;have l:∀W,Ext N W->W.cell? ⟨b,o+4,none⟩=some (.slice a f.args.length c):=fun W e=>((Z.trans M).trans e).cell (t 4 _ rfl) O;have m:∀W,Ext N W->W.cell? ⟨b,o+2,none⟩=some (iV f.val):=fun W e=>((Z.trans M).trans e).cell (t 2 _ rfl) O;have k:∀W,Ext N W->W.cell? ⟨b,o+3,none⟩=some (iV f.bound):=fun W e=>((Z.trans M).trans e).cell (t 3 _ rfl) O;have g:∀W,Ext N W->W.cell? ⟨w.heap.size,0+4,none⟩=some (iV (s.least:Int)):=fun W e=>(P.E e O).cell rfl;have p:∀W,Ext N W->W.cell? ⟨w.heap.size,0+5,none⟩=some (iV (s.most:Int)):=fun W e=>(P.E e O).cell rfl;have q:∀W,Ext N W->W.cell? ⟨w.heap.size,0+6,none⟩=some (iV (s.val:Int)):=fun W e=>(P.E e O).cell rfl;have d:∀W,Ext N W->W.cell? ⟨w.heap.size,0+7,none⟩=some (iV (s.bound:Int)):=fun W e=>(P.E e O).cell rfl;((refine D_R rfl rfl (fun W i=>AX rfl dz) ?_)<;>(refine D_R rfl rfl (fun W i=>AG rfl dz) ?_)<;>(refine D_R rfl rfl (fun W i=>AB rfl dz) ?_)<;>(refine D_R rfl rfl (fun W i=>AH rfl (m W i) dz) ?_)<;>(refine D_geq rfl rfl rfl rfl (fun T=>?_) (fun T=>?_)<;>try omega)<;>(refine D_R rfl rfl (fun W i=>AE rfl dz) ?_)<;>(refine D_R rfl rfl (fun W i=>AK rfl (AX rfl dz)) ?_)<;>(refine D_R rfl rfl (fun W i=>AK rfl (AG rfl dz)) ?_)<;>(refine D_R rfl rfl (fun W i=>AK rfl (AB rfl dz)) ?_)<;>(refine D_R rfl rfl (fun W i=>AK rfl (AH rfl (m W i) dz)) ?_)<;>(refine D_R rfl rfl (fun W i=>AK rfl (AB rfl dz)) ?_)<;>(refine D_R rfl rfl (fun W i=>AK rfl (AH rfl (q W i) dz)) ?_)<;>(refine D_leq rfl rfl rfl rfl (fun T=>?_) (fun T=>?_)<;>try omega)<;>(refine D_R rfl rfl (fun W i=>Ae rfl (AE rfl dz)) ?_))
  refine D_E rfl ?_;refine Ag (Cd N false) rfl ?_ ?_
  ·rintro v j⟨_,S,_⟩;cases S
  rintro V j⟨rfl,S,rfl⟩;refine go ?_;exact Ab ⟨rfl,Z.trans M,by simp[nodeC,G]⟩
 refine CQ (rd 0 14 (.alt 14 .done .stop)) Ap EO (by repeat (first|exact Be|refine BI ?_)) (fun N M H=>⟨Ext N,?_,?_⟩)
 ·exact FQ
 have P:=n.E M O;have l:∀W,Ext N W->W.cell? ⟨b,o+4,none⟩=some (.slice a f.args.length c):=fun W e=>((Z.trans M).trans e).cell (t 4 _ rfl) O;have m:∀W,Ext N W->W.cell? ⟨b,o+2,none⟩=some (iV f.val):=fun W e=>((Z.trans M).trans e).cell (t 2 _ rfl) O;have k:∀W,Ext N W->W.cell? ⟨b,o+3,none⟩=some (iV f.bound):=fun W e=>((Z.trans M).trans e).cell (t 3 _ rfl) O;have g:∀W,Ext N W->W.cell? ⟨w.heap.size,0+4,none⟩=some (iV (s.least:Int)):=fun W e=>(P.E e O).cell rfl;have p:∀W,Ext N W->W.cell? ⟨w.heap.size,0+5,none⟩=some (iV (s.most:Int)):=fun W e=>(P.E e O).cell rfl;have q:∀W,Ext N W->W.cell? ⟨w.heap.size,0+6,none⟩=some (iV (s.val:Int)):=fun W e=>(P.E e O).cell rfl;have d:∀W,Ext N W->W.cell? ⟨w.heap.size,0+7,none⟩=some (iV (s.bound:Int)):=fun W e=>(P.E e O).cell rfl;((refine D_R rfl rfl (fun W i=>AX rfl dz) ?_)<;>(refine D_R rfl rfl (fun W i=>AG rfl dz) ?_)<;>(refine D_R rfl rfl (fun W i=>AB rfl dz) ?_)<;>(refine D_R rfl rfl (fun W i=>AH rfl (m W i) dz) ?_)<;>(refine D_geq rfl rfl rfl rfl (fun T=>?_) (fun T=>?_)<;>try omega)<;>(refine D_R rfl rfl (fun W i=>AE rfl dz) ?_)<;>(refine D_R rfl rfl (fun W i=>AK rfl (AX rfl dz)) ?_)<;>(refine D_R rfl rfl (fun W i=>AK rfl (AG rfl dz)) ?_)<;>(refine D_R rfl rfl (fun W i=>AK rfl (AB rfl dz)) ?_)<;>(refine D_R rfl rfl (fun W i=>AK rfl (AH rfl (m W i) dz)) ?_)<;>(refine D_R rfl rfl (fun W i=>AK rfl (AB rfl dz)) ?_)<;>(refine D_R rfl rfl (fun W i=>AK rfl (AH rfl (q W i) dz)) ?_)<;>(refine D_leq rfl rfl rfl rfl (fun T=>?_) (fun T=>?_)<;>try omega)<;>(refine D_R rfl rfl (fun W i=>Ae rfl (AE rfl dz)) ?_))
 refine D_E rfl ?_;refine Ag (Cd N true) rfl ?_ ?_;rotate_left
 ·rintro V j⟨_,S,_⟩;cases S
 rintro v j⟨rfl,S,rfl⟩;refine AA ⟨Ext j,fun _ e=>e,Ext.refl _,?_⟩;refine go ?_;replace Z:=Z.trans M;clear l m k g p q d M H n;have n:=P;clear P;by_cases y:0<=f.bound
 case neg=>
  refine CQ (rd 0 14 (.alt 14 .done .stop)) Ap EO (by repeat (first|exact Be|refine BI ?_)) (fun N M H=>⟨Ext N,?_,?_⟩)
  ·exact FQ
  have P:=n.E M O;have l:∀W,Ext N W->W.cell? ⟨b,o+4,none⟩=some (.slice a f.args.length c):=fun W e=>((Z.trans M).trans e).cell (t 4 _ rfl) O;have m:∀W,Ext N W->W.cell? ⟨b,o+2,none⟩=some (iV f.val):=fun W e=>((Z.trans M).trans e).cell (t 2 _ rfl) O;have k:∀W,Ext N W->W.cell? ⟨b,o+3,none⟩=some (iV f.bound):=fun W e=>((Z.trans M).trans e).cell (t 3 _ rfl) O;have g:∀W,Ext N W->W.cell? ⟨w.heap.size,0+4,none⟩=some (iV (s.least:Int)):=fun W e=>(P.E e O).cell rfl;have p:∀W,Ext N W->W.cell? ⟨w.heap.size,0+5,none⟩=some (iV (s.most:Int)):=fun W e=>(P.E e O).cell rfl;have q:∀W,Ext N W->W.cell? ⟨w.heap.size,0+6,none⟩=some (iV (s.val:Int)):=fun W e=>(P.E e O).cell rfl;have d:∀W,Ext N W->W.cell? ⟨w.heap.size,0+7,none⟩=some (iV (s.bound:Int)):=fun W e=>(P.E e O).cell rfl;((refine D_R rfl rfl (fun W i=>AX rfl dz) ?_)<;>(refine D_R rfl rfl (fun W i=>AG rfl dz) ?_)<;>(refine D_R rfl rfl (fun W i=>AB rfl dz) ?_)<;>(refine D_R rfl rfl (fun W i=>AH rfl (k W i) dz) ?_)<;>(refine D_geq rfl rfl rfl rfl (fun T=>?_) (fun T=>?_)<;>try omega)<;>(refine D_R rfl rfl (fun W i=>AE rfl dz) ?_)<;>refine At rfl rfl rfl rfl (At rfl rfl rfl rfl (At rfl rfl rfl rfl (At rfl rfl rfl rfl (At rfl rfl rfl rfl (At rfl rfl rfl rfl (At rfl rfl rfl rfl ?_))))))<;>(refine D_R rfl rfl (fun W i=>Ad rfl (AE rfl dz)) ?_))
  refine D_E rfl ?_;refine Ag (Cd N false) rfl ?_ ?_
  ·rintro v j⟨_,S,_⟩;cases S
  rintro V j⟨rfl,S,rfl⟩;refine go ?_;exact Ab ⟨rfl,Z.trans M,by simp[nodeC,y]⟩
 by_cases z:f.bound<=(s.bound:Int)
 case neg=>
  refine CQ (rd 0 14 (.alt 14 .done .stop)) Ap EO (by repeat (first|exact Be|refine BI ?_)) (fun N M H=>⟨Ext N,?_,?_⟩)
  ·exact FQ
  have P:=n.E M O;have l:∀W,Ext N W->W.cell? ⟨b,o+4,none⟩=some (.slice a f.args.length c):=fun W e=>((Z.trans M).trans e).cell (t 4 _ rfl) O;have m:∀W,Ext N W->W.cell? ⟨b,o+2,none⟩=some (iV f.val):=fun W e=>((Z.trans M).trans e).cell (t 2 _ rfl) O;have k:∀W,Ext N W->W.cell? ⟨b,o+3,none⟩=some (iV f.bound):=fun W e=>((Z.trans M).trans e).cell (t 3 _ rfl) O;have g:∀W,Ext N W->W.cell? ⟨w.heap.size,0+4,none⟩=some (iV (s.least:Int)):=fun W e=>(P.E e O).cell rfl;have p:∀W,Ext N W->W.cell? ⟨w.heap.size,0+5,none⟩=some (iV (s.most:Int)):=fun W e=>(P.E e O).cell rfl;have q:∀W,Ext N W->W.cell? ⟨w.heap.size,0+6,none⟩=some (iV (s.val:Int)):=fun W e=>(P.E e O).cell rfl;have d:∀W,Ext N W->W.cell? ⟨w.heap.size,0+7,none⟩=some (iV (s.bound:Int)):=fun W e=>(P.E e O).cell rfl;((refine D_R rfl rfl (fun W i=>AX rfl dz) ?_)<;>(refine D_R rfl rfl (fun W i=>AG rfl dz) ?_)<;>(refine D_R rfl rfl (fun W i=>AB rfl dz) ?_)<;>(refine D_R rfl rfl (fun W i=>AH rfl (k W i) dz) ?_)<;>(refine D_geq rfl rfl rfl rfl (fun T=>?_) (fun T=>?_)<;>try omega)<;>(refine D_R rfl rfl (fun W i=>AE rfl dz) ?_)<;>(refine D_R rfl rfl (fun W i=>AK rfl (AX rfl dz)) ?_)<;>(refine D_R rfl rfl (fun W i=>AK rfl (AG rfl dz)) ?_)<;>(refine D_R rfl rfl (fun W i=>AK rfl (AB rfl dz)) ?_)<;>(refine D_R rfl rfl (fun W i=>AK rfl (AH rfl (k W i) dz)) ?_)<;>(refine D_R rfl rfl (fun W i=>AK rfl (AB rfl dz)) ?_)<;>(refine D_R rfl rfl (fun W i=>AK rfl (AH rfl (d W i) dz)) ?_)<;>(refine D_leq rfl rfl rfl rfl (fun T=>?_) (fun T=>?_)<;>try omega)<;>(refine D_R rfl rfl (fun W i=>Ae rfl (AE rfl dz)) ?_))
  refine D_E rfl ?_;refine Ag (Cd N false) rfl ?_ ?_
  ·rintro v j⟨_,S,_⟩;cases S
  rintro V j⟨rfl,S,rfl⟩;refine go ?_;exact Ab ⟨rfl,Z.trans M,by simp[nodeC,z]⟩
 refine CQ (rd 0 14 (.alt 14 .done .stop)) Ap EO (by repeat (first|exact Be|refine BI ?_)) (fun N M H=>⟨Ext N,?_,?_⟩)
 ·exact FQ
 have P:=n.E M O;have l:∀W,Ext N W->W.cell? ⟨b,o+4,none⟩=some (.slice a f.args.length c):=fun W e=>((Z.trans M).trans e).cell (t 4 _ rfl) O;have m:∀W,Ext N W->W.cell? ⟨b,o+2,none⟩=some (iV f.val):=fun W e=>((Z.trans M).trans e).cell (t 2 _ rfl) O;have k:∀W,Ext N W->W.cell? ⟨b,o+3,none⟩=some (iV f.bound):=fun W e=>((Z.trans M).trans e).cell (t 3 _ rfl) O;have g:∀W,Ext N W->W.cell? ⟨w.heap.size,0+4,none⟩=some (iV (s.least:Int)):=fun W e=>(P.E e O).cell rfl;have p:∀W,Ext N W->W.cell? ⟨w.heap.size,0+5,none⟩=some (iV (s.most:Int)):=fun W e=>(P.E e O).cell rfl;have q:∀W,Ext N W->W.cell? ⟨w.heap.size,0+6,none⟩=some (iV (s.val:Int)):=fun W e=>(P.E e O).cell rfl;have d:∀W,Ext N W->W.cell? ⟨w.heap.size,0+7,none⟩=some (iV (s.bound:Int)):=fun W e=>(P.E e O).cell rfl;((refine D_R rfl rfl (fun W i=>AX rfl dz) ?_)<;>(refine D_R rfl rfl (fun W i=>AG rfl dz) ?_)<;>(refine D_R rfl rfl (fun W i=>AB rfl dz) ?_)<;>(refine D_R rfl rfl (fun W i=>AH rfl (k W i) dz) ?_)<;>(refine D_geq rfl rfl rfl rfl (fun T=>?_) (fun T=>?_)<;>try omega)<;>(refine D_R rfl rfl (fun W i=>AE rfl dz) ?_)<;>(refine D_R rfl rfl (fun W i=>AK rfl (AX rfl dz)) ?_)<;>(refine D_R rfl rfl (fun W i=>AK rfl (AG rfl dz)) ?_)<;>(refine D_R rfl rfl (fun W i=>AK rfl (AB rfl dz)) ?_)<;>(refine D_R rfl rfl (fun W i=>AK rfl (AH rfl (k W i) dz)) ?_)<;>(refine D_R rfl rfl (fun W i=>AK rfl (AB rfl dz)) ?_)<;>(refine D_R rfl rfl (fun W i=>AK rfl (AH rfl (d W i) dz)) ?_)<;>(refine D_leq rfl rfl rfl rfl (fun T=>?_) (fun T=>?_)<;>try omega)<;>(refine D_R rfl rfl (fun W i=>Ae rfl (AE rfl dz)) ?_))
 refine D_E rfl ?_;refine Ag (Cd N true) rfl ?_ ?_;rotate_left
 ·rintro V j⟨_,S,_⟩;cases S
 rintro v j⟨rfl,S,rfl⟩;refine AA ⟨Ext j,fun _ e=>e,Ext.refl _,?_⟩;refine Bc ?_;repeat refine nx rfl ?_
 replace Z:=Z.trans M;clear l m k g p q d M H n;have n:=P;clear P;have C:=Z.cell (t 0 _ rfl) O;have B:=Z.cell (t 1 _ rfl) O;by_cases D:f.op=3
 ·(refine AJ (AX rfl (AG rfl (AB rfl ?_)))<;>refine AH rfl ER ?_<;>(refine Bf rfl rfl (fun T=>?_) (fun T=>?_)<;>try omega)<;>refine AE rfl (Ah rfl (Ah rfl (Ah rfl (Ah rfl (Ah rfl (Ae rfl (AE rfl ?_))))))))
  refine Ag (Cd _ true) rfl ?_ ?_;rotate_left
  ·rintro V j⟨_,S,_⟩;cases S
  rintro v j⟨rfl,S,rfl⟩;repeat refine nx rfl ?_
  exact A1 rfl ⟨rfl,Z,by simp[nodeC,r,u,x,G,y,z,D]⟩
 by_cases h:f.name=[]
 ·(refine AJ (AX rfl (AG rfl (AB rfl ?_)))<;>refine AH rfl ER ?_<;>(refine Bf rfl rfl (fun T=>?_) (fun T=>?_)<;>try omega)<;>refine AE rfl (AK rfl (AX rfl (AK rfl (AG rfl (AK rfl (AB rfl (AK rfl ?_)))))))<;>refine AH rfl ER ?_<;>(refine AK rfl ?_;refine Bg rfl rfl (fun T=>?_) (fun T=>?_))<;>refine Ad rfl (AE rfl ?_))
  case refine_2=>exact absurd h ER
  refine Ag (Cd _ true) rfl ?_ ?_;rotate_left
  ·rintro V j⟨_,S,_⟩;cases S
  rintro v j⟨rfl,S,rfl⟩;repeat refine nx rfl ?_
  exact A1 rfl ⟨rfl,Z,by simp[nodeC,r,u,x,G,y,z,h]⟩
 ·(refine AJ (AX rfl (AG rfl (AB rfl ?_)))<;>refine AH rfl ER ?_<;>(refine Bf rfl rfl (fun T=>?_) (fun T=>?_)<;>try omega)<;>refine AE rfl (AK rfl (AX rfl (AK rfl (AG rfl (AK rfl (AB rfl (AK rfl ?_)))))))<;>refine AH rfl ER ?_<;>(refine AK rfl ?_;refine Bg rfl rfl (fun T=>?_) (fun T=>?_))<;>refine Ad rfl (AE rfl ?_))
  case refine_1=>exact absurd ER h
  refine Ag (Cd _ false) rfl ?_ ?_
  ·rintro v j⟨_,S,_⟩;cases S
  rintro V j⟨rfl,S,rfl⟩;refine go ?_;exact Ab ⟨rfl,Z,by simp[nodeC,D,h]⟩
end Go.Proofs.YtjbocjodncbogaaGreatDoor
