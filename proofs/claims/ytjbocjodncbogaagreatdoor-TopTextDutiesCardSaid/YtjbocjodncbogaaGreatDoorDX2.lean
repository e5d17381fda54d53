/- TopTextDuties, part 2 of 15: lemmas. Conditions: none. -/
import Derived.Test.YtjbocjodncbogaaGreatDoorDX1
import Derived.Maps.RangeRun
import Derived.Test.YtjbocjodncbogaaGreatDoorRows
import Derived.RecoverIn
namespace Go.Proofs.YtjbocjodncbogaaGreatDoor
open Go.RowKit Go.Proofs.Tryz
set_option linter.unusedVariables false
set_option linter.defProp false
noncomputable abbrev Zp:=Tryz.prog
section
variable {mk:Prop}[MK mk]
attribute [local semireducible] WC AF CO B0 Cx B8 Cc CB
variable {P:Program}{all:Array Oper}{Z:Fr->DS->List PanicEntry->World->Prop}{K:Fr->DS->World->Prop}{rest:List Oper}{f:Fr}{ds:DS}{w:World}
 {d:Nat}{ty:TypeId}{pos:String}{af:Array Edge}
def Lp(w:World)(l n:Nat)(A:List Nat)(N body:Code)(f:Fr)(M:LoopState)(r:Option Code):Prop:=
 ∃fn e a,w.heap[l]?=some (.loop ⟨M,r,fn,e,A.toArray,N,body,a⟩)/\e.size=n/\Bi {tmps:=e,defers:=[]}=f
theorem Lp.lt{l n:Nat}{A:List Nat}{N body:Code}{M:LoopState}{r:Option Code}(h:Lp w l n A N body f M r):l<w.heap.size:=by
 obtain⟨_,_,_,h,_⟩:=h;exact(FM.1 h).1
theorem Lp.E{X:List Nat}{w':World}{l n:Nat}{A:List Nat}{N body:Code}{M:LoopState}{r:Option Code}(h:Lp w l n A N body f M r)(k:Keep X w w')(g:l∉X):Lp w' l n A N body f M r:=by
 have z:=h.lt;obtain⟨fn,e,a,c,W⟩:=h;exact⟨fn,e,a,(k.block l z g).Q c,W⟩
theorem Nh{l:Nat}{r:Loop}(h:w.heap[l]?=some (.loop r)):(Instr.getLoop l).run P w=.ok r w:=by
 simp[Instr.getLoop,getObj,Sem.run,h]
def Er(w:World)(l:Nat)(o:Obj):World:={w with heap:=w.heap.setIfInBounds l o}
theorem QS{l:Nat}{r:Loop}(o:Obj)(h:w.heap[l]?=some (.loop r)):(setObj l o).run P w=.ok () (Er w l o):=by
 simp[setObj,Sem.run,h,Er]
theorem UC(l:Nat)(o:Obj)(k:Nat)(a:k≠l):(Er w l o).heap[k]?=w.heap[k]?:=by
 simp only[Er];rw[TH (by simpa[eq_comm]using a)]
theorem OO(l:Nat)(o:Obj)(a:∀c t Q,o≠ .cells c t Q):Keep [l] w (Er w l o):=by
 refine⟨rfl,rfl,rfl,by simp[Er],fun k _ i=>UC l o k (by simpa using i),fun _=>JJ (g:=l) (by simp[Er]) (UC l o) fun c t Q e=>?_,AO _⟩;by_cases h:l<w.heap.size
 ·have:(Er w l o).heap[l]?=some o:=by simp[Er,h]
  rw[this]at e;cases e;exact absurd rfl (a c t Q)
 ·rw[Le (by simp[Er];omega)]at e;cases e
theorem OP(l:Nat)(o:Obj):(Er w l o).heap.size=w.heap.size:=by simp[Er]
theorem Wa{l:Nat}(o:Obj)(h:l<w.heap.size):(Er w l o).heap[l]?=some o:=by simp[Er,h]
def YldP(P:Program)(c:Value)(args:LV)(w:World)(R:Value->World->Prop)(Z:List PanicEntry->World->Prop):Prop:=
 ∃y g a N body Q,c=.func (.yield y) #[] #[]/\(Instr.yield y args.toArray).run P w=.ok (.round y g a N body) Q/\
  RoundIn Fence.wide 0 P y g a N body Q fun e T=>match e with| .returned v=>R v T| .panicked ch=>Z ch T| .outgrown=>False
theorem YldP.mono{c:Value}{args:LV}{R D:Value->World->Prop}{Y x:List PanicEntry->World->Prop}(h:YldP P c args w R Y)(k:∀v w',R v w'->D v w')(p:∀a w',Y a w'->x a w'):YldP P c args w D x:=by
 obtain⟨y,g,l,N,body,Q,i,W,j⟩:=h;refine⟨y,g,l,N,body,Q,i,W,Ju j fun e w' B=>?_⟩;cases e with
 |returned v=>exact k v w' B
 |panicked a=>exact p a w' B
 |outgrown=>exact B
theorem iU{t:Nat}{c:Value}{xs:List Operand}{m:Array TypeId}{vs:LV}{R:Value->World->Prop}{Y:List PanicEntry->World->Prop}
  (j:f t=c)(G:evL f xs=vs)(T:YldP P c vs w R Y)(h:∀v w',R v w'->AF P all Z K rest (upd f d v) ds w')(p:∀a w',Y a w'->Z f ds a w'):
  AF P all Z K (⟨some d,.call ⟨.value (.tmp t),xs.toArray,m⟩,ty,pos,af,none⟩::rest) f ds w:=by
 obtain⟨y,g,l,N,body,Q,rfl,W,i⟩:=T
 have k:(execOp (ev f) ⟨some d,.call ⟨.value (.tmp t),xs.toArray,m⟩,ty,pos,af,none⟩).run P w=.ok (.round y g l N body) Q:=by
  rw[J5]at G;simp only[execOp,resolve,ev,j,Deferred.ofValue,BX,Cq,Bc,invoke];simp[G,W]
 unfold AF;simp only[CY,DN,CB,k];refine Ju i fun e w' B=>?_;cases e with
 |returned v=>exact h v w' B
 |panicked a=>exact p a w' B
 |outgrown=>exact B
theorem Mh{t:Nat}{a:Value}{xs:List Operand}{m:Array TypeId}{vs:LV}{R:Value->World->Prop}
  (c:f t=a)(G:evL f xs=vs)(T:YldP P a vs w R fun _ _=>False)(h:∀v w',R v w'->AF P all Z K rest (upd f d v) ds w'):
  AF P all Z K (⟨some d,.call ⟨.value (.tmp t),xs.toArray,m⟩,ty,pos,af,none⟩::rest) f ds w:=iU c G T h fun _ _ h=>h.elim
def ovz:List (Nat×Value)->Fr->Fr
 | [],f=>f
 |(t,v)::l,f=>ovz l (upd f t v)
theorem U8:∀(l:List (Nat×Value))(tmps:Array Value),(l.foldl (fun tmps(p:Nat×Value)=>tmps.setIfInBounds p.1 p.2) tmps).size=tmps.size
 | [],_=>rfl
 |_::l,tmps=>by rw[X7,U8 l];simp
theorem VD:∀(l:List (Nat×Value))(tmps:Array Value),(∀p∈l,p.1<tmps.size)->
  Bi {tmps:=l.foldl (fun tmps(p:Nat×Value)=>tmps.setIfInBounds p.1 p.2) tmps,defers:=[]}=ovz l (Bi {tmps:=tmps,defers:=[]})
 | [],_,_=>rfl
 |(t,v)::l,tmps,h=>by
  rw[X7,VD l _ (by intro p C;rw[Array.size_setIfInBounds];exact h p (by simp[C]))];simp only[ovz]
  congr 1
  exact Om (a:={tmps:=tmps,defers:=[]}) (d:=t) v (h (t,v) O)
def TD(l n:Nat)(A:List Nat)(N body:Code)(a:Fr)(R:Value->World->Prop):CQ
 | .normal=>fun _ _ w=>(∃M y,Lp w l n A N body a M y)/\∀X,Keep [l] w X->X.heap.size=w.heap.size->Lp X l n A N body a .ready none->R (.bool true) X
 | .ret=>fun _ _ w=>(∃M y,Lp w l n A N body a M y)/\∀X,Keep [l] w X->X.heap.size=w.heap.size->Lp X l n A N body a .done (some .ret)->R (.bool false) X
 | .exit i=>fun _ _ w=>(∃M y,Lp w l n A N body a M y)/\∀X,Keep [l] w X->X.heap.size=w.heap.size->Lp X l n A N body a .done (some (.exit i))->R (.bool false) X
 |_=>fun _ _ _=>False
def Iy(k:Fr->DS->World->Prop):CQ
 | .normal=>k
 |_=>fun _ _ _=>False
theorem QI{l n:Nat}{A:List Nat}{N body:Code}{c:Fr}{M:LoopState}{y:Option Code}(a:Option Code)(h:Lp w l n A N body c M y):
  ∃w',(Instr.endRound l a).run P w=.ok (.bool a.isNone) w'/\Keep [l] w w'/\w'.heap.size=w.heap.size/\Lp w' l n A N body c (if a.isNone then .ready else .done) a:=by
 have z:=h.lt;obtain⟨fn,e,i,g,W,j⟩:=h;refine⟨Er w l _,?_,OO l _ (fun _ _ _ h=>by cases h),OP l _,fn,e,i,Wa _ z,W,j⟩;simp only[Instr.endRound,BX,Nh g,Bc,QS _ g,Cq]
theorem Zz{l n:Nat}{A:List Nat}{N body:Code}{a:Fr}{y:Option Code}(h:Lp w l n A N body a .ready y):
  ∃w',(Instr.beginRound l).run P w=.ok () w'/\Keep [l] w w'/\w'.heap.size=w.heap.size/\Lp w' l n A N body a .busy y:=by
 have z:=h.lt;obtain⟨fn,e,g,c,W,i⟩:=h;refine⟨Er w l _,?_,OO l _ (fun _ _ _ h=>by cases h),OP l _,fn,e,g,Wa _ z,W,i⟩;simp only[Instr.beginRound,BX,Nh c,Bc,QS _ c,Cq]
theorem iL{l n:Nat}{A:List Nat}{N body:Code}{s:Fr}{pd:Option Code}{args:LV}{R:Value->World->Prop}{Y:List PanicEntry->World->Prop}(X:Lp w l n A N body s .ready pd)
  (hp:args.length=A.length)(a1:A.all (fun t=>Nat.blt t n)=true)(D:(D9 n true N&&D9 n true body)=true)
  (h:WC P ⟨n,some l⟩ N (Iy fun G Q w'=>Lp w' l n A N body s .ready none/\∀L,Keep [l] w' L->L.heap.size=w'.heap.size->(∃z a3,Lp L l n A N body s z a3)->WC P ⟨n,some l⟩ body (TD l n A N body s R) G Q L) (ovz (A.zip args) s) [] w):
  YldP P (.func (.yield l) #[] #[]) args w R Y:=by
 obtain⟨fn,c,a4,H,W,I⟩:=X;have a2:¬args.toArray.size≠A.toArray.size:=by simp[hp]
 refine⟨l,fn,((A.zip args).foldl (fun c(p:Nat×Value)=>c.setIfInBounds p.1 p.2) c),N,body,w,rfl,?_,?_⟩
 ·simp only[Instr.yield,BX,Nh H,Bc,AG a2,Cq]
  congr 2
  rw[<-Array.foldl_toList];simp
 ·simp only[AZ]at D;refine Ju (R:=Pq R Y) (roundIn_of_wpIn (F:=Fence.wide) trivial ?_) (fun e a5 B=>by cases e<;>exact B);have V:(A.zip args).foldl (fun c(p:Nat×Value)=>c.setIfInBounds p.1 p.2) c=(A.zip args).foldl (fun c(p:Nat×Value)=>c.setIfInBounds p.1 p.2) c:=rfl;have j:Fence.wide.inRound l=rnd (some l):=rfl;rw[j]
  refine Hi (HK (P:=P) (n:=⟨n,some l⟩) N _ _ w ?_ D.1 (by
   rw[VD,I]
   ·exact h
   ·intro p a0;have:=Bu.1 a1 p.1 (List.of_mem_zip a0).1;rw[W];simpa[Ip]using this)) ?_
  ·simp only[U8];exact W
  ·intro e a w' V;obtain⟨hn,V⟩:=V;cases e with
   |normal=>
    obtain⟨hr,S⟩:=V;obtain⟨L,m,T,x,C⟩:=Zz (P:=P) hr;refine⟨L,m,?_⟩;refine Hi (HK (P:=P) (n:=⟨n,some l⟩) body _ a L hn D.2 (S L T x ⟨_,_,C⟩)) ?_;intro e a' w3 V;obtain⟨_,V⟩:=V;cases e with
    |normal=>
     obtain⟨⟨z,E,M⟩,y⟩:=V;obtain⟨g,k,o,q,r⟩:=QI (P:=P) none M;exact⟨_,g,k,y g o q r⟩
    |ret=>
     obtain⟨⟨z,E,M⟩,y⟩:=V;obtain⟨g,k,o,q,r⟩:=QI (P:=P) (some .ret) M;exact⟨_,g,k,y g o q r⟩
    |exit i=>
     obtain⟨⟨z,E,M⟩,y⟩:=V;obtain⟨g,k,o,q,r⟩:=QI (P:=P) (some (.exit i)) M;exact⟨_,g,k,y g o q r⟩
    |goto _=>exact V.elim
    |panic _=>exact V.elim
    |outgrown=>exact V.elim
   |_=>exact V.elim
def LC(Q:CQ)(f:Fr)(ds:DS)(w:World):Option Code->Prop
 |none=>Q .normal f ds w
 |some .ret=>Q .ret f ds w
 |some (.exit i)=>Q (.exit i) f ds w
 |_=>False
theorem bN{l n:Nat}{A:List Nat}{N body:Code}{g:Fr}{M:LoopState}{y:Option Code}(i:(M== .busy)=false)(h:Lp w l n A N body g M y):
  ∃w',(Instr.endLoop l).run P w=.ok y w'/\Keep [l] w w'/\w'.heap.size=w.heap.size:=by
 obtain⟨fn,e,c,a,W,j⟩:=h;refine⟨Er w l (.loop ⟨.exhausted,y,fn,e,A.toArray,N,body,c⟩),?_,OO l _ (fun _ _ _ h=>by cases h),OP l _⟩;simp only[Instr.endLoop,BX,Nh a,Bc,i,D6,Dh,QS _ a,Cq]
theorem aR{n:Nat}{Q:CQ}{g:Operand}{A:List Nat}{N body:Code}{H:FuncId}{v1 v2:LV}[hg:AI P H](hv:ev f g=.func (.func H) v1.toArray v2.toArray)
  (h:∀j,Ext w j->j.heap.size=w.heap.size+2->j.heap[w.heap.size]?=some (.deferred (some []))->Lp j (w.heap.size+1) n A N body f .ready none->
   FnP P H (v1++[.func (.yield (w.heap.size+1)) #[] #[]]++v2) j
    (fun _ l=>∃M y,Lp l (w.heap.size+1) n A N body f M y/\(M== .busy)=false/\
     ∀m,Keep [w.heap.size+1] l m->m.heap.size=l.heap.size->LC Q f ({target:=.collected w.heap.size,args:=#[]}::ds) m y)
    (fun x l=>Q (.panic x) f ({target:=.collected w.heap.size,args:=#[]}::ds) l)):
  WC P ⟨n,none⟩ (.rangeFunc g A.toArray N body) Q f ds w:=by
 rintro a q rfl rfl;obtain⟨fn,X,I,L⟩:=hg.out;refine wpIn_rangeFunc fun r _=>?_;have B:=Mj a
 let j:World:=(w.alloc (.deferred (some []))).alloc (.loop ⟨.ready,none,r,a.tmps,A.toArray,N,body,w.heap.size⟩)
 have k1:Ext w j:=⟨rfl,rfl,rfl,by simp[j];omega,fun k p _=>by
  have:=Gb w (.deferred (some [])) p;rw[<-this]
  exact Gb _ _ rE,fun _ b S=>JI (w:=w.alloc (.deferred (some []))) (by simp) (fun k p=>Gb _ _ p) (fun c t E e=>by rw[HD]at e;cases e) b fun _=>
   JI (w:=w) O (fun k p=>Gb _ _ p) (fun c t E e=>by rw[HD]at e;cases e) b S,AO _⟩
 have s1:j.heap.size=w.heap.size+2:=by simp[j]
 have z:j.heap[w.heap.size]?=some (.deferred (some [])):=by
  have:=HD w (.deferred (some []));rw[<-this];exact Gb _ _ O
 have l1:j.heap[w.heap.size+1]?=some (.loop ⟨.ready,none,r,a.tmps,A.toArray,N,body,w.heap.size⟩):=by
  have:=HD (w.alloc (.deferred (some []))) (.loop ⟨.ready,none,r,a.tmps,A.toArray,N,body,w.heap.size⟩);simpa[j]using this
 refine⟨w.heap.size+1,[{target:=.collected w.heap.size,args:=#[]}],j,{target:=.fn (.func H) v2.toArray,args:=v1.toArray++ #[Value.func (.yield (w.heap.size+1)) #[] #[]]},j,H,(v1++[Value.func (.yield (w.heap.size+1)) #[] #[]]++v2).toArray,j,?_,?_,fun _ _=>trivial,?_,MO,?_⟩
 ·have s:∀o(w:World),(newObj o).run P w=.ok w.heap.size (w.alloc o):=fun _ _=>rfl;simp only[Instr.enterLoop,rnd,BX,s,Cq,Bc,j];simp
 ·rw[B];have G:∀v,ev (Bi a) (.const v)=v:=fun _=>rfl;simp[resolve,hv,G,Deferred.ofValue]
 ·simp only[invoke,callFunc,program];simp[Sem.run,X,I,L]
 ·have hf:=h j k1 s1 z ⟨r,a.tmps,_,l1,q,rfl⟩;have hc:CallsIn Fence.wide (0-1) P H _ j _:=Ov.2 hf;refine SN (F:=rnd none) hc fun e l B=>?_;cases e with
  |returned v=>
   obtain⟨M,y,T,W,V⟩:=B;obtain⟨m,s,C,D⟩:=bN (P:=P) W T;refine⟨y,m,s,?_⟩;have S:=V m C D;cases y with
   |none=>exact⟨q,S⟩
   |some c=>
    cases c with
    |ret=>exact wpIn_ret ⟨q,S⟩
    |exit i=>exact wpIn_exit ⟨q,S⟩
    |_=>exact S.elim
  |panicked x=>exact⟨q,B⟩
  |outgrown=>exact B.elim
def LZ(l:Nat)(M L:World->Prop)(a:Code->World->Prop)(R:Value->World->Prop):CQ
 | .normal=>fun _ _ w=>L w/\∀X,Keep [l] w X->X.heap.size=w.heap.size->M X->R (.bool true) X
 | .ret=>fun _ _ w=>L w/\∀X,Keep [l] w X->X.heap.size=w.heap.size->a .ret X->R (.bool false) X
 | .exit i=>fun _ _ w=>L w/\∀X,Keep [l] w X->X.heap.size=w.heap.size->a (.exit i) X->R (.bool false) X
 |_=>fun _ _ _=>False
theorem qM{k:Fr->DS->World->Prop}(h:k f ds w):Iy k .normal f ds w:=h
theorem M4{l:Nat}{M L:World->Prop}{a:Code->World->Prop}{R:Value->World->Prop}(S:L w)(h:∀w',Keep [l] w w'->w'.heap.size=w.heap.size->M w'->R (.bool true) w'):LZ l M L a R .normal f ds w:=⟨S,h⟩
theorem Qn{l:Nat}{M L:World->Prop}{a:Code->World->Prop}{R:Value->World->Prop}(S:L w)(h:∀w',Keep [l] w w'->w'.heap.size=w.heap.size->a .ret w'->R (.bool false) w'):LZ l M L a R .ret f ds w:=⟨S,h⟩
theorem cC{l i:Nat}{M L:World->Prop}{a:Code->World->Prop}{R:Value->World->Prop}(S:L w)(h:∀w',Keep [l] w w'->w'.heap.size=w.heap.size->a (.exit i) w'->R (.bool false) w'):LZ l M L a R (.exit i) f ds w:=⟨S,h⟩
structure qK(P:Program)(n l:Nat)(ps:List Nat)(asn body:Code)(f:Fr)(Rdy Bsy:World->Prop)(Don:Code->World->Prop):Prop where
 rdy:∀{X:List Nat}{w w':World},Rdy w->Keep X w w'->l∉X->Rdy w'
 bsy:∀{X:List Nat}{w w':World},Bsy w->Keep X w w'->l∉X->Bsy w'
 don:∀{X:List Nat}{w w':World}{c:Code},Don c w->Keep X w w'->l∉X->Don c w'
 lt:∀{w:World},Rdy w->l<w.heap.size
 nocell:∀{w:World},Rdy w->∀o,w.cell? ⟨l,o,none⟩=none
 round:∀{args:LV}{R:Value->World->Prop}{Y:List PanicEntry->World->Prop}{w:World},Rdy w->args.length=ps.length->
  WC P ⟨n,some l⟩ asn (Iy fun f' ds' w'=>Rdy w'/\∀w2,Keep [l] w' w2->w2.heap.size=w'.heap.size->Bsy w2->WC P ⟨n,some l⟩ body (LZ l Rdy Bsy Don R) f' ds' w2) (ovz (ps.zip args) f) [] w->
  YldP P (.func (.yield l) #[] #[]) args w R Y
theorem Me{n:Nat}{Q:CQ}{g:Operand}{A:List Nat}{N body:Code}{H:FuncId}(v1 v2:LV)[hg:AI P H](s:ev f g=.func (.func H) v1.toArray v2.toArray)
  (p:(A.all (fun t=>Nat.blt t n)&&(D9 n true N&&D9 n true body))=true)
  (h:∀(m L:World->Prop)(q:Code->World->Prop)(j:World),qK P n (w.heap.size+1) A N body f m L q->Ext w j->j.heap.size=w.heap.size+2->j.heap[w.heap.size]?=some (.deferred (some []))->m j->
   Fn P H (v1++[.func (.yield (w.heap.size+1)) #[] #[]]++v2) j
    (fun _ k=>(m k/\∀i,Keep [w.heap.size+1] k i->i.heap.size=k.heap.size->Q .normal f ({target:=.collected w.heap.size,args:=#[]}::ds) i)\/
     ∃c,q c k/\∀i,Keep [w.heap.size+1] k i->i.heap.size=k.heap.size->LC Q f ({target:=.collected w.heap.size,args:=#[]}::ds) i (some c))):
  WC P ⟨n,none⟩ (.rangeFunc g A.toArray N body) Q f ds w:=by
 simp only[AZ]at p;refine aR s fun j B F r C=>?_
 refine FnP.mono (h (fun X=>Lp X (w.heap.size+1) n A N body f .ready none) (fun X=>∃M l,Lp X (w.heap.size+1) n A N body f M l) (fun c X=>Lp X (w.heap.size+1) n A N body f .done (some c)) j
  ⟨fun a b c=>a.E b c,fun⟨M,l,a⟩ b c=>⟨M,l,a.E b c⟩,fun a b c=>a.E b c,fun a=>a.lt,(fun a o=>by obtain⟨_,_,_,e,_⟩:=a;simp[World.cell?,e]),fun{args R Y X}hr hl hw=>?_⟩ B F r C) ?_ (fun _ _ z=>z.elim)
 ·have e:LZ (w.heap.size+1) (fun X=>Lp X (w.heap.size+1) n A N body f .ready none) (fun X=>∃M l,Lp X (w.heap.size+1) n A N body f M l) (fun c X=>Lp X (w.heap.size+1) n A N body f .done (some c)) R=TD (w.heap.size+1) n A N body f R:=by
   funext e;cases e<;>rfl
  rw[e]at hw;refine iL hr hl p.1 (by rw[AZ];exact p.2) ?_;exact hw
 ·rintro v k (⟨a,b⟩|⟨c,a,b⟩)
  ·exact⟨_,_,a,rfl,fun i x y=>b i x y⟩
  ·exact⟨_,_,a,rfl,fun i x y=>b i x y⟩
theorem HN{g:FuncId}{fn:Func}{c:Code}{args:LV}{R:Value->World->Prop}(a:P.funcs[g]?=some fn)(S:fn.body=some c){n:Nat}(H:fn.ntmps=n)(N:args.length<=n)(e:D9 n false c=true)
  (h:WC P ⟨n,none⟩ c (Cc P fn R fun _ _=>False) (Hu args) [] w):Fn P g args w R:=eZ a S H N e h
theorem Zv{b:Nat}(h:w.heap[b]?=some (.deferred (some []))):∃w',(Instr.takeDeferred b).run P w=.ok [] w'/\Keep [b] w w'/\w'.heap.size=w.heap.size:=by
 refine⟨Er w b (.deferred none),?_,OO b _ (fun _ _ _ h=>by cases h),OP b _⟩;simp[Instr.takeDeferred,getObj,setObj,Sem.run,h,Er]
section
variable {fn:Func}{R:Value->World->Prop}{Y:List PanicEntry->World->Prop}{t u v b:Nat}
theorem Qw(B:fn.results.toList=[.tmp t])(h:R (f t) w):Cc P fn R Y .ret f [] w:=by
 simp only[Cc,lv,B];exact h
theorem GI{a:Array Value}(S:w.heap[b]?=some (.deferred (some [])))(h:∀w',Keep [b] w w'->w'.heap.size=w.heap.size->Cc P fn R Y .ret f ds w'):Cc P fn R Y .ret f ({target:=.collected b,args:=a}::ds) w:=by
 obtain⟨w',c,W,e⟩:=Zv (P:=P) S;simp only[Cc];refine⟨by simp,.inl ⟨b,w',rfl,c,h w' W e⟩⟩
end
attribute [irreducible] Iy LZ TD YldP
end
section
variable {mk:Prop}[MK mk]
attribute [local semireducible] WC AF CO B0 Cx B8 Cc CB
variable {P:Program}{all:Array Oper}{Z:Fr->DS->List PanicEntry->World->Prop}{K:Fr->DS->World->Prop}{rest:List Oper}{f:Fr}{ds:DS}{w:World}
 {d:Nat}{ty:TypeId}{pos:String}{af:Array Edge}
end
section
variable {mk:Prop}[MK mk]
attribute [local semireducible] WC AF CO B0 Cx B8 Cc CB
variable {P:Program}{all:Array Oper}{Z:Fr->DS->List PanicEntry->World->Prop}{K:Fr->DS->World->Prop}{rest:List Oper}{f:Fr}{ds:DS}{w:World}
 {d:Nat}{ty:TypeId}{pos:String}{af:Array Edge}
theorem Cu{T B:TypeId}{a:Operand}{b n:Nat}{L:LV}[hT:DU P T n](G:ev f a=.pointer (sm b))(S:Blk w b B L)(N:L.length=n)
  (h:AF P all Z K rest (upd f d (.agg L.toArray)) ds w):AF P all Z K (⟨some d,.load T a,ty,pos,af,none⟩::rest) f ds w:=Al G N S.cells h
class Pa (P:Program) (T:TypeId):Prop where
 out:P.underlying T=some .bool
theorem TJ{T:TypeId}[hT:Pa P T](a b:Bool):(Op.equal T (.bool a) (.bool b)).run P w=.ok (a==b) w:=by
 unfold Op.equal;rw[show Op.maxDepth=9999+1 from rfl,run_equalIn_bool' w 9999 T a b hT.out]
theorem og{T c:TypeId}{x y:Operand}{a b:Bool}[hT:Pa P T](V:ev f x=.bool a)(I:ev f y=.bool b)(h:AF P all Z K rest (upd f d (.bool (a==b))) ds w):AF P all Z K (⟨some d,.binOp .eql T x y c,ty,pos,af,none⟩::rest) f ds w:=by
 refine At rfl ?_ h;simp[execOp,V,I,eqGuard,binOp,TJ]
theorem oh{T c:TypeId}{x y:Operand}{a b:Bool}[hT:Pa P T](V:ev f x=.bool a)(I:ev f y=.bool b)(h:AF P all Z K rest (upd f d (.bool (a !=b))) ds w):AF P all Z K (⟨some d,.binOp .neq T x y c,ty,pos,af,none⟩::rest) f ds w:=by
 refine At rfl ?_ h;simp[execOp,V,I,eqGuard,binOp,TJ,bne]
end
def Dd:=@Option.map_eq_some_iff
def By:=@List.mem_map
def Jo:=@List.lookup_cons
def RJ:=@beq_false_of_ne
def EG:=@List.map_cons
def HF:=@List.map_map
def Cl:=@List.getElem?_map
def QN:=@MapKept.run_findKey
def Cn:=@List.getElem?_of_mem
def BA:=@List.mem_of_getElem?
def KW:=@MapKept.run_checkKey
def I5:=@MapKept.run_getObj_map
def Wy:=@MapKept.heap_set
def UL:=@MapKept.stamped_push
def TU:=@MapKept.run_setObj_map
def Wt:=@Array.toList_push
def FB:=@List.map_append
section
variable {mk:Prop}[MK mk]
open Go.ChangeMaps (setBlock)
attribute [local semireducible] WC AF CO B0 Cx B8 Cc CB
variable {P:Program}{all:Array Oper}{Z:Fr->DS->List PanicEntry->World->Prop}{K:Fr->DS->World->Prop}{rest:List Oper}{f:Fr}{ds:DS}{w:World}
 {d:Nat}{ty:TypeId}{pos:String}{af:Array Edge}
class KH (P:Program) (T:TypeId) (z:outParam Value):Prop where
 out:∃kt et i,P.underlying T=some (.map kt et)/\P.underlying kt=some .string/\P.info? et=some i/\i.zero=some z
theorem Wg{T l k:TypeId}{z:Value}(a:P.underlying T=some (.map l k))(W:P.underlying l=some .string)(R:(P.info? k).map (·.zero)=some (some z)):KH P T z:=by
 obtain⟨i,F,p⟩:=Dd.1 R;exact⟨l,k,i,a,W,F,p⟩
def KP(p:LU×Value):Value×Value:=(AA p.1,p.2)
theorem lD{a b:LU}(h:AA a=AA b):a=b:=by simpa using h
def rdS(e:MapEntry):Value×Value:=(e.key,e.val)
def SMap(w:World)(r:Nat)(L:List (LU×Value)):Prop:=
 ∃N g,w.heap[r]?=some (.map N g)/\MapKept.Stamped N g/\N.toList.map rdS=L.map KP
theorem SMap.lt{r:Nat}{L:List (LU×Value)}(h:SMap w r L):r<w.heap.size:=by
 obtain⟨N,c,a,_⟩:=h;exact(FM.1 a).1
theorem SMap.E{X:List Nat}{w':World}{r:Nat}{L:List (LU×Value)}(h:SMap w r L)(k:Keep X w w')(B:r∉X):SMap w' r L:=by
 obtain⟨N,c,a,W,R⟩:=id h;exact⟨N,c,(k.block r h.lt B).Q a,W,R⟩
theorem jU{N:List MapEntry}{L:List (LU×Value)}(h:N.map rdS=L.map KP):∀x∈N,MapKept.IsKey .string x.key:=by
 intro x V;have:rdS x∈L.map KP:=by rw[<-h];exact By.2 ⟨x,V,rfl⟩
 obtain⟨p,_,e⟩:=By.1 this;have:x.key=AA p.1:=(congrArg Prod.fst e).symm;rw[this];trivial
theorem aL{L:List (LU×Value)}{x:LU}(h:∀p∈L,p.1≠x):L.lookup x=none:=by
 induction L with
 |nil=>rfl
 |cons q L ih=>
  exact uS
theorem di{L:List (LU×Value)}(H:(L.map (·.1)).Nodup){p:LU×Value}(C:p∈L):L.lookup p.1=some p.2:=by
 induction L with
 |nil=>cases C
 |cons q L ih=>
  simp only[EG,List.nodup_cons]at H;obtain⟨a,b⟩:=q;rcases BI.1 C with rfl|C
  ·simp[List.lookup]
  ·have:p.1≠a:=fun e=>H.1 (By.2 ⟨p,C,e⟩);rw[Jo,RJ this];exact ih H.2 C
theorem OG{r:Nat}{L:List (LU×Value)}(h:SMap w r L):(L.map (·.1)).Nodup:=by
 obtain⟨N,c,_,⟨_,_,W⟩,R⟩:=h
 have e:N.toList.map (·.key)=L.map (fun p=>AA p.1):=by
  have:=congrArg (List.map Prod.fst) R;simpa[rdS,KP,HF,Function.comp_def]using this
 rw[e]at W;have A:((L.map (·.1)).map (fun x=>AA x)).Nodup:=by rw[HF];exact W
 exact List.Pairwise.of_map _ (fun a b B e=>B (by rw[e])) A
theorem Od{b:TypeId}{L:List (LU×Value)}(g:P.underlying b=some .string){N:Array MapEntry}(r:N.toList.map rdS=L.map KP)(H:(L.map (·.1)).Nodup)(x:LU)(w:World):
  (L.lookup x=none/\(Instr.findKey b (AA x) N.toList).run P w=.ok none w/\∀e∈N.toList,e.key≠AA x)\/
  ∃i v,L.lookup x=some v/\(Instr.findKey b (AA x) N.toList).run P w=.ok (some (i,v)) w:=by
 have F:∀(i:Nat)(e:MapEntry),N.toList[i]?=some e->∃p,L[i]?=some p/\e.key=AA p.1/\e.val=p.2:=by
  exact td
 rcases MapKept.findNow_spec (d:=.string) (k:=AA x) trivial N.toList 0 (jU r)with⟨a,W⟩|⟨j,e,a,W,R⟩
 ·refine .inl ⟨aL fun p C m=>?_,QN g a,W⟩;obtain⟨i,h⟩:=Cn C;have:=congrArg (fun l=>l[i]?) r;simp only[Cl,h,GG]at this;obtain⟨e,B,u⟩:=Dd.1 this;refine W e (BA B) ?_;rw[show e.key=AA p.1 from congrArg Prod.fst u,m]
 ·obtain⟨p,C,c,u⟩:=F j e W;rw[R]at c;have V:=lD c;refine .inr ⟨j,p.2,?_,?_⟩
  ·rw[V];exact di H (BA C)
  ·have:=QN (P:=P) (w:=w) g a;rw[this,u,Bs]
theorem QU{T:TypeId}(h:∀w',Ext w w'->w'.heap.size=w.heap.size+1->SMap w' w.heap.size []->AF P all Z K rest (upd f d (.map (some w.heap.size))) ds w'):
  AF P all Z K (⟨some d,.makeMap T none,ty,pos,af,none⟩::rest) f ds w:=by
 refine At (v:=.map (some w.heap.size)) (w':=w.alloc (.map #[] 0)) rfl ?_ (h _ ⟨rfl,rfl,rfl,by simp,fun k a _=>Gb w _ a,fun _=>JI O (fun k a=>Gb w _ a) (fun c t Q e=>by rw[HD]at e;cases e),AO _⟩ O ⟨#[],0,HD w _,MapKept.stamped_empty 0,rfl⟩);have B:(Instr.makeMap T none).run P w=.ok (.map (some w.heap.size)) (w.alloc (.map #[] 0)):=rfl;simp[execOp,B]
theorem Tm{T:TypeId}{m k:Operand}{r:Nat}{x:LU}{z:Value}{L:List (LU×Value)}[hT:KH P T z](n:ev f m=.map (some r))(e:ev f k=AA x)(S:SMap w r L)
  (h:AF P all Z K rest (upd f d (.tuple #[(L.lookup x).getD z,.bool (L.lookup x).isSome])) ds w):AF P all Z K (⟨some d,.lookup T m k true,ty,pos,af,none⟩::rest) f ds w:=by
 obtain⟨l,o,i,b,W,R,A⟩:=hT.out;have H:=OG S;obtain⟨N,g,c,E,q⟩:=S;refine At rfl ?_ h;have I:=KW (P:=P) (w:=w) (k:=AA x) W trivial N.isEmpty 9999;have p:(zeroValue o).run P w=.ok z w:=by simp[zeroValue,typeInfo,R,A]
 rcases Od W q H x w with⟨a,u,_⟩|⟨j,v,a,u⟩
 ·simp[execOp,n,e,Instr.lookup,BV b,I5 c,I,u,p,a]
 ·simp[execOp,n,e,Instr.lookup,BV b,I5 c,I,u,a]
theorem TP{w:World}{r:Nat}{m:Obj}(a:∀c t Q,m≠ .cells c t Q):Keep [r] w {w with heap:=w.heap.setIfInBounds r m}:=
 ⟨rfl,rfl,rfl,by simp,fun k _ b=>by simp[FE (show k≠r by simpa using b)],fun _=>V5 a,AO _⟩
theorem HM{T:TypeId}{m k v:Operand}{r:Nat}{x:LU}{y z:Value}{L:List (LU×Value)}[hT:KH P T z](p:ev f m=.map (some r))(o:ev f k=AA x)(s:ev f v=y)(b:SMap w r L)(V:L.lookup x=none)
  (h:∀w',Keep [r] w w'->w'.heap.size=w.heap.size->SMap w' r (L++[(x,y)])->AF P all Z K rest f ds w'):AF P all Z K (⟨none,.insert T m k v,ty,pos,af,none⟩::rest) f ds w:=by
 obtain⟨l,q,i,n,W,R,A⟩:=hT.out;have H:=OG b;obtain⟨e,g,S,E,c⟩:=b;have I:=KW (P:=P) (w:=w) (k:=AA x) W trivial false 9999;rcases Od W c H x w with⟨a,u,N⟩|⟨j,t,a,u⟩
 ·refine M7 (w':={w with heap:=w.heap.setIfInBounds r (.map (e.push {key:=AA x,val:=y,born:=g}) (g+1))}) rfl ?_ (h _ (TP fun _ _ _ h=>by cases h) O ⟨_,_,(Wy S).1,UL E N,?_⟩)
  ·simp[execOp,p,o,s,Instr.mapUpdate,BV n,I5 S,I,u,TU _ S]
  ·rw[Wt,FB,c];simp[rdS,KP]
 ·rw[a]at V;cases V
end
def JB:=@Prod.mk.injEq
def I7:=@List.cons.injEq
section
variable {mk:Prop}[MK mk]
variable {P:Program}{T:TypeId}
theorem CM{n:Nat}(h:(P.info? T).map (·.size)=some n:=by kernel_rfl):Bw P T n:=by
 obtain⟨i,F,E⟩:=Dd.1 h;exact⟨i,F,E⟩
theorem Ew{n:Nat}{d:TypeDesc}(o:P.underlying T=some d)(x:IT d=true:=by exact rfl)(h:(P.info? T).map (·.size)=some n:=by kernel_rfl):DU P T n:=by
 obtain⟨i,F,E⟩:=Dd.1 h;exact⟨⟨d,o,x⟩,i,F,E⟩
theorem FT{z:Value}{L:LV}(h:(P.info? T).map (·.zero)=some (some z))(p:z.cells=L.toArray):CG P T L:=by
 obtain⟨i,F,E⟩:=Dd.1 h;exact⟨i,z,F,E,p⟩
theorem Ek{e size a:Nat}{z:Value}(o:P.underlying T=some (.slice e))(h:(P.info? e).map (fun i=>(i.zero,i.size,i.bytes))=some (some z,size,a):=by kernel_rfl):SlT P T e size a z:=by
 obtain⟨i,F,A⟩:=Dd.1 h;simp only[JB]at A;exact⟨o,i,F,A.1,A.2.1,A.2.2⟩
theorem Ky{a e size:Nat}(o:P.underlying T=some (.array a e))(h:(P.info? e).map (·.size)=some size):Gt P T a e size:=by
 obtain⟨i,F,E⟩:=Dd.1 h;exact⟨o,i,F,E⟩
theorem A8{i off:Nat}{R:TypeId}{q:Array Field}{Q:Field}{s:Nat}(o:P.underlying T=some (.struct q))(K:q[i]?=some Q:=by exact rfl)(a:Q.offset=off:=by exact rfl)(b:Q.type=R:=by exact rfl)(h:(P.info? R).map (·.size)=some (s+1):=by kernel_rfl):A0 P T i off R:=by
 obtain⟨j,C,E⟩:=Dd.1 h;exact⟨q,Q,o,K,a,b,j,C,by omega⟩
theorem AK{g:FuncId}{fn:Func}(Z:P.funcs[g]?=some fn)(W:(fn.name== "runtime.NumGoroutine")=false:=by kernel_rfl)(R:fn.body.isNone=false:=by kernel_rfl):AI P g:=by
 refine⟨fn,Z,fun e=>?_,fun e=>?_⟩
 ·rw[e]at W;simp at W
 ·rw[e]at R;simp at R
theorem T7:∀(q:List Field)(I:List (Nat×Nat)),q.map (fun f=>(f.offset,(P.info? f.type).map (·.size)))=I.map (fun p=>(p.1,some p.2))->
  ∀w,(q.mapM (m:=Sem) fun f=>do pure (f.offset,<-sizeOf f.type)).run P w=.ok I w
 | [],[],_,w=>by simp
 | [],_::_,h,_=>by simp at h
 |_::_,[],h,_=>by simp at h
 |f::q,p::I,h,w=>by
  simp only[EG,I7,JB]at h;obtain⟨⟨Z,W⟩,R⟩:=h;obtain⟨i,F,E⟩:=Dd.1 W;have n:=T7 q I R w;have u:(sizeOf f.type).run P w=.ok p.2 w:=by simp[sizeOf,typeInfo,F,E]
  simp only[List.mapM_cons,BX,u,Cq,Bc];rw[n];simp[Z]
theorem qB{q:Array Field}{z:Value}{I:List (Nat×Nat)}{zero:LV}(o:P.underlying T=some (.struct q))(h:(P.info? T).map (·.zero)=some (some z))(a:z.cells=zero.toArray)
  (C:q.toList.map (fun f=>(f.offset,(P.info? f.type).map (·.size)))=I.map (fun p=>(p.1,some p.2))):StT P T I zero:=by
 obtain⟨i,F,E⟩:=Dd.1 h;refine⟨q,i,z,o,F,E,a,fun w=>?_⟩;have:=T7 q.toList I C w;rw[Array.mapM_eq_mapM_toList];have r:∀(x:Sem (List (Nat×Nat))),(Functor.map List.toArray x:Sem (Array (Nat×Nat)))=x >>= fun l=>pure l.toArray:=fun _=>rfl;rw[r,BX,this];simp
theorem Em{L:LV}(h:(P.info? T).map (·.zero)=some (some (.agg L.toArray)):=by kernel_rfl):CG P T L:=FT h rfl
theorem stA{q:Array Field}{I:List (Nat×Nat)}{zero:LV}(o:P.underlying T=some (.struct q))(h:(P.info? T).map (·.zero)=some (some (.agg zero.toArray)):=by kernel_rfl)(C:q.toList.map (fun f=>(f.offset,(P.info? f.type).map (·.size)))=I.map (fun p=>(p.1,some p.2)):=by kernel_rfl):StT P T I zero:=qB o h rfl C
end
def N3:=@List.drop_take
section
variable {mk:Prop}[MK mk]
attribute [local semireducible] WC AF CO B0 Cx B8 Cc CB
section
variable {P:Program}{all:Array Oper}{Z:Fr->DS->List PanicEntry->World->Prop}{K:Fr->DS->World->Prop}{rest:List Oper}{f:Fr}{ds:DS}{w:World}
 {d:Nat}{ty:TypeId}{pos:String}{af:Array Edge}
theorem A7{x:Operand}{a:Addr}(V:ev f x=.pointer (some a))(h:AF P all Z K rest (upd f d (.pointer (some a))) ds w):
  AF P all Z K (⟨some d,.nilCheck x,ty,pos,af,none⟩::rest) f ds w:=
 At rfl (by simp[execOp,V]) h
theorem FF{a:TypeId}{x i:Operand}{k:IntKind}{s:LU}{j:Nat}{c:UInt8}[hT:Jd P a](V:ev f x=AA s)(F:ev f i=.int k (j:Int))(T:s[j]?=some c)(h:AF P all Z K rest (upd f d (Gu c)) ds w):
  AF P all Z K (⟨some d,.index a x i,ty,pos,af,none⟩::rest) f ds w:=
 iT V F U (by simpa using T) h
theorem QA(s:LU)(l h:Nat):(⟨s.toArray⟩:ByteArray).extract l h=⟨((s.take h).drop l).toArray⟩:=by
 apply ByteArray.ext;simp[ByteArray.data_extract,N3]
theorem aW{i:TypeId}{x c F:Operand}{k S:IntKind}{s:LU}{l Q:Nat}[hT:Jd P i](V:ev f x=AA s)(N:ev f c=.int k (l:Int))(H:ev f F=.int S (Q:Int))(a:l<=Q)(W:Q<=s.length)
  (h:AF P all Z K rest (upd f d (AA ((s.take Q).drop l))) ds w):AF P all Z K (⟨some d,.slice i x (some c) (some F) none,ty,pos,af,none⟩::rest) f ds w:=by
 refine At (v:=AA ((s.take Q).drop l)) rfl ?_ h;have e:(⟨s.toArray⟩:ByteArray).size=s.length:=by simp[ByteArray.size]
 have D:(0:Int)<=(l:Int)/\(l:Int)<=(Q:Int):=by omega
 have I:(0:Int)<=(Q:Int)/\(Q:Int)<=((s.length:Nat):Int):=by omega
 simp only[execOp,V,N,H,GG,Ic,Instr.sliceAt,BX,BV hT.out,Bc,Instr.slice,Instr.sliceBounds,Instr.sliceBound,asIntOf,Cq,e];simp[I,D,QA,a,W]
theorem QV{i:TypeId}{x c:Operand}{k:IntKind}{s:LU}{l:Nat}[hT:Jd P i](V:ev f x=AA s)(N:ev f c=.int k (l:Int))(a:l<=s.length)
  (h:AF P all Z K rest (upd f d (AA (s.drop l))) ds w):AF P all Z K (⟨some d,.slice i x (some c) none none,ty,pos,af,none⟩::rest) f ds w:=by
 refine At (v:=AA (s.drop l)) rfl ?_ h;have e:(⟨s.toArray⟩:ByteArray).size=s.length:=by simp[ByteArray.size]
 simp only[execOp,V,N,GG,Ic,Instr.sliceAt,BX,BV hT.out,Bc,Instr.slice,Instr.sliceBounds,Instr.sliceBound,asIntOf,Cq,e];simp[QA,a]
theorem Lv{i:TypeId}{x F:Operand}{k:IntKind}{s:LU}{l:Nat}[hT:Jd P i](V:ev f x=AA s)(N:ev f F=.int k (l:Int))(a:l<=s.length)
  (h:AF P all Z K rest (upd f d (AA (s.take l))) ds w):AF P all Z K (⟨some d,.slice i x none (some F) none,ty,pos,af,none⟩::rest) f ds w:=by
 refine At (v:=AA (s.take l)) rfl ?_ h;have e:(⟨s.toArray⟩:ByteArray).size=s.length:=by simp[ByteArray.size]
 simp only[execOp,V,N,GG,Ic,Instr.sliceAt,BX,BV hT.out,Bc,Instr.slice,Instr.sliceBounds,Instr.sliceBound,asIntOf,Cq,e];simp[QA,a]
theorem Rt{T a e:Nat}{x i:Operand}{k:IntKind}{L:LV}{j:Nat}{v:Value}[hT:Gt P T a e 1][he:CP P e](l:ev f x=.agg L.toArray)(F:ev f i=.int k (j:Int))(C:j<a)(s:L[j]?=some v)
  (h:AF P all Z K rest (upd f d v) ds w):AF P all Z K (⟨some d,.index T x i,ty,pos,af,none⟩::rest) f ds w:=by
 refine At rfl ?_ h;obtain⟨q,V,E⟩:=hT.out;obtain⟨N,b,W⟩:=he.out
 have G:(isAgg e).run P w=.ok false w:=by
  simp only[isAgg,BX,BV b,Bc];cases N<;>simp_all [IT]
 have g:(part e L.toArray j).run P w=.ok v w:=by
  simp only[part,BX,G,Bc];simp[s]
 simp only[execOp,l,F,Instr.index,asIntOf,BX,Cq,Bc,BV hT.und];have c:(0:Int)<=(j:Int)/\(j:Int)<(a:Int):=by omega
 simp[C,sizeOf,typeInfo,V,E,g]
theorem ow{T a e size:Nat}{x i:Operand}{k:IntKind}{L cs:LV}{j:Nat}[hT:Gt P T a e size][he:DU P e size](g:ev f x=.agg L.toArray)(F:ev f i=.int k (j:Int))(C:j<a)(s:(L.drop (j*size)).take size=cs)
  (h:AF P all Z K rest (upd f d (.agg cs.toArray)) ds w):AF P all Z K (⟨some d,.index T x i,ty,pos,af,none⟩::rest) f ds w:=by
 refine At rfl ?_ h;obtain⟨q,V,E⟩:=hT.out;obtain⟨⟨N,b,W⟩,z,l,D⟩:=he.out
 have G:(isAgg e).run P w=.ok true w:=by
  simp only[isAgg,BX,BV b,Bc];cases N<;>simp_all [IT]
 have c:(part e L.toArray (j*size)).run P w=.ok (.agg cs.toArray) w:=by
  simp only[part,BX,G,Bc,sizeOf,typeInfo];simp[V,E,<-s]
 simp only[execOp,g,F,Instr.index,asIntOf,BX,Cq,Bc,BV hT.und];simp[C,sizeOf,typeInfo,V,E,c]
class LG (P:Program) (T:TypeId):Prop where
 out:∃d,P.underlying T=some d/\(match d with| .interface _=>false|_=>true)=true
theorem GN{T:TypeId}{x:Operand}[hT:LG P T](h:AF P all Z K rest (upd f d (.iface T (ev f x))) ds w):AF P all Z K (⟨some d,.makeInterface T x,ty,pos,af,none⟩::rest) f ds w:=by
 obtain⟨N,a,W⟩:=hT.out;refine At rfl ?_ h;simp only[execOp,Instr.makeInterface,BX,BV a,Bc];cases N<;>simp_all
theorem Gj{x:Operand}{T:TypeId}{v:Value}{a:Option Nat}(V:ev f x=.iface T v)(h:Z f ds [{v:=.iface T v,recovered:=false}] w):AF P all Z K (⟨a,.panic x,ty,pos,af,none⟩::rest) f ds w:=by
 unfold AF
 have B:(execOp (ev f) ⟨a,.panic x,ty,pos,af,none⟩).run P w=.halt (.panic (.iface T v)) w:=by
  simp only[execOp,V,Instr.panic];rfl
 simp only[CY,DN,CB,B];exact h
end
section
variable {P:Program}{fn:Func}{R:Value->World->Prop}{Y:List PanicEntry->World->Prop}{f:Fr}{w:World}{ch:List PanicEntry}
theorem Ap(h:Y ch w):B8 P fn R Y (.panic ch) f [] w:=⟨rfl,h⟩
end
end
instance:Pa Zp 4:=⟨underlying4⟩
instance:LG Zp 121:=⟨_,underlying121,rfl⟩
instance:LG Zp 193:=⟨_,underlying193,rfl⟩
instance:LG Zp 229:=⟨_,underlying229,rfl⟩
instance:A0 Zp 101 0 0 59:=A8 (s:=18) underlying101
instance:A0 Zp 101 1 19 37:=A8 (s:=4) underlying101
instance:A0 Zp 121 0 0 28:=A8 (s:=0) underlying121
instance:A0 Zp 121 1 1 3:=A8 (s:=0) underlying121
instance:A0 Zp 126 0 0 90:=A8 (s:=0) underlying126
instance:A0 Zp 126 1 1 3:=A8 (s:=0) underlying126
instance:A0 Zp 126 2 2 123:=A8 (s:=0) underlying126
instance:A0 Zp 126 3 3 123:=A8 (s:=0) underlying126
instance:A0 Zp 129 0 0 9:=A8 (s:=0) underlying129
instance:A0 Zp 129 1 1 4:=A8 (s:=0) underlying129
instance:A0 Zp 129 2 2 3:=A8 (s:=0) underlying129
instance:A0 Zp 137 0 0 134:=A8 (s:=0) underlying137
instance:A0 Zp 137 1 1 135:=A8 (s:=0) underlying137
instance:A0 Zp 139 0 0 137:=A8 (s:=1) underlying139
instance:A0 Zp 152 0 0 3:=A8 (s:=0) underlying152
instance:A0 Zp 152 1 1 4:=A8 (s:=0) underlying152
instance:A0 Zp 160 0 0 9:=A8 (s:=0) underlying160
instance:A0 Zp 160 1 1 89:=A8 (s:=0) underlying160
instance:A0 Zp 160 2 2 3:=A8 (s:=0) underlying160
instance:A0 Zp 163 0 0 9:=A8 (s:=0) underlying163
instance:A0 Zp 163 1 1 3:=A8 (s:=0) underlying163
instance:A0 Zp 163 2 2 3:=A8 (s:=0) underlying163
instance:A0 Zp 163 3 3 3:=A8 (s:=0) underlying163
instance:A0 Zp 163 4 4 3:=A8 (s:=0) underlying163
instance:A0 Zp 163 5 5 3:=A8 (s:=0) underlying163
instance:A0 Zp 163 6 6 3:=A8 (s:=0) underlying163
instance:A0 Zp 163 7 7 3:=A8 (s:=0) underlying163
instance:A0 Zp 163 8 8 3:=A8 (s:=0) underlying163
instance:A0 Zp 170 0 0 3:=A8 (s:=0) underlying170
instance:A0 Zp 170 1 1 9:=A8 (s:=0) underlying170
instance:A0 Zp 170 2 2 3:=A8 (s:=0) underlying170
instance:A0 Zp 185 0 0 22:=A8 (s:=0) underlying185
instance:A0 Zp 185 1 1 183:=A8 (s:=0) underlying185
instance:A0 Zp 185 2 2 3:=A8 (s:=0) underlying185
instance:A0 Zp 185 3 3 3:=A8 (s:=0) underlying185
instance:A0 Zp 185 4 4 3:=A8 (s:=0) underlying185
instance:A0 Zp 193 0 0 28:=A8 (s:=0) underlying193
instance:A0 Zp 193 1 1 3:=A8 (s:=0) underlying193
instance:A0 Zp 197 0 0 9:=A8 (s:=0) underlying197
instance:A0 Zp 197 1 1 3:=A8 (s:=0) underlying197
instance:A0 Zp 197 2 2 90:=A8 (s:=0) underlying197
instance:A0 Zp 199 0 0 3:=A8 (s:=0) underlying199
instance:A0 Zp 199 1 1 3:=A8 (s:=0) underlying199
instance:A0 Zp 199 2 2 3:=A8 (s:=0) underlying199
instance:A0 Zp 221 0 0 3:=A8 (s:=0) underlying221
instance:A0 Zp 221 1 1 3:=A8 (s:=0) underlying221
instance:A0 Zp 221 2 2 3:=A8 (s:=0) underlying221
instance:A0 Zp 221 3 3 3:=A8 (s:=0) underlying221
instance:A0 Zp 221 4 4 4:=A8 (s:=0) underlying221
instance:A0 Zp 221 5 5 4:=A8 (s:=0) underlying221
instance:A0 Zp 221 6 6 4:=A8 (s:=0) underlying221
instance:A0 Zp 221 7 7 4:=A8 (s:=0) underlying221
instance:A0 Zp 25 0 0 22:=A8 (s:=0) underlying25
instance:A0 Zp 25 1 1 23:=A8 (s:=0) underlying25
instance:A0 Zp 250 0 0 5:=A8 (s:=0) underlying250
instance:A0 Zp 250 1 1 5:=A8 (s:=0) underlying250
instance:A0 Zp 250 2 2 3:=A8 (s:=0) underlying250
instance:A0 Zp 255 0 0 89:=A8 (s:=0) underlying255
instance:A0 Zp 255 1 1 4:=A8 (s:=0) underlying255
instance:A0 Zp 265 0 0 22:=A8 (s:=0) underlying265
instance:A0 Zp 265 1 1 45:=A8 (s:=0) underlying265
instance:A0 Zp 265 2 2 262:=A8 (s:=0) underlying265
instance:A0 Zp 265 3 3 263:=A8 (s:=0) underlying265
instance:A0 Zp 292 0 0 35:=A8 (s:=0) underlying292
instance:A0 Zp 292 1 1 35:=A8 (s:=0) underlying292
instance:A0 Zp 37 0 0 3:=A8 (s:=0) underlying37
instance:A0 Zp 37 1 1 9:=A8 (s:=0) underlying37
instance:A0 Zp 37 2 2 3:=A8 (s:=0) underlying37
instance:A0 Zp 37 3 3 3:=A8 (s:=0) underlying37
instance:A0 Zp 37 4 4 35:=A8 (s:=0) underlying37
instance:A0 Zp 47 0 0 45:=A8 (s:=0) underlying47
instance:A0 Zp 47 1 1 45:=A8 (s:=0) underlying47
instance:A0 Zp 57 0 0 9:=A8 (s:=0) underlying57
instance:A0 Zp 57 1 1 9:=A8 (s:=0) underlying57
instance:A0 Zp 57 2 2 3:=A8 (s:=0) underlying57
instance:A0 Zp 57 3 3 37:=A8 (s:=4) underlying57
instance:A0 Zp 59 0 0 57:=A8 (s:=7) underlying59
instance:A0 Zp 59 1 8 3:=A8 (s:=0) underlying59
instance:A0 Zp 59 2 9 37:=A8 (s:=4) underlying59
instance:A0 Zp 59 3 14 37:=A8 (s:=4) underlying59
instance:A0 Zp 78 1 1 28:=A8 (s:=0) underlying78
instance:A0 Zp 83 0 0 81:=A8 (s:=0) underlying83
instance:SlT Zp 135 5 1 1 (.int .u8 0):=Ek underlying135
instance:LP Zp 3 .i64:=⟨underlying3⟩
instance:LP Zp 319 .u64:=⟨underlying319⟩
instance:LP Zp 5 .u8:=⟨underlying5⟩
instance:Jd Zp 9:=⟨underlying9⟩
instance:CP Zp 1:=⟨_,underlying1,rfl⟩
instance:DU Zp 101 24:=Ew underlying101
instance:CP Zp 111:=⟨_,underlying111,rfl⟩
instance:CP Zp 112:=⟨_,underlying112,rfl⟩
instance:CP Zp 123:=⟨_,underlying123,rfl⟩
instance:DU Zp 129 3:=Ew underlying129
instance:CP Zp 134:=⟨_,underlying134,rfl⟩
instance:CP Zp 135:=⟨_,underlying135,rfl⟩
instance:CP Zp 146:=⟨_,underlying146,rfl⟩
instance:CP Zp 154:=⟨_,underlying154,rfl⟩
instance:DU Zp 160 3:=Ew underlying160
instance:DU Zp 163 9:=Ew underlying163
instance:DU Zp 170 3:=Ew underlying170
instance:CP Zp 182:=⟨_,underlying182,rfl⟩
instance:CP Zp 183:=⟨_,underlying183,rfl⟩
instance:DU Zp 199 3:=Ew underlying199
instance:DU Zp 211 10:=Ew underlying211
instance:CP Zp 22:=⟨_,underlying22,rfl⟩
instance:DU Zp 221 8:=Ew underlying221
instance:CP Zp 23:=⟨_,underlying23,rfl⟩
instance:CP Zp 237:=⟨_,underlying237,rfl⟩
instance:CP Zp 241:=⟨_,underlying241,rfl⟩
instance:CP Zp 243:=⟨_,underlying243,rfl⟩
instance:DU Zp 25 2:=Ew underlying25
instance:DU Zp 250 3:=Ew underlying250
instance:DU Zp 251 48:=Ew underlying251
instance:CP Zp 252:=⟨_,underlying252,rfl⟩
instance:CP Zp 253:=⟨_,underlying253,rfl⟩
instance:DU Zp 255 2:=Ew underlying255
instance:CP Zp 256:=⟨_,underlying256,rfl⟩
instance:CP Zp 257:=⟨_,underlying257,rfl⟩
instance:CP Zp 262:=⟨_,underlying262,rfl⟩
instance:CP Zp 263:=⟨_,underlying263,rfl⟩
instance:CP Zp 276:=⟨_,underlying276,rfl⟩
instance:CP Zp 28:=⟨_,underlying28,rfl⟩
instance:DU Zp 283 15:=Ew underlying283
instance:CP Zp 3:=⟨_,underlying3,rfl⟩
instance:CP Zp 35:=⟨_,underlying35,rfl⟩
instance:DU Zp 37 5:=Ew underlying37
instance:CP Zp 4:=⟨_,underlying4,rfl⟩
instance:CP Zp 45:=⟨_,underlying45,rfl⟩
instance:DU Zp 47 2:=Ew underlying47
instance:CP Zp 5:=⟨_,underlying5,rfl⟩
instance:DU Zp 57 8:=Ew underlying57
instance:DU Zp 59 19:=Ew underlying59
instance:CP Zp 68:=⟨_,underlying68,rfl⟩
instance:CP Zp 72:=⟨_,underlying72,rfl⟩
instance:CP Zp 81:=⟨_,underlying81,rfl⟩
instance:DU Zp 83 1:=Ew underlying83
instance:CP Zp 87:=⟨_,underlying87,rfl⟩
instance:CP Zp 89:=⟨_,underlying89,rfl⟩
instance:CP Zp 9:=⟨_,underlying9,rfl⟩
instance:CP Zp 90:=⟨_,underlying90,rfl⟩
instance:Bw Zp 101 24:=CM
instance:Bw Zp 112 1:=CM
instance:Bw Zp 121 2:=CM
instance:Bw Zp 129 3:=CM
instance:Bw Zp 134 1:=CM
instance:Bw Zp 135 1:=CM
instance:Bw Zp 146 1:=CM
instance:Bw Zp 154 1:=CM
instance:Bw Zp 160 3:=CM
instance:Bw Zp 163 9:=CM
instance:Bw Zp 170 3:=CM
instance:Bw Zp 182 1:=CM
instance:Bw Zp 183 1:=CM
instance:Bw Zp 193 2:=CM
instance:Bw Zp 199 3:=CM
instance:Bw Zp 221 8:=CM
instance:Bw Zp 23 1:=CM
instance:Bw Zp 241 1:=CM
instance:Bw Zp 248 5:=CM
instance:Bw Zp 25 2:=CM
instance:Bw Zp 250 3:=CM
instance:Bw Zp 252 1:=CM
instance:Bw Zp 255 2:=CM
instance:Bw Zp 256 1:=CM
instance:Bw Zp 257 1:=CM
instance:Bw Zp 262 1:=CM
instance:Bw Zp 263 1:=CM
instance:Bw Zp 276 1:=CM
instance:Bw Zp 28 1:=CM
instance:Bw Zp 3 1:=CM
instance:Bw Zp 35 1:=CM
instance:Bw Zp 37 5:=CM
instance:Bw Zp 4 1:=CM
instance:Bw Zp 45 1:=CM
instance:Bw Zp 47 2:=CM
instance:Bw Zp 57 8:=CM
instance:Bw Zp 59 19:=CM
instance:Bw Zp 83 1:=CM
instance:Bw Zp 9 1:=CM
instance:Bw Zp 90 1:=CM
instance:SlT Zp 112 4 1 1 (.bool false):=Ek underlying112
instance:SlT Zp 131 23 1 24 (nS):=Ek underlying131
instance:SlT Zp 161 160 3 32 (.agg #[(AA []),(.pointer none),(iV 0)]):=Ek underlying161
instance:SlT Zp 175 89 1 8 (.pointer none):=Ek underlying175
instance:SlT Zp 183 45 1 24 (nS):=Ek underlying183
instance:SlT Zp 206 9 1 16 (AA []):=Ek underlying206
instance:Gt Zp 211 10 9 1:=Ky underlying211 rD
instance:SlT Zp 22 129 3 32 (.agg #[(AA []),(.bool false),(iV 0)]):=Ek underlying22
instance:SlT Zp 23 57 8 104 (.agg #[(AA []),(AA []),(iV 0),(iV 0),(AA []),(iV 0),(iV 0),(nS)]):=Ek underlying23
instance:SlT Zp 243 112 1 24 (nS):=Ek underlying243
instance:Gt Zp 248 5 1 1:=Ky underlying248 rD
instance:Gt Zp 251 16 250 3:=Ky underlying251 rD
instance:SlT Zp 256 255 2 16 (.agg #[(.pointer none),(.bool false)]):=Ek underlying256
instance:Gt Zp 258 20 221 8:=Ky underlying258 rD
instance:Gt Zp 283 15 9 1:=Ky underlying283 rD
instance:Gt Zp 293 8 292 2:=Ky underlying293 rD
instance:SlT Zp 294 292 2 48 (.agg #[(nS),(nS)]):=Ek underlying294
instance:SlT Zp 33 78 2 16 (.agg #[(iV 0),(iV 0)]):=Ek underlying33
instance:SlT Zp 35 37 5 64 (.agg #[(iV 0),(AA []),(iV 0),(iV 0),(nS)]):=Ek underlying35
instance:SlT Zp 45 3 1 8 (iV 0):=Ek underlying45
instance:SlT Zp 51 59 19 240 (.agg #[(AA []),(AA []),(iV 0),(iV 0),(AA []),(iV 0),(iV 0),(nS),(iV 0),(iV 0),(AA []),(iV 0),(iV 0),(nS),(iV 0),(AA []),(iV 0),(iV 0),(nS)]):=Ek underlying51
instance:SlT Zp 79 83 1 8 (.agg #[.nilFunc]):=Ek underlying79
instance:SlT Zp 90 170 3 32 (.agg #[(iV 0),(AA []),(iV 0)]):=Ek underlying90
instance:SlT Zp 98 101 24 304 (.agg #[(AA []),(AA []),(iV 0),(iV 0),(AA []),(iV 0),(iV 0),(nS),(iV 0),(iV 0),(AA []),(iV 0),(iV 0),(nS),(iV 0),(AA []),(iV 0),(iV 0),(nS),(iV 0),(AA []),(iV 0),(iV 0),(nS)]):=Ek underlying98
instance:KH Zp 123 (.agg #[(iV 0),(iV 0),(iV 0)]):=Wg underlying123 underlying9 rD
instance:StT Zp 101 [(0,19),(19,5)] [(AA []),(AA []),(iV 0),(iV 0),(AA []),(iV 0),(iV 0),(nS),(iV 0),(iV 0),(AA []),(iV 0),(iV 0),(nS),(iV 0),(AA []),(iV 0),(iV 0),(nS),(iV 0),(AA []),(iV 0),(iV 0),(nS)]:=stA underlying101
instance:StT Zp 121 [(0,1),(1,1)] [(iV 0),(iV 0)]:=stA underlying121
instance:StT Zp 126 [(0,1),(1,1),(2,1),(3,1)] [(nS),(iV 0),(.map none),(.map none)]:=stA underlying126
instance:StT Zp 129 [(0,1),(1,1),(2,1)] [(AA []),(.bool false),(iV 0)]:=stA underlying129
instance:StT Zp 139 [(0,2)] [(.pointer none),(nS)]:=stA underlying139
instance:StT Zp 152 [(0,1),(1,1)] [(iV 0),(.bool false)]:=stA underlying152
instance:StT Zp 160 [(0,1),(1,1),(2,1)] [(AA []),(.pointer none),(iV 0)]:=stA underlying160
instance:StT Zp 163 [(0,1),(1,1),(2,1),(3,1),(4,1),(5,1),(6,1),(7,1),(8,1)] [(AA []),(iV 0),(iV 0),(iV 0),(iV 0),(iV 0),(iV 0),(iV 0),(iV 0)]:=stA underlying163
instance:StT Zp 170 [(0,1),(1,1),(2,1)] [(iV 0),(AA []),(iV 0)]:=stA underlying170
instance:StT Zp 185 [(0,1),(1,1),(2,1),(3,1),(4,1)] [(nS),(nS),(iV 0),(iV 0),(iV 0)]:=stA underlying185
instance:StT Zp 193 [(0,1),(1,1)] [(iV 0),(iV 0)]:=stA underlying193
instance:StT Zp 197 [(0,1),(1,1),(2,1)] [(AA []),(iV 0),(nS)]:=stA underlying197
instance:StT Zp 199 [(0,1),(1,1),(2,1)] [(iV 0),(iV 0),(iV 0)]:=stA underlying199
instance:StT Zp 221 [(0,1),(1,1),(2,1),(3,1),(4,1),(5,1),(6,1),(7,1)] [(iV 0),(iV 0),(iV 0),(iV 0),(.bool false),(.bool false),(.bool false),(.bool false)]:=stA underlying221
instance:StT Zp 229 [] []:=stA underlying229
instance:CG Zp 248 [.nilFunc,.nilFunc,.nilFunc,.nilFunc,.nilFunc]:=Em
instance:StT Zp 25 [(0,1),(1,1)] [(nS),(nS)]:=stA underlying25
instance:StT Zp 255 [(0,1),(1,1)] [(.pointer none),(.bool false)]:=stA underlying255
instance:StT Zp 265 [(0,1),(1,1),(2,1),(3,1)] [(nS),(nS),(.map none),(.map none)]:=stA underlying265
instance:StT Zp 292 [(0,1),(1,1)] [(nS),(nS)]:=stA underlying292
instance:StT Zp 37 [(0,1),(1,1),(2,1),(3,1),(4,1)] [(iV 0),(AA []),(iV 0),(iV 0),(nS)]:=stA underlying37
instance:StT Zp 47 [(0,1),(1,1)] [(nS),(nS)]:=stA underlying47
instance:StT Zp 57 [(0,1),(1,1),(2,1),(3,5)] [(AA []),(AA []),(iV 0),(iV 0),(AA []),(iV 0),(iV 0),(nS)]:=stA underlying57
instance:StT Zp 59 [(0,8),(8,1),(9,5),(14,5)] [(AA []),(AA []),(iV 0),(iV 0),(AA []),(iV 0),(iV 0),(nS),(iV 0),(iV 0),(AA []),(iV 0),(iV 0),(nS),(iV 0),(AA []),(iV 0),(iV 0),(nS)]:=stA underlying59
instance:StT Zp 78 [(0,1),(1,1)] [(iV 0),(iV 0)]:=stA underlying78
instance:StT Zp 83 [(0,1)] [.nilFunc]:=stA underlying83
instance:CG Zp 101 [(AA []),(AA []),(iV 0),(iV 0),(AA []),(iV 0),(iV 0),(nS),(iV 0),(iV 0),(AA []),(iV 0),(iV 0),(nS),(iV 0),(AA []),(iV 0),(iV 0),(nS),(iV 0),(AA []),(iV 0),(iV 0),(nS)]:=Em
instance:CG Zp 121 [(iV 0),(iV 0)]:=Em
instance:CG Zp 129 [(AA []),(.bool false),(iV 0)]:=Em
instance:CG Zp 146 [(.map none)]:=FT (z:=(.map none)) rD rfl
instance:CG Zp 154 [.nilFunc]:=FT (z:=.nilFunc) rD rfl
instance:CG Zp 160 [(AA []),(.pointer none),(iV 0)]:=Em
instance:CG Zp 163 [(AA []),(iV 0),(iV 0),(iV 0),(iV 0),(iV 0),(iV 0),(iV 0),(iV 0)]:=Em
instance:CG Zp 170 [(iV 0),(AA []),(iV 0)]:=Em
instance:CG Zp 182 [.nilFunc]:=FT (z:=.nilFunc) rD rfl
instance:CG Zp 193 [(iV 0),(iV 0)]:=Em
instance:CG Zp 199 [(iV 0),(iV 0),(iV 0)]:=Em
instance:CG Zp 221 [(iV 0),(iV 0),(iV 0),(iV 0),(.bool false),(.bool false),(.bool false),(.bool false)]:=Em
instance:CG Zp 241 [(.map none)]:=FT (z:=(.map none)) rD rfl
instance:CG Zp 25 [(nS),(nS)]:=Em
instance:CG Zp 250 [(.int .u8 0),(.int .u8 0),(iV 0)]:=Em
instance:CG Zp 252 [.nilFunc]:=FT (z:=.nilFunc) rD rfl
instance:CG Zp 255 [(.pointer none),(.bool false)]:=Em
instance:CG Zp 256 [(nS)]:=FT (z:=(nS)) rD rfl
instance:CG Zp 257 [.nilFunc]:=FT (z:=.nilFunc) rD rfl
instance:CG Zp 276 [.nilFunc]:=FT (z:=.nilFunc) rD rfl
instance:CG Zp 28 [(iV 0)]:=FT (z:=(iV 0)) rD rfl
instance:CG Zp 293 [(nS),(nS),(nS),(nS),(nS),(nS),(nS),(nS),(nS),(nS),(nS),(nS),(nS),(nS),(nS),(nS)]:=Em
instance:CG Zp 3 [(iV 0)]:=FT (z:=(iV 0)) rD rfl
instance:CG Zp 35 [(nS)]:=FT (z:=(nS)) rD rfl
instance:CG Zp 37 [(iV 0),(AA []),(iV 0),(iV 0),(nS)]:=Em
instance:CG Zp 4 [(.bool false)]:=FT (z:=(.bool false)) rD rfl
instance:CG Zp 45 [(nS)]:=FT (z:=(nS)) rD rfl
instance:CG Zp 47 [(nS),(nS)]:=Em
instance:CG Zp 57 [(AA []),(AA []),(iV 0),(iV 0),(AA []),(iV 0),(iV 0),(nS)]:=Em
instance:CG Zp 59 [(AA []),(AA []),(iV 0),(iV 0),(AA []),(iV 0),(iV 0),(nS),(iV 0),(iV 0),(AA []),(iV 0),(iV 0),(nS),(iV 0),(AA []),(iV 0),(iV 0),(nS)]:=Em
instance:CG Zp 83 [.nilFunc]:=Em
instance:CG Zp 9 [(AA [])]:=FT (z:=(AA [])) rD rfl
instance:CG Zp 90 [(nS)]:=FT (z:=(nS)) rD rfl
instance:AI Zp 5:=AK func5
instance:AI Zp 6:=AK func6
instance:AI Zp 7:=AK func7
instance:AI Zp 8:=AK func8
instance:AI Zp 10:=AK func10
instance:AI Zp 12:=AK func12
instance:AI Zp 13:=AK func13
instance:AI Zp 14:=AK func14
instance:AI Zp 15:=AK func15
instance:AI Zp 16:=AK func16
instance:AI Zp 17:=AK func17
instance:AI Zp 18:=AK func18
instance:AI Zp 19:=AK func19
instance:AI Zp 20:=AK func20
instance:AI Zp 21:=AK func21
instance:AI Zp 22:=AK func22
instance:AI Zp 23:=AK func23
instance:AI Zp 24:=AK func24
instance:AI Zp 25:=AK func25
instance:AI Zp 26:=AK func26
instance:AI Zp 27:=AK func27
instance:AI Zp 28:=AK func28
instance:AI Zp 29:=AK func29
instance:AI Zp 30:=AK func30
instance:AI Zp 31:=AK func31
instance:AI Zp 32:=AK func32
instance:AI Zp 35:=AK func35
instance:AI Zp 36:=AK func36
instance:AI Zp 37:=AK func37
instance:AI Zp 41:=AK func41
instance:AI Zp 42:=AK func42
instance:AI Zp 43:=AK func43
instance:AI Zp 44:=AK func44
instance:AI Zp 45:=AK func45
instance:AI Zp 46:=AK func46
instance:AI Zp 47:=AK func47
instance:AI Zp 48:=AK func48
instance:AI Zp 49:=AK func49
instance:AI Zp 50:=AK func50
instance:AI Zp 51:=AK func51
instance:AI Zp 52:=AK func52
instance:AI Zp 53:=AK func53
instance:AI Zp 54:=AK func54
instance:AI Zp 55:=AK func55
instance:AI Zp 56:=AK func56
instance:AI Zp 57:=AK func57
instance:AI Zp 58:=AK func58
instance:AI Zp 59:=AK func59
instance:AI Zp 60:=AK func60
instance:AI Zp 61:=AK func61
instance:AI Zp 62:=AK func62
instance:AI Zp 63:=AK func63
instance:AI Zp 64:=AK func64
instance:AI Zp 65:=AK func65
instance:AI Zp 66:=AK func66
instance:AI Zp 67:=AK func67
instance:AI Zp 68:=AK func68
instance:AI Zp 69:=AK func69
instance:AI Zp 70:=AK func70
instance:AI Zp 71:=AK func71
instance:AI Zp 72:=AK func72
instance:AI Zp 73:=AK func73
instance:AI Zp 74:=AK func74
instance:AI Zp 75:=AK func75
instance:AI Zp 76:=AK func76
instance:AI Zp 77:=AK func77
instance:AI Zp 78:=AK func78
instance:AI Zp 79:=AK func79
instance:AI Zp 80:=AK func80
instance:AI Zp 81:=AK func81
instance:AI Zp 82:=AK func82
instance:AI Zp 83:=AK func83
instance:AI Zp 84:=AK func84
instance:AI Zp 85:=AK func85
instance:AI Zp 86:=AK func86
instance:AI Zp 87:=AK func87
instance:AI Zp 88:=AK func88
instance:AI Zp 89:=AK func89
instance:AI Zp 91:=AK func91
instance:AI Zp 92:=AK func92
instance:AI Zp 93:=AK func93
instance:AI Zp 94:=AK func94
instance:AI Zp 95:=AK func95
instance:AI Zp 96:=AK func96
instance:AI Zp 97:=AK func97
instance:AI Zp 98:=AK func98
instance:AI Zp 99:=AK func99
instance:AI Zp 101:=AK func101
instance:AI Zp 102:=AK func102
instance:AI Zp 103:=AK func103
instance:AI Zp 104:=AK func104
instance:AI Zp 105:=AK func105
instance:AI Zp 106:=AK func106
instance:AI Zp 107:=AK func107
instance:AI Zp 108:=AK func108
instance:AI Zp 109:=AK func109
instance:AI Zp 110:=AK func110
instance:AI Zp 111:=AK func111
instance:AI Zp 112:=AK func112
instance:AI Zp 113:=AK func113
instance:AI Zp 114:=AK func114
instance:AI Zp 115:=AK func115
instance:AI Zp 116:=AK func116
instance:AI Zp 117:=AK func117
instance:AI Zp 118:=AK func118
instance:AI Zp 119:=AK func119
instance:AI Zp 120:=AK func120
instance:AI Zp 121:=AK func121
instance:AI Zp 122:=AK func122
instance:AI Zp 123:=AK func123
instance:AI Zp 124:=AK func124
instance:AI Zp 125:=AK func125
instance:AI Zp 126:=AK func126
instance:AI Zp 127:=AK func127
instance:AI Zp 128:=AK func128
instance:AI Zp 129:=AK func129
instance:AI Zp 130:=AK func130
instance:AI Zp 131:=AK func131
instance:AI Zp 132:=AK func132
instance:AI Zp 133:=AK func133
instance:AI Zp 134:=AK func134
instance:AI Zp 135:=AK func135
instance:AI Zp 136:=AK func136
instance:AI Zp 137:=AK func137
instance:AI Zp 138:=AK func138
instance:AI Zp 139:=AK func139
instance:AI Zp 140:=AK func140
instance:AI Zp 141:=AK func141
instance:AI Zp 142:=AK func142
instance:AI Zp 143:=AK func143
instance:AI Zp 144:=AK func144
instance:AI Zp 145:=AK func145
instance:AI Zp 146:=AK func146
instance:AI Zp 147:=AK func147
instance:AI Zp 148:=AK func148
instance:AI Zp 149:=AK func149
instance:AI Zp 150:=AK func150
instance:AI Zp 151:=AK func151
instance:AI Zp 152:=AK func152
instance:AI Zp 153:=AK func153
instance:AI Zp 154:=AK func154
instance:AI Zp 155:=AK func155
instance:AI Zp 156:=AK func156
instance:AI Zp 157:=AK func157
instance:AI Zp 158:=AK func158
instance:AI Zp 159:=AK func159
instance:AI Zp 160:=AK func160
instance:AI Zp 161:=AK func161
instance:AI Zp 162:=AK func162
instance:AI Zp 163:=AK func163
instance:AI Zp 164:=AK func164
instance:AI Zp 165:=AK func165
instance:AI Zp 166:=AK func166
instance:AI Zp 167:=AK func167
instance:AI Zp 168:=AK func168
instance:AI Zp 169:=AK func169
instance:AI Zp 170:=AK func170
instance:AI Zp 171:=AK func171
instance:AI Zp 172:=AK func172
instance:AI Zp 173:=AK func173
instance:AI Zp 174:=AK func174
instance:AI Zp 175:=AK func175
instance:AI Zp 176:=AK func176
instance:AI Zp 177:=AK func177
instance:AI Zp 178:=AK func178
instance:AI Zp 179:=AK func179
instance:AI Zp 180:=AK func180
instance:AI Zp 181:=AK func181
instance:AI Zp 182:=AK func182
instance:AI Zp 183:=AK func183
instance:AI Zp 184:=AK func184
instance:AI Zp 185:=AK func185
instance:AI Zp 186:=AK func186
instance:AI Zp 187:=AK func187
instance:AI Zp 188:=AK func188
instance:AI Zp 189:=AK func189
instance:AI Zp 190:=AK func190
instance:AI Zp 191:=AK func191
instance:AI Zp 192:=AK func192
instance:AI Zp 193:=AK func193
instance:AI Zp 194:=AK func194
instance:AI Zp 195:=AK func195
instance:AI Zp 196:=AK func196
instance:AI Zp 197:=AK func197
instance:AI Zp 198:=AK func198
instance:AI Zp 199:=AK func199
instance:AI Zp 200:=AK func200
instance:AI Zp 201:=AK func201
instance:AI Zp 202:=AK func202
instance:AI Zp 203:=AK func203
instance:AI Zp 204:=AK func204
instance:AI Zp 205:=AK func205
instance:AI Zp 206:=AK func206
instance:AI Zp 207:=AK func207
instance:AI Zp 208:=AK func208
instance:AI Zp 209:=AK func209
instance:AI Zp 210:=AK func210
instance:AI Zp 211:=AK func211
instance:AI Zp 212:=AK func212
instance:AI Zp 213:=AK func213
instance:AI Zp 214:=AK func214
instance:AI Zp 215:=AK func215
instance:AI Zp 216:=AK func216
instance:AI Zp 217:=AK func217
instance:AI Zp 218:=AK func218
instance:AI Zp 219:=AK func219
instance:AI Zp 220:=AK func220
instance:AI Zp 221:=AK func221
instance:AI Zp 222:=AK func222
instance:AI Zp 223:=AK func223
instance:AI Zp 224:=AK func224
instance:AI Zp 225:=AK func225
instance:AI Zp 226:=AK func226
instance:AI Zp 227:=AK func227
instance:AI Zp 228:=AK func228
instance:AI Zp 229:=AK func229
instance:AI Zp 230:=AK func230
instance:AI Zp 231:=AK func231
instance:AI Zp 232:=AK func232
instance:AI Zp 233:=AK func233
instance:AI Zp 234:=AK func234
instance:AI Zp 235:=AK func235
instance:AI Zp 236:=AK func236
instance:AI Zp 237:=AK func237
instance:AI Zp 238:=AK func238
instance:AI Zp 239:=AK func239
instance:AI Zp 240:=AK func240
instance:AI Zp 241:=AK func241
instance:AI Zp 242:=AK func242
instance:AI Zp 243:=AK func243
instance:AI Zp 244:=AK func244
instance:AI Zp 245:=AK func245
instance:AI Zp 246:=AK func246
instance:AI Zp 247:=AK func247
instance:AI Zp 248:=AK func248
instance:AI Zp 249:=AK func249
instance:AI Zp 250:=AK func250
instance:AI Zp 251:=AK func251
instance:AI Zp 254:=AK func254
instance:AI Zp 255:=AK func255
instance:AI Zp 256:=AK func256
instance:AI Zp 257:=AK func257
instance:AI Zp 258:=AK func258
instance:AI Zp 259:=AK func259
instance:AI Zp 267:=AK func267
instance:AI Zp 268:=AK func268
instance:AI Zp 269:=AK func269
instance:AI Zp 270:=AK func270
instance:AI Zp 271:=AK func271
instance:AI Zp 272:=AK func272
instance:AI Zp 275:=AK func275
instance:AI Zp 276:=AK func276
instance:AI Zp 277:=AK func277
instance:AI Zp 278:=AK func278
instance:AI Zp 279:=AK func279
instance:AI Zp 280:=AK func280
instance:AI Zp 281:=AK func281
instance:AI Zp 282:=AK func282
instance:AI Zp 283:=AK func283
instance:AI Zp 287:=AK func287
instance:AI Zp 288:=AK func288
instance:AI Zp 289:=AK func289
instance:AI Zp 290:=AK func290
instance:AI Zp 291:=AK func291
instance:AI Zp 292:=AK func292
instance:AI Zp 293:=AK func293
instance:AI Zp 294:=AK func294
instance:AI Zp 295:=AK func295
instance:AI Zp 296:=AK func296
instance:AI Zp 297:=AK func297
instance:AI Zp 298:=AK func298
instance:AI Zp 299:=AK func299
instance:AI Zp 300:=AK func300
instance:AI Zp 301:=AK func301
instance:AI Zp 302:=AK func302
instance:AI Zp 303:=AK func303
instance:AI Zp 304:=AK func304
instance:AI Zp 305:=AK func305
instance:AI Zp 306:=AK func306
instance:AI Zp 307:=AK func307
instance:AI Zp 308:=AK func308
instance:AI Zp 309:=AK func309
instance:AI Zp 310:=AK func310
instance:AI Zp 311:=AK func311
instance:AI Zp 312:=AK func312
instance:AI Zp 313:=AK func313
instance:AI Zp 314:=AK func314
instance:AI Zp 315:=AK func315
instance:AI Zp 316:=AK func316
instance:AI Zp 325:=AK func325
instance:AI Zp 326:=AK func326
instance:AI Zp 327:=AK func327
instance:AI Zp 328:=AK func328
instance:AI Zp 329:=AK func329
instance:AI Zp 330:=AK func330
def AX:Tryz.prog.follows .mixedOrders=true:=by kernel_rfl
def TS:=@List.getElem?_cons_zero
def H1:=@List.ext_getElem?
def QL:=@List.getElem?_range
section
variable {mk:Prop}[MK mk]
attribute [local semireducible] WC AF CO B0 Cx B8 Cc CB
section
variable {P:Program}{all:Array Oper}{Z:Fr->DS->List PanicEntry->World->Prop}{K:Fr->DS->World->Prop}{rest:List Oper}{f:Fr}{ds:DS}{w:World}
 {d:Nat}{ty:TypeId}{pos:String}{af:Array Edge}
theorem Ox{g:FuncId}{t:Nat}{xs:List Operand}{m:Array TypeId}{vs v1 v2:LV}(e:f t=.func (.func g) v1.toArray v2.toArray)(G:evL f xs=vs)
  (h:AF P all Z K rest f ({target:=.fn (.func g) v2.toArray,args:=(v1++vs).toArray}::ds) w):AF P all Z K (⟨none,.defer ⟨.value (.tmp t),xs.toArray,m⟩,ty,pos,af,none⟩::rest) f ds w:=by
 have B:(execOp (ev f) ⟨none,.defer ⟨.value (.tmp t),xs.toArray,m⟩,ty,pos,af,none⟩).run P w=.ok (.defer {target:=.fn (.func g) v2.toArray,args:=(v1++vs).toArray}) w:=by
  rw[J5]at G;simp only[execOp,resolve,ev,e,Deferred.ofValue,BX,Cq,Bc];simp[<-G]
 unfold AF;simp only[CY,DN,CB,B];exact h
theorem QH{x:Operand}{g T:TypeId}{v:Value}[hT:LG P T](V:ev f x=.iface T v)(h:AF P all Z K rest (upd f d (.tuple #[v,.bool true])) ds w):
  AF P all Z K (⟨some d,.typeAssert x g T true,ty,pos,af,none⟩::rest) f ds w:=by
 obtain⟨N,e,W⟩:=hT.out;refine At rfl ?_ h;simp only[execOp,V,Instr.typeAssert,BX,BV e,Bc];cases N<;>simp_all
theorem QG{x:Operand}{g T:TypeId}{z:Value}[hT:LG P T](V:ev f x=.nilIface)(p:(P.info? T).map (·.zero)=some (some z))(h:AF P all Z K rest (upd f d (.tuple #[z,.bool false])) ds w):
  AF P all Z K (⟨some d,.typeAssert x g T true,ty,pos,af,none⟩::rest) f ds w:=by
 obtain⟨N,e,W⟩:=hT.out;obtain⟨i,F,E⟩:=Dd.1 p;refine At rfl ?_ h;simp only[execOp,V,Instr.typeAssert,BX,BV e,Bc];cases N<;>simp_all [zeroValue,typeInfo]
end
def O4:Op->Bool
 | .move _| .assign _| .alloc _| .store _ _ _| .load _ _| .extract _ _| .typeAssert _ _ _ _| .fieldAddr _ _ _| .binOp _ _ _ _ _=>true
 |_=>false
theorem qw{P:Program}{w:World}(s:Sem Value):(∃v w',(do pure (Next.value (<-s)):Sem Next).run P w=.ok (.value v) w')\/∃x w',(do pure (Next.value (<-s)):Sem Next).run P w=.halt x w':=by
 simp only[BX];cases s.run P w with
 |ok v w'=>exact .inl ⟨v,w',rfl⟩
 |halt x w'=>exact .inr ⟨x,w',rfl⟩
theorem bG{P:Program}{w:World}{ρ:Operand->Value}{o:Oper}(h:O4 o.op=true):
  (∃v w',(execOp ρ o).run P w=.ok (.value v) w')\/(∃w',(execOp ρ o).run P w=.ok .skip w')\/∃x w',(execOp ρ o).run P w=.halt x w':=by
 obtain⟨e,op,ty,pos,af,g⟩:=o;cases op<;>simp only[O4]at h<;>try (cases h;done)
 case store t a x=>
  simp only[execOp,BX];cases(Instr.storeAt t (ρ a) (ρ x)).run P w with
  |ok v w'=>exact .inr (.inl ⟨w',rfl⟩)
  |halt x w'=>exact .inr (.inr ⟨x,w',rfl⟩)
 case move=>exact .inl ⟨_,_,rfl⟩
 case assign=>exact .inl ⟨_,_,rfl⟩
 all_goals
  simp only[execOp];rcases qw (P:=P) (w:=w) _ with⟨v,w',h⟩|⟨x,w',h⟩
  ·exact .inl ⟨v,w',h⟩
  ·exact .inr (.inr ⟨x,w',h⟩)
theorem US{P:Program}{ops:Array Oper}{F:Fence}{n N:Nat}{Q:Exit->Act->List Frame->World->Prop}{cs:List Frame}{K:Fr->DS->World->Prop}(m:∀g,F.fn g)
  (G:∀e w',e.tmps.size=N->K (Bi e) e.defers w'->Q .normal e cs w'):∀(l:List Nat)(s:List Oper)(a:Act)(w:World),l.map (fun i=>ops[i]?)=s.map some->(s.all fun o=>O4 o.op&&dOk N o.dst)=true->
   a.tmps.size=N->AF P ops (fun _ _ _ _=>False) K s (Bi a) a.defers w->wpOpsSIn F n P ops Q l a cs w
 | [],[],a,w,_,_,hn,h=>G a w hn h
 | [],_::_,_,_,h,_,_,_=>by simp at h
 |_::_,[],_,_,h,_,_,_=>by simp at h
 |i::l,o::s,a,w,hl,C,hn,h=>by
  simp only[EG,I7]at hl;simp only[Gc,AZ]at C;obtain⟨⟨t,q⟩,C⟩:=C;unfold wpOpsSIn;simp only[hl.1];refine⟨fun g _=>m g,?_⟩;have r:∀v,Bi (a.put o.dst v)=Ea (Bi a) o.dst v:=fun v=>VC v (by rw[hn];exact q)
  have go:∀v w',AF P ops (fun _ _ _ _=>False) K s (Ea (Bi a) o.dst v) a.defers w'->wpOpsSIn F n P ops Q l (a.put o.dst v) cs w':=fun v w' p=>
   US m G l s (a.put o.dst v) w' hl.2 C (by rw[Mb];exact hn) (by rw[r,Lx];exact p)
  unfold AF at h;rw[Nk];by_cases S:CY ops (Bi a) o.guard=true
  ·rw[AJ S]at h⊢;unfold CB at h;rw[Mj];rcases bG (P:=P) (w:=w) (ρ:=ev (Bi a)) t with⟨v,w',B⟩|⟨w',B⟩|⟨x,w',B⟩
   ·rw[B]at h⊢;exact go _ _ h
   ·rw[B]at h⊢;exact go _ _ h
   ·rw[B]at h;cases x<;>exact h.elim
  ·rw[AG S]at h⊢;exact go _ _ h
theorem JC{P:Program}{g:FuncId}{fn:Func}{id d N:Nat}{m:Array TypeId}{ty:TypeId}{pos:String}{af:Array Edge}{s:List Oper}{y:Code}{args:LV}{w:World}{u u1:FrameMode}{v0:Value}{G:Value->World->Prop}
  (X:P.funcs[g]?=some fn)(S:fn.body=some (.seq (.region id (⟨some d,.call ⟨.builtin .recover,#[],m⟩,ty,pos,af,none⟩::s).toArray false) y))(H:fn.ntmps=N)(hl:args.length<=N)(x:d<N)
  (a0:(s.all fun o=>O4 o.op&&dOk N o.dst)=true)(hy:D9 N false y=true)
  (hu:(u=.returning/\u1=.returning/\v0=.nilIface)\/∃p,u=.panicking [{v:=p,recovered:=false}]/\u1=.panicking [{v:=p,recovered:=true}]/\v0=p)
  (h:AF P (⟨some d,.call ⟨.builtin .recover,#[],m⟩,ty,pos,af,none⟩::s).toArray (fun _ _ _ _=>False) (WC P ⟨N,none⟩ y (B8 P fn G fun _ _=>False)) s (upd (Hu args) d v0) [] w):
  CallsDIn Fence.wide 0 P g args.toArray u w (fun e t w'=>match e with| .returned v=>t=u1/\G v w'|_=>False):=by
 have E:(args.toArray++Array.replicate (fn.ntmps-args.toArray.size) undef).size=N:=by simp[H];omega
 refine callsDIn_of_wpSIn X S trivial fun q r T=>?_;refine wpSIn_seq (wpSIn_region ?_)
 have a1:List.range (⟨some d,.call ⟨.builtin .recover,#[],m⟩,ty,pos,af,none⟩::s:List Oper).toArray.size=0::(List.range s.length).map (·+1):=by
  rw[IZ,C9,List.range_succ_eq_map]
 rw[a1];unfold wpOpsSIn;simp only[List.getElem?_toArray,TS];refine⟨fun _ _=>trivial,?_⟩;simp only[Region.wanted,DN]
 have hr:∀ρ:Operand->Value,(execOp ρ ⟨some d,.call ⟨.builtin .recover,#[],m⟩,ty,pos,af,none⟩).run P w=.ok .recover w:=fun ρ=>by
  simp[execOp,resolve,invoke,builtin]
 rw[hr]
 have I:∀z:Frame,z={q with mode:=u1}->wpOpsSIn Fence.wide 0 P (⟨some d,.call ⟨.builtin .recover,#[],m⟩,ty,pos,af,none⟩::s:List Oper).toArray
   (Exit.thenS (y.wpSIn Fence.wide 0 P (bodyPostS P fn q r fun e t w'=>match e with| .returned v=>t=u1/\G v w'|_=>False)) (bodyPostS P fn q r fun e t w'=>match e with| .returned v=>t=u1/\G v w'|_=>False))
   ((List.range s.length).map (·+1)) (({tmps:=args.toArray++Array.replicate (fn.ntmps-args.toArray.size) undef,defers:=[]}:Act).put (some d) v0) (z::r) w:=by
  rintro z rfl;refine US (N:=N) (K:=WC P ⟨N,none⟩ y (B8 P fn G fun _ _=>False)) (fun _=>trivial) ?_ _ s _ w ?_ a0 (by rw[Mb];exact E) ?_
  ·intro L w' M hwc;have hp:=HK (P:=P) (n:=⟨N,none⟩) y (B8 P fn G fun _ _=>False) L w' M hy hwc;refine wpSIn_of_wpIn rfl (Hi hp ?_);rintro e a2 w2⟨_,V⟩;cases e with
   |normal=>obtain⟨B,W⟩:=V;obtain⟨l,C,A⟩:=QR W;exact⟨B,_,rfl,_,A,rfl,C⟩
   |ret=>obtain⟨B,W⟩:=V;obtain⟨l,C,A⟩:=QR W;exact⟨B,_,rfl,_,A,rfl,C⟩
   |panic ch=>exact V.2.elim
   |exit _=>exact V.elim
   |goto _=>exact V.elim
   |outgrown=>exact V.elim
  ·refine H1 fun i=>?_;rw[HF,Cl,Cl];by_cases F:i<s.length
   ·rw[QL F];simp[F]
   ·rw[EF rm,EF rm];rfl
  ·rw[Lx,Om v0 (by rw[E];exact x),RB];exact h
 rcases hu with⟨rfl,rfl,rfl⟩|⟨p,rfl,rfl,rfl⟩
 ·have D:recoverD (q::r)=none:=by simp[recoverD,T]
  rw[D];exact I q (by cases q;simp_all)
 ·have D:recoverD (q::r)=some (v0,{q with mode:=.panicking [{v:=v0,recovered:=true}]}::r):=by simp[recoverD,T]
  rw[D];exact I _ rfl
section
variable {P:Program}{fn:Func}{R:Value->World->Prop}{Y:List PanicEntry->World->Prop}{f:Fr}{w:World}{ds:DS}
theorem Zu{T b o:Nat}{v:Value}(h:CP P T)(m:w.cell? ⟨b,o,none⟩=some v):(loadVar T ⟨b,o,none⟩).run P w=.ok v w:=by
 obtain⟨N,g,W⟩:=h.out
 have e:(isAgg T).run P w=.ok false w:=by
  simp only[isAgg,BX,BV g,Bc];cases N<;>simp_all [IT]
 simp only[loadVar,BX,e,Bc];simp[m]
theorem CV{T b o t:Nat}{v:Value}{l:List ResultVar}{k:LV->Prop}[hT:CP P T](G:f t=.pointer (sn b o))(e:w.cell? ⟨b,o,none⟩=some v)(h:GO P l f w fun r=>k (v::r)):GO P (.cell t T::l) f w k:=
 ⟨_,v,G,Zu hT e,h⟩
theorem Et(h:GO P fn.results.toList f w fun l=>R (KC l) w):Cc P fn R Y .ret f [] w:=h
theorem Nc{g:FuncId}{a c:LV}[hg:AI P g]{G:World->Prop}(T:CallsDIn Fence.wide 0 P g (a++c).toArray .returning w (fun e m w'=>match e with| .returned _=>m=.returning/\G w'|_=>False))
  (h:∀w',G w'->GO P fn.results.toList f w' fun l=>R (KC l) w'):Cc P fn R Y .ret f [{target:=.fn (.func g) c.toArray,args:=a.toArray}] w:=by
 obtain⟨r,p,W,q⟩:=hg.out;refine⟨by simp,.inr ⟨_,_,g,(a++c).toArray,rfl,?_,T.mono ?_⟩⟩
 ·simp only[invoke,callFunc,program];simp[Sem.run,p,W,q]
 ·intro e m w' B;cases e with
  |returned v=>obtain⟨rfl,z⟩:=B;exact h w' z
  |panicked _=>exact B.elim
  |outgrown=>exact B.elim
theorem Nb{g:FuncId}{a c:LV}{p:Value}[hg:AI P g]{G:World->Prop}(T:CallsDIn Fence.wide 0 P g (a++c).toArray (.panicking [{v:=p,recovered:=false}]) w (fun e m w'=>match e with| .returned _=>m=.panicking [{v:=p,recovered:=true}]/\G w'|_=>False))
  (h:∀w',G w'->GO P fn.results.toList f w' fun l=>R (KC l) w'):Cc P fn R Y (.panic [{v:=p,recovered:=false}]) f [{target:=.fn (.func g) c.toArray,args:=a.toArray}] w:=by
 obtain⟨s,q,W,r⟩:=hg.out;refine⟨by simp,.inr ⟨_,_,g,(a++c).toArray,rfl,?_,T.mono ?_⟩⟩
 ·simp only[invoke,callFunc,program];simp[Sem.run,q,W,r]
 ·intro e m w' B;cases e with
  |returned v=>obtain⟨rfl,z⟩:=B;exact h w' z
  |panicked _=>exact B.elim
  |outgrown=>exact B.elim
end
class Nx (g:Prop) (c s:outParam Prop):Prop where
 imp:c->s->g
theorem nx{g c s:Prop}[h:Nx g c s](y:c)(x:s):g:=h.imp y x
section
variable {P:Program}{n:Cf}{Q:CQ}{f:Fr}{ds:DS}{w:World}{a b:Code}{k:Fr->DS->World->Prop}{i j l:Nat}{o:Operand}{c:List PanicEntry}{all:Array Oper}{Z:Fr->DS->List PanicEntry->World->Prop}
instance:Nx (WC P n (.seq a b) Q f ds w) (0=0) (WC P n a (CO (WC P n b Q) Q) f ds w):=⟨fun _=>Gn⟩
instance:Nx (WC P n (.block i a) Q f ds w) (0=0) (WC P n a (B0 i Q) f ds w):=⟨fun _=>lP⟩
instance:Nx (WC P n (.scope a) Q f ds w) (0=0) (WC P n a (Cx Q) f ds w):=⟨fun _=>lS⟩
instance:Nx (WC P n .skip Q f ds w) (0=0) (Q .normal f ds w):=⟨fun _=>oe⟩
instance:Nx (WC P n (.label l) Q f ds w) (0=0) (Q .normal f ds w):=⟨fun _=>lR⟩
instance:Nx (WC P n .ret Q f ds w) (0=0) (Q .ret f ds w):=⟨fun _=>qJ⟩
instance:Nx (WC P n (.exit i) Q f ds w) (0=0) (Q (.exit i) f ds w):=⟨fun _=>oZ⟩
instance:Nx (CO k Q .normal f ds w) (0=0) (k f ds w):=⟨fun _=>Fx⟩
instance:Nx (CO k Q .ret f ds w) (0=0) (Q .ret f ds w):=⟨fun _=>cD⟩
instance:Nx (CO k Q (.exit i) f ds w) (0=0) (Q (.exit i) f ds w):=⟨fun _=>aT⟩
instance:Nx (CO k Q (.panic c) f ds w) (0=0) (Q (.panic c) f ds w):=⟨fun _=>aC⟩
instance:Nx (B0 i Q .normal f ds w) (0=0) (Q .normal f ds w):=⟨fun _=>lT⟩
instance:Nx (B0 i Q .ret f ds w) (0=0) (Q .ret f ds w):=⟨fun _=>aS⟩
instance:Nx (B0 i Q (.panic c) f ds w) (0=0) (Q (.panic c) f ds w):=⟨fun _=>Z0⟩
instance:Nx (B0 i Q (.exit i) f ds w) (0=0) (Q .normal f ds w):=⟨fun _=>aB⟩
instance:Nx (Iy k .normal f ds w) (0=0) (k f ds w):=⟨fun _=>qM⟩
instance:Nx (Cx Q .normal f ds w) (0=0) (Q .normal f ds w):=⟨fun _=>fun h=>h⟩
instance:Nx (Cx Q .ret f ds w) (0=0) (Q .ret f ds w):=⟨fun _=>fun h=>h⟩
instance:Nx (Cx Q (.exit i) f ds w) (0=0) (Q (.exit i) f ds w):=⟨fun _=>fun h=>h⟩
instance:Nx (Cx Q (.panic c) f ds w) (0=0) (Q (.panic c) f ds w):=⟨fun _=>fun h=>h⟩
instance:Nx (AF P all Z k [] f ds w) (0=0) (k f ds w):=⟨fun _=>AB⟩
instance (priority:=low):Nx (B0 j Q (.exit i) f ds w) (Nat.beq i j=false) (Q (.exit i) f ds w):=⟨bo⟩
instance:Nx (WC P n (.cond o a b) Q f ds w) (ev f o=.bool true) (WC P n a Q f ds w):=⟨iP⟩
theorem nf(T:ev f o=.bool false)(h:WC P n b Q f ds w):WC P n (.cond o a b) Q f ds w:=iO T h
end
end
theorem mSx{p:Prop}(h:p:=by first|(simp;done)|(simp;omega)|(intros;simp at*;omega)):p:=h
theorem mSy{p:Prop}(h:p:=by first|(simp;done)|(intro x hx hlt;simp at hx;omega)|(intro x hx hlt;simp at hx⊢;omega)|(intro x hx hlt;simp at hx;rcases hx with rfl|rfl<;>first|omega|(simp;done)|(simp;omega))):p:=h
theorem mKk{p:Prop}(h:p:=by first|assumption|(apply New.E;assumption)|(apply Put.E;assumption)):p:=h
section
variable {mk:Prop}[MK mk]{X:List Nat}{w w':World}{ok:Nat->Prop}
theorem kB{b:Nat}{T:TypeId}{L:LV}(k:Keep X w w')(h:Blk w b T L)(hb:b∉X):Blk w' b T L:=h.E k hb
theorem kC{b off:Nat}{cs:LV}(k:Keep X w w')(h:Cells w b off cs)(hb:b∉X):Cells w' b off cs:=h.E k hb
theorem kS{v:Value}{n:Nat}{cs:LV}(k:Keep X w w')(h:Sl ok w v n cs)(hX:∀b,ok b->b∉X):Sl ok w' v n cs:=h.E k hX
theorem kT{Y:List Nat}{a:World}(k:Keep Y w w')(h:Keep X a w)(hY:∀x∈Y,x<a.heap.size->x∈X):Keep X a w':=h.Q k hY
end
theorem mKp{p:Prop}(h:p:=by
  first
  |assumption|apply Keep.refl|(apply New.E;assumption)|(apply Put.E;assumption)|(apply New.D;assumption)|(apply Put.D;assumption)
  |(apply Blk.cell;assumption;rfl)|(apply Blk.cell;apply New.D;assumption;rfl)|(apply Blk.cell;apply Put.D;assumption;rfl)
  |(apply kB;exact mKk;exact mKp;exact mSx)|(apply Keep.cell;exact mKk;exact mKp;exact mSx)|(apply kC;exact mKk;exact mKp;exact mSx)|(apply kS;exact mKk;exact mKp;exact mSx)
  |(apply FAt.keep';exact mKk;exact mKp;exact mSx)|(apply FsAt.keep';exact mKk;exact mKp;exact mSx)|(apply RsAt.keep';exact mKk;exact mKp;exact mSx)|(apply SlAt.keep';exact mKk;exact mKp;exact mSx)|(apply PF.keep';exact mKk;exact mKp;exact mSx)
  |(apply kT;exact mKk;exact mKp;exact mSy)):p:=h
theorem mFa{S:World->Prop}{W:World}{a:Addr}{v:Value}(h:∀V,S V->V.cell? a=some v)(hW:S W):W.cell? a=some v:=h W hW
theorem mFs{S:World->Prop}{W:World}{b o:Nat}{cs:LV}(h:∀V,S V->Cells V b o cs)(hW:S W):Cells W b o cs:=h W hW
theorem mLk{p:Prop}(h:p:=by
  first
  |assumption
  |(apply Blk.cell;assumption;rfl)
  |(apply mFa;assumption;exact hW)
  |(apply hW.cell;assumption;simp;done)
  |(apply hW.cell;apply Blk.cell;assumption;rfl;simp;done)
  |exact mKp):p:=h
theorem mLs{p:Prop}(h:p:=by
  first
  |assumption
  |(apply Blk.cells;assumption)
  |(apply mFs;assumption;exact hW)
  |(apply hW.cells;assumption;simp;done)
  |exact mKp):p:=h
theorem mOo{p:Prop}(h:p:=by omega):p:=h
theorem mRr{p:Prop}(h:p:=by first|exact Dt mOo mOo|exact Dv mOo mOo|exact Du mOo mOo):p:=h
structure Bx(p:Prop):Prop where
  x:p
section
variable {P:Program}{all:Array Oper}{Z:Fr->DS->List PanicEntry->World->Prop}{K:Fr->DS->World->Prop}{rest:List Oper}{f:Fr}{ds:DS}{w:World}{d:Nat}{ty:TypeId}{pos:String}{af:Array Edge}{T U:TypeId}{x y:Operand}
abbrev W1(P:Program)(all:Array Oper)(Z:Fr->DS->List PanicEntry->World->Prop)(K:Fr->DS->World->Prop)(rest:List Oper)(f:Fr)(ds:DS)(w:World)(d:Nat)(ty:TypeId)(pos:String)(af:Array Edge)(o:Op):Prop:=AF P all Z K (⟨some d,o,ty,pos,af,none⟩::rest) f ds w
theorem pW(h:W1 P all Z K rest f ds w d ty pos af (.move x)):AF P all Z K (⟨some d,.move x,ty,pos,af,none⟩::rest) f ds w:=h
theorem pT(h:W1 P all Z K rest f ds w d ty pos af (.load T x)):AF P all Z K (⟨some d,.load T x,ty,pos,af,none⟩::rest) f ds w:=h
theorem qg{o:BinOp}(h:W1 P all Z K rest f ds w d ty pos af (.binOp o T x y U)):AF P all Z K (⟨some d,.binOp o T x y U,ty,pos,af,none⟩::rest) f ds w:=h
theorem qh(h:W1 P all Z K rest f ds w d ty pos af (.indexAddr T x y)):AF P all Z K (⟨some d,.indexAddr T x y,ty,pos,af,none⟩::rest) f ds w:=h
theorem mJ{a b c:Option Operand}(h:W1 P all Z K rest f ds w d ty pos af (.slice T x a b c)):AF P all Z K (⟨some d,.slice T x a b c,ty,pos,af,none⟩::rest) f ds w:=h
end
theorem mO1{G N:Prop}(k:N)(h:Bx N->G:=by
  intro k
  first
  |(apply pW
    first
    |(apply AS;rfl;exact k.x)
    |(apply Aq;rfl;exact k.x)
    |(apply BY;rfl;exact k.x)
    |(apply AH;rfl;exact k.x)
    |(apply BL;rfl;exact k.x)
    |(apply qL;rfl;exact k.x)
    |(apply Mf;rfl;exact k.x)
    |(apply K3;rfl;exact k.x)
    |(apply Yj;rfl;exact k.x)
    |(apply GQ;exact k.x))
  |(apply AV;rfl;exact k.x)
  |(apply pT
    first
    |(apply AQ;rfl;exact mLk;exact k.x)
    |(apply Cu;rfl;exact mKp;rfl;exact k.x)
    |(refine Al rfl (by rfl) mLs ?_;exact k.x))
  |(apply A7;rfl;exact k.x)
  |(apply qg
    first
    |(apply M6;rfl;rfl;exact fun _=>k.x;exact fun hc=>absurd hc mOo)
    |(apply M6;rfl;rfl;exact fun hc=>absurd hc mOo;exact fun _=>k.x)
    |(apply Cb;rfl;rfl;exact fun _=>k.x;exact fun hc=>absurd mOo hc)
    |(apply Cb;rfl;rfl;exact fun hc=>absurd hc mOo;exact fun _=>k.x)
    |(apply Fz;rfl;rfl;exact mRr;exact k.x)
    |(apply JV;rfl;rfl;exact fun _=>k.x;exact fun hc=>absurd hc mOo)
    |(apply JV;rfl;rfl;exact fun hc=>absurd mOo hc;exact fun _=>k.x)
    |(apply Iw;rfl;rfl;exact mRr;exact k.x)
    |(apply qO;rfl;rfl;exact mRr;exact k.x)
    |(apply Fa;rfl;rfl;exact fun _=>k.x;exact fun hc=>absurd hc mOo)
    |(apply Fa;rfl;rfl;exact fun hc=>absurd hc mOo;exact fun _=>k.x)
    |(apply JU;rfl;rfl;exact fun _=>k.x;exact fun hc=>absurd hc mOo)
    |(apply JU;rfl;rfl;exact fun hc=>absurd hc mOo;exact fun _=>k.x)
    |(apply Iv;rfl;rfl;exact fun _=>k.x;exact fun hc=>absurd hc mOo)
    |(apply Iv;rfl;rfl;exact fun hc=>absurd hc mOo;exact fun _=>k.x)
    |(apply og;rfl;rfl;exact k.x)
    |(apply oh;rfl;rfl;exact k.x)
    |(apply Ym;rfl;rfl;exact mOo;exact mOo;exact mRr;exact k.x)
    |(apply qP;rfl;rfl;exact mOo;exact mOo;exact k.x))
  |(apply AT;exact k.x)
  |(apply qh
    first
    |(apply HS;rfl;rfl;assumption;exact mOo;exact k.x)
    |(apply HS;rfl;rfl;rfl;exact mOo;exact k.x)
    |(apply DZ;rfl;rfl;assumption;exact mOo;exact k.x)
    |(apply DZ;rfl;rfl;rfl;exact mOo;exact k.x)
    |(apply Js;rfl;rfl;exact mOo;exact mOo;exact k.x)
    |(apply Hb;rfl;rfl;exact mOo;exact mOo;exact k.x))
  |(apply BF;rfl;exact k.x)
  |(apply BJ;rfl;exact k.x)
  |(apply Cj;rfl;exact k.x)
  |(apply EM;rfl;exact k.x)
  |(apply H7;rfl;rfl;exact k.x)
  |(apply IM;rfl;exact k.x)
  |(apply Jt;rfl;rfl;exact k.x)
  |(apply DB;rfl;rfl;exact k.x)
  |(apply Tl;rfl;rfl;exact k.x)
  |(apply YD;rfl;exact mRr;exact k.x)
  |(apply GN;exact k.x)
  |(apply mJ
    first
    |(apply aV;rfl;exact k.x)
    |(apply cI;rfl;rfl;rfl;exact mOo;exact mOo;exact mOo;exact k.x)
    |(apply UT;rfl;rfl;exact mOo;exact mOo;exact k.x)
    |(apply N5;rfl;rfl;exact mOo;exact mOo;exact k.x)
    |(apply aW;rfl;rfl;rfl;exact mOo;exact mOo;exact k.x)
    |(apply QV;rfl;rfl;exact mOo;exact k.x)
    |(apply Lv;rfl;rfl;exact mOo;exact k.x))
  |(apply FF;rfl;rfl;assumption;exact k.x)
  |(refine FF (j:=0) rfl rfl (by assumption) ?_;exact k.x)):G:=h ⟨k⟩
theorem go{G N:Prop}(k:N)(h:Bx N->G:=by
  intro k
  repeat' first
    |(apply nx;rfl)
    |(apply nf;rfl)
    |apply AN
    |(apply D_R;rfl;rfl
      ·intro W hW
       try subst hW
       repeat' first|(apply AE;rfl)|(apply AP;rfl)|exact AB ⟨rfl,rfl,rfl⟩|refine mO1 ?_)
    |apply Cy
    |(apply AE;rfl)
    |(apply AP;rfl)
    |refine mO1 ?_
    |(apply JS;rfl;rfl;rfl;rfl;intro _;rotate_left;exact fun hc=>absurd hc mOo)
    |(apply JS;rfl;rfl;rfl;rfl;exact fun hc=>absurd hc mOo;intro _)
    |(apply So;rfl;rfl;rfl;rfl;intro _;rotate_left;exact fun hc=>absurd hc mOo)
    |(apply So;rfl;rfl;rfl;rfl;exact fun hc=>absurd hc mOo;intro _)
    |(apply M3;rfl;rfl;rfl;rfl;intro _;rotate_left;exact fun hc=>absurd hc mOo)
    |(apply M3;rfl;rfl;rfl;rfl;exact fun hc=>absurd hc mOo;intro _)
    |(apply Sn;rfl;rfl;rfl;rfl;intro _;rotate_left;exact fun hc=>absurd hc mOo)
    |(apply Sn;rfl;rfl;rfl;rfl;exact fun hc=>absurd hc mOo;intro _)
    |(apply M2;rfl;rfl;rfl;rfl;intro _;rotate_left;exact fun hc=>absurd mOo hc)
    |(apply M2;rfl;rfl;rfl;rfl;exact fun hc=>absurd hc mOo;intro _)
    |(apply Sp;rfl;rfl;rfl;rfl;intro _;rotate_left;exact fun hc=>absurd hc mOo)
    |(apply Sp;rfl;rfl;rfl;rfl;exact fun hc=>absurd mOo hc;intro _)
  exact k.x):G:=h ⟨k⟩
theorem gC{P:Program}{F:FuncId}{vs:List Value}{w:World}{R:Value->World->Prop}{G:Prop}{N:Value->World->Prop}(c:Fn P F vs w R)(k:∀v w',R v w'->N v w')(h:Fn P F vs w R->Bx (∀v w',R v w'->N v w')->G:=by
  intro c k
  refine go ?_
  exact AD c rfl k.x):G:=h c ⟨k⟩
theorem gE{G N:Prop}(k:N)(h:Bx N->G:=by
  intro k
  refine go ?_
  exact D_E rfl k.x):G:=h ⟨k⟩
theorem gR{G N:Prop}(k:N)(h:Bx N->G:=by
  intro k
  refine go ?_
  exact AC rfl k.x):G:=h ⟨k⟩
theorem nX{G N:Prop}(k:N)(h:Bx N->G:=by
  intro k
  repeat refine nx rfl ?_
  exact k.x):G:=h ⟨k⟩
theorem nY{G N:Prop}(k:N)(h:Bx N->G:=by
  intro k
  repeat first|refine nx rfl ?_|refine nf rfl ?_
  exact k.x):G:=h ⟨k⟩
section
variable {mk:Prop}[MK mk]
def Bp(c:UInt8):Bool:=decide (97<=c.toNat)&&decide (c.toNat<=122)
def Je(c:UInt8):Bool:=decide (65<=c.toNat)&&decide (c.toNat<=90)
def Ag(c:UInt8):Bool:=decide (48<=c.toNat)&&decide (c.toNat<=57)
def Ct(c:UInt8):Bool:=Bp c||Je c
def Bl(c:UInt8):Bool:=Bp c||Ag c||decide (c.toNat=95)
def CA(c:UInt8):Bool:= !decide (c.toNat=10)
inductive Fml where
 |mk (op:Int) (name:LU) (val bound:Int) (args:List Fml)
def Fml.op:Fml->Int| .mk o _ _ _ _=>o
def Fml.name:Fml->LU| .mk _ n _ _ _=>n
def Fml.val:Fml->Int| .mk _ _ v _ _=>v
def Fml.bound:Fml->Int| .mk _ _ _ b _=>b
def Fml.args:Fml->List Fml| .mk _ _ _ _ a=>a
def Ad:Fml:=⟨0,[],0,0,[]⟩
structure Sgn where
 name:LU
 input:Bool
 size:Int
structure Rqm where
 part:LU
 name:LU
 kind:Int
 formula:Fml
structure Spc where
 sigs:List Sgn
 reqs:List Rqm
structure Edt where
 kind:Int
 req:Rqm
def keysL:List (LU):=[[105,110,112,117,116],[111,117,116,112,117,116],[112,97,114,116],[97,115,115,117,109,101],[103,117,97,114,97,110,116,101,101],[116,114,117,101],[102,97,108,115,101],[97,100,100],[100,114,111,112],[114,101,112,108,97,99,101]]
def NH(c:UInt8):Bool:=Bp c||Ag c||decide (c.toNat=95)
def BP(s:LU):Bool:=
 decide (1<=s.length)&&decide (s.length<=12)&&Bp (s.getD 0 0)&&s.all NH&& !decide (s∈keysL)
def LL(op:Int)(l:List Fml):Fml:=match l with
 | [a]=>a
 |l=>⟨op,[],0,0,l⟩
def isF(s:LU)(n:Int):Fml:=⟨3,s,n,0,[]⟩
def notF(f:Fml):Fml:=⟨4,[],0,0,[f]⟩
abbrev LF:=List Fml
end
def BD:=@decide_eq_true_eq
section
variable {mk:Prop}[MK mk]
def IS(g:FuncId)(p:UInt8->Bool):Prop:=∀(c:UInt8)(w:World),Fn Zp g [Gu c] w fun v X=>v=.bool (p c)/\X=w
def Wf:IS 278 Bp:=by
 intro c w;refine AM func278 rfl ntmps278 ?_;refine nX ?_;refine AN (AT (AH rfl ?_));refine nX ?_;(refine AN (AS rfl ?_)<;>(refine Fa rfl rfl (fun T=>?_) (fun T=>?_)<;>try omega)<;>refine AH rfl ?_<;>(first|refine AP rfl ?_|(refine AE rfl ?_;refine AS rfl ?_))<;>(first|refine AP rfl ?_|(refine AE rfl ?_;(refine Fa rfl rfl (fun T=>?_) (fun T=>?_)<;>try omega)))<;>((first|refine BF rfl ?_|refine BJ rfl ?_);refine AH rfl ?_)<;>refine AT (AH rfl (AB ?_)))
 all_goals
  refine nX ?_;exact AC rfl ⟨by simp[Bp,upd,Nat.beq];omega,rfl⟩
def YL:IS 279 Ag:=by
 intro c w;refine AM func279 rfl ntmps279 ?_;refine nX ?_;refine AN (AT (AH rfl ?_));refine nX ?_;(refine AN (AS rfl ?_)<;>(refine Fa rfl rfl (fun T=>?_) (fun T=>?_)<;>try omega)<;>refine AH rfl ?_<;>(first|refine AP rfl ?_|(refine AE rfl ?_;refine AS rfl ?_))<;>(first|refine AP rfl ?_|(refine AE rfl ?_;(refine Fa rfl rfl (fun T=>?_) (fun T=>?_)<;>try omega)))<;>((first|refine BF rfl ?_|refine BJ rfl ?_);refine AH rfl ?_)<;>refine AT (AH rfl (AB ?_)))
 all_goals
  refine nX ?_;exact AC rfl ⟨by simp[Ag,upd,Nat.beq];omega,rfl⟩
def ly:IS 276 CA:=by
 intro c w;refine AM func276 rfl ntmps276 ?_;refine nX ?_;refine AN (AT (AH rfl ?_));refine nX ?_;(refine AN (AS rfl ?_)<;>(refine JV rfl rfl (fun T=>?_) (fun T=>?_)<;>try omega)<;>refine AT (AH rfl (AB ?_)))
 all_goals
  refine nX ?_;exact AC rfl ⟨by simp[CA,upd,Nat.beq];omega,rfl⟩
def YT:IS 281 Ct:=by
 intro c w;refine AM func281 rfl ntmps281 ?_;refine gC (Wf c w) ?_;rintro v X⟨rfl,rfl⟩;cases hs:Bp c with
 |true=>
  refine go ?_
  all_goals
   refine gR ?_;exact⟨by simp[Ct,hs,upd,Nat.beq],rfl⟩
 |false=>
  (refine AH rfl (AE rfl (AS rfl ?_))<;>(refine AE rfl ?_;(refine Fa rfl rfl (fun T=>?_) (fun T=>?_)<;>try omega))<;>refine AE rfl (AH rfl ?_)<;>(first|refine AP rfl ?_|(refine AE rfl ?_;refine AS rfl ?_))<;>(first|refine AP rfl ?_|(refine AE rfl ?_;(refine Fa rfl rfl (fun T=>?_) (fun T=>?_)<;>try omega)))<;>(refine AE rfl ?_;((first|refine BF rfl ?_|refine BJ rfl ?_);refine AH rfl ?_))<;>refine BJ rfl (AH rfl (AT (AH rfl (AB ?_)))))
  all_goals
   refine nX ?_;exact AC rfl ⟨by simp[Ct,hs,Je,upd,Nat.beq];omega,rfl⟩
def nI:IS 277 Bl:=by
 intro c w;refine AM func277 rfl ntmps277 ?_;refine gC (Wf c w) ?_;rintro v X⟨rfl,rfl⟩;cases hs:Bp c with
 |true=>
  refine go ?_
  all_goals
   refine gR ?_;exact⟨by simp[Bl,hs,upd,Nat.beq],rfl⟩
 |false=>
  refine gC (YL c _) ?_;rintro v X⟨rfl,rfl⟩;cases hd:Ag c with
  |true=>
   refine go ?_
   all_goals
    refine gR ?_;exact⟨by simp[Bl,hs,hd,upd,Nat.beq],rfl⟩
  |false=>
   (refine BJ rfl (AH rfl (AH rfl (AE rfl (AS rfl ?_))))<;>(refine AE rfl ?_;(refine Cb rfl rfl (fun T=>?_) (fun T=>?_)<;>try omega))<;>refine BJ rfl (AH rfl (AT (AH rfl (AB ?_)))))
   all_goals
    refine nX ?_;exact AC rfl ⟨by simp[Bl,hs,hd,upd,Nat.beq];omega,rfl⟩
def DG(t s:LU):Bool:=decide (s.length<=t.length)&&decide (t.take s.length=s)
def Ii(t s:LU):DG t s=true↔s<+:t:=by
 simp only[DG,AZ,BD,List.prefix_iff_eq_take];constructor
 ·rintro⟨_,h⟩;exact h.symm
 ·intro h;exact⟨by have:=congrArg List.length h;simp at this;omega,h.symm⟩
def nP(t s:LU)(w:World):Fn Zp 316 [AA t,AA s] w fun v w'=>v=.bool (DG t s)/\w'=w:=by
 refine AM func316 rfl ntmps316 ?_;refine nX ?_;refine AN (AT (AH rfl ?_));refine nX ?_;(refine AN (BL rfl (EM rfl (BL rfl (EM rfl ?_))))<;>(refine Iv rfl rfl (fun T=>?_) (fun T=>?_)<;>try omega)<;>refine AH rfl ?_<;>(first|refine AP rfl ?_|(refine AE rfl ?_;refine BL rfl ?_))<;>(first|refine AP rfl ?_|(refine AE rfl ?_;refine BL rfl ?_))<;>(first|refine AP rfl ?_|(refine AE rfl ?_;refine EM rfl ?_))<;>(first|refine AP rfl ?_|(refine AE rfl ?_;refine Lv rfl rfl U ?_))<;>(first|refine AP rfl ?_|(refine AE rfl ?_;refine BL rfl ?_))<;>(first|refine AP rfl ?_|(refine AE rfl ?_;refine CZ rfl rfl (fun T=>?_) (fun T=>?_)))<;>((first|refine BF rfl ?_|refine BJ rfl ?_);refine AH rfl ?_)<;>refine AT (AH rfl (AB ?_)))
 all_goals
  refine gR ?_;exact⟨by simp[DG,upd,Nat.beq];first|omega|(intro;omega)|(intro h;exact absurd h rG)|exact⟨by omega,by assumption⟩|skip,rfl⟩
def pu(t s:LU)(w:World):Fn Zp 282 [AA t,AA s] w fun v w'=>v=.bool (DG t s)/\w'=w:=by
 refine AM func282 rfl ntmps282 ?_;refine gC (nP t s w) ?_;rintro v w'⟨rfl,rfl⟩;exact sd
end
def Do:=@List.flatten_cons
def A9:=@List.length_append
def Ou:=@Nat.zero_mul
def D4:=@List.getElem?_append_left
def EJ:=@List.getElem?_append_right
section
variable {mk:Prop}[MK mk]
abbrev pt(s:Nat):Value:=.pointer (sm s)
def Ao{w:World}{B e size n g:Nat}{v:Value}{xs:LV}(h:w.ownsRow B e size v n xs)(y:v.ownBlock=some g):B<=g/\g<w.heap.size:=by
 rcases h.2 with⟨rfl,_⟩|⟨b,u,C,rfl,Z,W,_⟩
 ·cases y
 ·cases y;exact⟨Z,(FM.1 W).1⟩
inductive FAt(ok:Nat->Prop)(w:World):Value->Fml->Prop where
 |mk (op:Int) (name:LU) (val bound:Int) (args:LF) (av:Value) (L:List (LV)) (hS:Sl ok w av args.length L.flatten) (hL:L.length=args.length) (h5:∀c∈L,c.length=5)
  (hA:∀(i:Nat)(c:LV)(g:Fml),L[i]?=some c->args[i]?=some g->FAt ok w (.agg c.toArray) g):FAt ok w (.agg #[iV op,AA name,iV val,iV bound,av]) ⟨op,name,val,bound,args⟩
def FAt.E{ok:Nat->Prop}{X:List Nat}{w w':World}{v:Value}{f:Fml}(h:FAt ok w v f)(k:Keep X w w')(T:∀b,ok b->b∉X):FAt ok w' v f:=by
 induction h with
 |mk op name val bound args av L hS hL h5 hA ih=>exact .mk op name val bound args av L (hS.E k T) hL h5 ih
def FAt.ext{ok:Nat->Prop}{w w':World}{v:Value}{f:Fml}(h:FAt ok w v f)(k:Ext w w'):FAt ok w' v f:=h.E k fun _ _=>by simp
def FAt.mono{ok ok':Nat->Prop}{w:World}{v:Value}{f:Fml}(h:FAt ok w v f)(P:∀b,ok b->ok' b):FAt ok' w v f:=by
 induction h with
 |mk op name val bound args av L hS hL h5 hA ih=>exact .mk op name val bound args av L (hS.mono P) hL h5 ih
def Sl.lt{ok:Nat->Prop}{w:World}{v:Value}{n:Nat}{cs:LV}(h:Sl ok w v n cs)(T:n≠0->cs≠[]):Sl (fun b=>ok b/\b<w.heap.size) w v n cs:=by
 obtain⟨a,e,s,Z,W,R,A⟩:=h;refine⟨a,e,s,Z,W,R,?_⟩;by_cases c:n=0
 ·exact .inl c
 ·obtain⟨b,X,G,S,d⟩:=A.resolve_left c;refine .inr ⟨b,X,G,⟨S,?_⟩,d⟩
  match cs,T c with
  |u::cs,_=>exact HX w _ (d 0 u rfl)
def Nv{L:List (LV)}{n:Nat}(S:L.length=n)(Z:∀c∈L,c.length=5):n≠0->L.flatten≠[]:=by
 intro v e
 match L,S with
 | [],S=>exact v S.symm
 |c::L,_=>
  have:=Z c O;simp at e;simp[e.1]at this
def FAt.lt{ok:Nat->Prop}{w:World}{v:Value}{f:Fml}(h:FAt ok w v f):FAt (fun b=>ok b/\b<w.heap.size) w v f:=by
 induction h with
 |mk op name val bound args av L hS hL h5 hA ih=>exact .mk op name val bound args av L (hS.lt (Nv hL h5)) hL h5 ih
def FAt.form{ok:Nat->Prop}{w:World}{v:Value}{f:Fml}(h:FAt ok w v f):∃R,v=.agg #[iV f.op,AA f.name,iV f.val,iV f.bound,R]/\
  ∃L:List (LV),Sl ok w R f.args.length L.flatten/\L.length=f.args.length/\(∀c∈L,c.length=5)/\∀(i:Nat)(c:LV)(g:Fml),L[i]?=some c->f.args[i]?=some g->FAt ok w (.agg c.toArray) g:=by
 cases h with
 |mk op name val bound args R L hS hL h5 hA=>exact⟨R,rfl,L,hS,hL,h5,hA⟩
def FAt.leaf(ok:Nat->Prop)(w:World)(op:Int)(K:LU)(Q I:Int):FAt ok w (.agg #[iV op,AA K,iV Q,iV I,nS]) ⟨op,K,Q,I,[]⟩:=
 .mk op K Q I [] _ [] ⟨none,0,rfl,by simp,by omega,fun _=>rfl,.inl rfl⟩ rfl (fun c T=>by cases T) (fun i c g h=>by simp at h)
def FsAt(ok:Nat->Prop)(w:World)(L:List (LV))(l:LF):Prop:=
 L.length=l.length/\(∀c∈L,c.length=5)/\∀(i:Nat)(c:LV)(g:Fml),L[i]?=some c->l[i]?=some g->FAt ok w (.agg c.toArray) g
def FsAt.nil(ok:Nat->Prop)(w:World):FsAt ok w [] []:=⟨rfl,(fun c T=>by cases T),fun i c g h=>by simp at h⟩
def FsAt.cons{ok:Nat->Prop}{w:World}{c:LV}{f:Fml}{L:List (LV)}{l:LF}(h:FAt ok w (.agg c.toArray) f)(T:c.length=5)(N:FsAt ok w L l):FsAt ok w (c::L) (f::l):=by
 refine⟨by simp[N.1],fun d x=>?_,fun i d g F y=>?_⟩
 ·rcases BI.1 x with rfl|x
  ·exact T
  ·exact N.2.1 d x
 ·cases i with
  |zero=>simp at F y;subst F y;exact h
  |succ i=>exact N.2.2 i d g rm (by simpa using y)
def FsAt.snoc{ok:Nat->Prop}{w:World}{c:LV}{f:Fml}:∀{L:List (LV)}{l:LF},FsAt ok w L l->FAt ok w (.agg c.toArray) f->c.length=5->FsAt ok w (L++[c]) (l++[f])
 | [],[],_,h,T=>FsAt.cons h T (FsAt.nil ok w)
 | [],_::_,hl,_,_=>by have:=hl.1;simp at this
 |_::_,[],hl,_,_=>by have:=hl.1;simp at this
 |d::L,g::l,hl,h,T=>FsAt.cons (hl.2.2 0 d g rfl rfl) (hl.2.1 d O) (FsAt.snoc ⟨by simpa using hl.1,fun c T=>hl.2.1 c rR,fun i c g F y=>hl.2.2 (i+1) c g rm (by simpa using y)⟩ h T)
def FsAt.E{ok:Nat->Prop}{X:List Nat}{w w':World}{L:List (LV)}{l:LF}(h:FsAt ok w L l)(k:Keep X w w')(T:∀b,ok b->b∉X):FsAt ok w' L l:=
 ⟨h.1,h.2.1,fun i c g F y=>(h.2.2 i c g F y).E k T⟩
def FsAt.mono{ok ok':Nat->Prop}{w:World}{L:List (LV)}{l:LF}(h:FsAt ok w L l)(P:∀b,ok b->ok' b):FsAt ok' w L l:=
 ⟨h.1,h.2.1,fun i c g F y=>(h.2.2 i c g F y).mono P⟩
def FsAt.lt{ok:Nat->Prop}{w:World}{L:List (LV)}{l:LF}(h:FsAt ok w L l):FsAt (fun b=>ok b/\b<w.heap.size) w L l:=
 ⟨h.1,h.2.1,fun i c g F y=>(h.2.2 i c g F y).lt⟩
def FsAt.flat{ok:Nat->Prop}{w:World}{L:List (LV)}{l:LF}(h:FsAt ok w L l):L.flatten.length=l.length*5:=by
 obtain⟨Z,W,R⟩:=h;rw[<-Z];clear Z R
 induction L with
 |nil=>rfl
 |cons c L ih=>
  have:=W c O;have:=ih fun d x=>W d (by simp[x]);simp only[Do,A9,C9];omega
def FAt.node{ok:Nat->Prop}{w:World}{R:Value}{L:List (LV)}{l:LF}(op:Int)(K:LU)(Q I:Int)(i:Sl ok w R l.length L.flatten)(h:FsAt ok w L l):
  FAt ok w (.agg #[iV op,AA K,iV Q,iV I,R]) ⟨op,K,Q,I,l⟩:=.mk op K Q I l R L i h.1 h.2.1 h.2.2
def FAt.cells{ok:Nat->Prop}{w:World}{v:Value}{f:Fml}(h:FAt ok w v f):∃c:LV,v=.agg c.toArray/\c.length=5/\oneC c:=by
 obtain⟨R,rfl,L,i,_⟩:=h.form;obtain⟨a,b,rfl,_⟩:=i;refine⟨_,rfl,rfl,?_⟩;intro u o;simp at o;rcases o with rfl|rfl|rfl|rfl|rfl<;>rfl
def zero5:LV:=[iV 0,AA [],iV 0,iV 0,nS]
def Da:(madeCells (Value.agg #[iV 0,AA [],iV 0,iV 0,nS]).cells (1*5)).toList=zero5:=by kernel_rfl
def II:(madeCells (Value.agg #[iV 0,AA [],iV 0,iV 0,nS]).cells (2*5)).toList=zero5++zero5:=by kernel_rfl
def FsAt.fresh{ok:Nat->Prop}{w w':World}{e:TypeId}{L:List (LV)}{l:LF}(n:New w w' e L.flatten)(h:FsAt ok w L l)(S:ok w.heap.size)(N:l.length<=1000000):
  Sl ok w' (.slice (sm w.heap.size) l.length l.length) l.length L.flatten/\FsAt ok w' L l:=
 ⟨⟨_,_,rfl,AO _,by omega,(fun h=>by cases h),.inr ⟨_,_,rfl,S,n.D.cells⟩⟩,h.E n.E fun _ _=>by simp⟩
def FsAt.one{ok:Nat->Prop}{w:World}{c:LV}{f:Fml}(h:FAt ok w (.agg c.toArray) f)(T:c.length=5):FsAt ok w [c] [f]:=FsAt.cons h T (FsAt.nil ok w)
def FsAt.two{ok:Nat->Prop}{w:World}{c d:LV}{f g:Fml}(h:FAt ok w (.agg c.toArray) f)(T:c.length=5)(Q:FAt ok w (.agg d.toArray) g)(x:d.length=5):FsAt ok w [c,d] [f,g]:=FsAt.cons h T (FsAt.one Q x)
def FsAt.ext{ok:Nat->Prop}{w w':World}{L:List (LV)}{l:LF}(h:FsAt ok w L l)(k:Ext w w'):FsAt ok w' L l:=h.E k fun _ _=>by simp
def Tw:∀(L:List (LV))(k j:Nat)(c:LV)(v:Value),(∀c∈L,c.length=5)->L[k]?=some c->c[j]?=some v->L.flatten[k*5+j]?=some v
 | [],k,j,c,v,_,h,_=>by simp at h
 |d::L,0,j,c,v,h5,h,hv=>by
  simp at h;subst h;rw[Do,Ou,Bs,D4 (Ah.1 hv).1];exact hv
 |d::L,k+1,j,c,v,h5,h,hv=>by
  have x:=h5 d O;rw[Do,EJ U,x,show(k+1)*5+j-5=k*5+j by omega];exact Tw L k j c v (fun c T=>h5 c rR) rT hv
def Sl.fml{ok:Nat->Prop}{w:World}{a:Option Addr}{n cap k:Nat}{L:List (LV)}{c:LV}(h:Sl ok w (.slice a n cap) n L.flatten)(Z:∀c∈L,c.length=5)(P:L[k]?=some c)(H:k<n):
  ∃b o,a=some ⟨b,o,none⟩/\ok b/\Cells w b (o+k*5) c:=by
 obtain⟨d,r,s,e,W,R,A⟩:=h;cases s;obtain⟨b,o,rfl,S,T⟩:=A.resolve_left U;refine⟨b,o,rfl,S,fun j v s=>?_⟩;have:=T _ _ (Tw L k j c v Z P s)
 rwa [<-GH]at this
def fresh(w:World):Nat->Prop:=fun b=>w.heap.size<=b
def An{cs:LV}(h:cs.length=5):∃e I D i s,cs=[e,I,D,i,s]:=by
 match cs,h with
 | [e,I,D,i,s],_=>exact⟨_,_,_,_,_,rfl⟩
end
def NS:=@List.drop_eq_getElem_cons
def NV:=@List.drop_eq_nil_of_le
def AU:=@List.getElem?_eq_getElem
def BB:=@Int.natCast_add
section
variable {mk:Prop}[MK mk]
structure Tok where
 kind:Int
 text:LU
 loc:Nat
deriving DecidableEq
def G9(k:Tok):LV:=[iV k.kind,AA k.text,iV (k.loc:Int)]
def EB(l:List Tok):LV:=l.flatMap G9
abbrev fail(e:Int)(p:Nat):List PanicEntry:=[{v:=.iface 193 (.agg #[iV e,iV (p:Int)]),recovered:=false}]
structure St(w0 w:World)(s:Nat)(t:LU)(a:Nat)(ts:List Tok):Prop where
 E:Keep [s] w0 w
 lt:s<w0.heap.size
 len:t.length<=6000
 loc:a<=t.length
 cnt:ts.length<=2000
 D:∃tv,Blk w s 197 [AA t,iV (a:Int),tv]/\w.ownsRow w0.heap.size 170 3 tv ts.length (EB ts)
def As(p:UInt8->Bool)(t:LU)(a:Nat):Nat:=a+((t.drop a).takeWhile p).length
def Fo{p:UInt8->Bool}{t:LU}{a:Nat}{c:UInt8}(h:t[a]?=some c)(C:p c=true):As p t a=As p t (a+1):=by
 obtain⟨Z,W⟩:=Ah.1 h;unfold As;rw[NS Z,W,List.takeWhile_cons_of_pos C];simp;omega
def Nl{p:UInt8->Bool}{t:LU}{a:Nat}{c:UInt8}(h:t[a]?=some c)(C:p c=false):As p t a=a:=by
 obtain⟨Z,W⟩:=Ah.1 h;unfold As;rw[NS Z,W,List.takeWhile_cons_of_neg (by simp[C])];simp
def N2{p:UInt8->Bool}{t:LU}{a:Nat}(h:t.length<=a):As p t a=a:=by
 unfold As;rw[NV h];simp
def Eu{p:UInt8->Bool}{t:LU}{a:Nat}(h:a<=t.length):As p t a<=t.length:=by
 have:=(List.takeWhile_prefix p (l:=t.drop a)).length_le;simp at this;unfold As;omega
def Fs(p:UInt8->Bool)(t:LU)(a:Nat):a<=As p t a:=by unfold As;omega
def Ro{g:FuncId}{p:UInt8->Bool}[AI Zp g](b:IS g p)(w:World)(s a:Nat)(t:LU)(x y:Value)(d:Blk w s 197 [AA t,x,y])(G:a<=t.length)(N:t.length<=6000):
  Fn Zp 275 [pt s,iV (a:Int),.func (.func g) #[] #[]] w fun v w'=>v=iV (As p t a:Int)/\w'=w:=by
 refine AM func275 rfl ntmps275 (go ?_);refine Aj (α:=Nat) (fun k=>[(0,pt s),(1,iV (k:Int)),(2,.func (.func g) #[] #[])]) (fun k Q=>k<=t.length/\As p t k=As p t a/\Q=w) (fun k=>t.length-k) a ⟨rfl,rfl,rfl,trivial⟩ ⟨G,rfl,rfl⟩ ?_;rintro k Q f⟨P,S,rfl⟩;refine go ?_;by_cases z:k<t.length
 ·have A:t[k]?=some t[k]:=AU z;generalize t[k]=c at A;refine go ?_;refine Bg (v1:=[]) (v2:=[]) (vs:=[Gu c]) rfl (b c _) rfl ?_;rintro v w'⟨rfl,rfl⟩;cases hp:p c with
  |true=>
   refine go ?_;refine⟨k+1,⟨rfl,⟨rfl,?_,rfl,trivial⟩,⟨by omega,(Fo A hp).symm.Q S,rfl⟩⟩,by omega⟩;show iV ((k:Int)+1)=_;rw[BB];rfl
  |false=>
   refine gR ?_;exact⟨by rw[<-S,Nl A hp];rfl,rfl⟩
 ·refine gR ?_;exact⟨by rw[<-S,N2 U];rfl,rfl⟩
def V0:(madeCells (Value.agg #[iV 0,AA [],iV 0]).cells (1*3)).toList=[iV 0,AA [],iV 0]:=by
 kernel_rfl
def pD(o w:World)(s a n:Nat)(t:LU)(ts:List Tok)(k:Int)(h:St o w s t a ts)(h1:a<=n)(h2:n<=t.length):
  FnP Zp 280 [pt s,iV k,iV (n:Int)] w (fun v w'=>v=.tuple #[]/\ts.length<2000/\St o w' s t n (ts++[⟨k,(t.take n).drop a,a⟩])) (fun ch w'=>ts.length=2000/\ch=fail 2 a/\Keep [s] o w'):=by
 obtain⟨D,hs,hl,ha,hn,tv,S,F⟩:=h
 obtain⟨z,A,rfl⟩:∃z A,tv=.slice z ts.length A:=by
  rcases F.2 with⟨rfl,B⟩|⟨g,a0,a1,rfl,_⟩
  ·exact⟨none,0,by rw[B]⟩
  ·exact ud
 refine CK func280 rfl ntmps280 nlr rD ?_;refine nX ?_;(refine AN (Aq rfl (A7 rfl (AV rfl (AQ rfl (Blk.cell rG rF) ?_))))<;>refine Cj rfl ?_<;>(refine Cb rfl rfl (fun hc=>?_) (fun hc=>?_)<;>try omega))
 ·refine nX ?_;(refine AN (Aq rfl (A7 rfl (AV rfl (AQ rfl (Blk.cell rG rF) ?_))))<;>refine DB rF rF ?_<;>refine GN (Gj rfl ?_))
  refine nX ?_;exact Ap ⟨by omega,rfl,D⟩
 ·refine nY ?_;refine Ab (rd 0 4 (rd 5 16 (.alt 4 (.alt 21 (.alt 22 (.read 23 (.read 24 (.alt 25 .done .stop))) .stop) .stop) (.alt 21 (.alt 4 (.alt 22 (.read 23 (.read 24 (.alt 25 .done .stop))) .stop) .stop) .stop)))) AX rD (fun wd l ed=>⟨fun W=>W.cell? ⟨s,0,none⟩=some (AA t)/\W.cell? ⟨s,1,none⟩=some (iV (a:Int)),?_,?_⟩)
  ·exact⟨(S.E l O).cell rfl,(S.E l O).cell rfl⟩
  have P:=S.E l O;have a2:=CD F l;have a4:∀W:World,(W.cell? ⟨s,0,none⟩=some (AA t)/\W.cell? ⟨s,1,none⟩=some (iV (a:Int)))->W.cell? ⟨s,0,none⟩=some (AA t):=fun W h=>h.1;have a5:∀W:World,(W.cell? ⟨s,0,none⟩=some (AA t)/\W.cell? ⟨s,1,none⟩=some (iV (a:Int)))->W.cell? ⟨s,1,none⟩=some (iV (a:Int)):=fun W h=>h.2;refine go ?_;have a6:G9 ⟨k,(t.take n).drop a,a⟩=[iV k,AA ((t.take n).drop a),iV (a:Int)]:=rfl;refine D_A rfl ?_ (D_E rfl ?_)
  ·refine AQ rfl (P.cell rfl) ?_;refine wNl (⟨P.cell rfl,P.cell rfl⟩) ?_;refine D_E rfl ?_;refine Ay (out:=G9 ⟨k,(t.take n).drop a,a⟩) rfl U (by rw[V0];rfl) (fun w2 R=>?_);have q:=R.own (n:=1) (size:=3) rfl rL (AO _);have s2:=R.size;have i:=P.E R.E O;refine wNl (⟨i.cell rfl,i.cell rfl⟩) ?_;refine D_E rfl ?_;refine Bk (ok:=AL) rfl rfl (CD a2 R.E) (BG q fun _ _=>trivial) U rfl rfl (by intro y I;simp[G9]at I;rcases I with rfl|rfl|rfl<;>rfl) U U (by have:=D.size;have:=l.size;omega) (fun N w3 m=>?_);have E:∀x∈(Value.slice z ts.length A).ownBlock.toList,o.heap.size<=x:=fun x V=>(Ao F rl).1;have H:s∉(Value.slice z ts.length A).ownBlock.toList:=fun V=>by have:=E s V;omega
   have p:=(P.E R.E O).E m.E H;have K:Keep [s] o w3:=((D.ext l).ext R.E).Q m.E fun x V a3=>absurd (E x V) U;refine wNl (⟨p.cell rfl,p.cell rfl⟩) ?_;refine gE ?_;have L:=m.own
   obtain⟨f,M,rfl⟩:∃f M,N=.slice f (ts.length+1) M:=by
    rcases L.2 with⟨rfl,B⟩|⟨g,a0,a1,rfl,_⟩
    ·exact absurd B U
    ·exact ud
   exact sS
  ·refine Ay (out:=G9 ⟨k,(t.take n).drop a,a⟩) rfl U (by rw[V0];rfl) (fun w2 R=>?_);have q:=R.own (n:=1) (size:=3) rfl rL (AO _);have s2:=R.size;have i:=P.E R.E O;refine wNl (⟨i.cell rfl,i.cell rfl⟩) ?_;refine D_E rfl ?_;refine AQ rfl (i.cell rfl) ?_;refine wNl (⟨i.cell rfl,i.cell rfl⟩) ?_;refine D_E rfl ?_;refine Bk (ok:=AL) rfl rfl (CD a2 R.E) (BG q fun _ _=>trivial) U rfl rfl (by intro y I;simp[G9]at I;rcases I with rfl|rfl|rfl<;>rfl) U U (by have:=D.size;have:=l.size;omega) (fun N w3 m=>?_);have E:∀x∈(Value.slice z ts.length A).ownBlock.toList,o.heap.size<=x:=fun x V=>(Ao F rl).1;have H:s∉(Value.slice z ts.length A).ownBlock.toList:=fun V=>by have:=E s V;omega
   have p:=(P.E R.E O).E m.E H;have K:Keep [s] o w3:=((D.ext l).ext R.E).Q m.E fun x V a3=>absurd (E x V) U;refine wNl (⟨p.cell rfl,p.cell rfl⟩) ?_;refine gE ?_;have L:=m.own
   obtain⟨f,M,rfl⟩:∃f M,N=.slice f (ts.length+1) M:=by
    rcases L.2 with⟨rfl,B⟩|⟨g,a0,a1,rfl,_⟩
    ·exact absurd B U
    ·exact ud
   exact sS
abbrev Res:=Except (Int×Nat) (Nat×List Tok)
def FnS(g:FuncId)(args:LV)(w o:World)(s:Nat)(t:LU)(r:Res):Prop:=
 FnP Zp g args w (fun v X=>v=.tuple #[]/\∃a n,r=.ok (a,n)/\St o X s t a n) (fun y X=>∃e p,r=.error (e,p)/\y=fail e p/\Keep [s] o X)
def CH(t:LU)(a:Nat)(ts:List Tok)(k:Int)(n:Nat):Res:=if ts.length=2000 then .error (2,a)else .ok (n,ts++[⟨k,(t.take n).drop a,a⟩])
def LT(o w:World)(s a n:Nat)(t:LU)(ts:List Tok)(k:Int)(h:St o w s t a ts)(Z:a<=n)(W:n<=t.length):FnS 280 [pt s,iV k,iV (n:Int)] w o s t (CH t a ts k n):=by
 refine FnP.mono (pD o w s a n t ts k h Z W) ?_ ?_
 ·rintro v X⟨rfl,N,Q⟩;exact⟨rfl,_,_,by unfold CH;rw[AG U],Q⟩
 ·rintro y X⟨N,rfl,Q⟩;exact⟨_,_,by unfold CH;rw[AJ N],rfl,Q⟩
def It(a:Nat)(ts:List Tok):Res:=.ok (a+1,ts)
def ib(o w:World)(s a:Nat)(t:LU)(ts:List Tok)(h:St o w s t a ts)(Z:a<t.length):FnS 191 [pt s] w o s t (It a ts):=by
 obtain⟨P,E,N,G,H,tv,S,d⟩:=h;refine CK func191 rfl ntmps191 nlr rD (go ?_);refine AW rfl rfl rfl S O (fun c b=>?_);have T:=b.D;have i:=Bf d b.E fun g y=>by have:=(Ao d y).1;simp;omega
 have f:Keep [s] o c:=P.Q b.E fun x V _=>V;refine go ?_;refine Bt rfl ⟨rfl,_,_,rfl,⟨f,E,N,by omega,H,tv,?_,i⟩⟩;have e:((a:Int)+1)=((a+1:Nat):Int):=by omega
 exact e▸T
def IN(t:LU)(a:Nat)(ts:List Tok):Res:=.ok (As CA t a,ts)
def cS(o w:World)(s a:Nat)(t:LU)(ts:List Tok)(h:St o w s t a ts):FnS 192 [pt s] w o s t (IN t a ts):=by
 obtain⟨P,E,N,G,H,tv,S,d⟩:=h;refine CK func192 rfl ntmps192 nlr rD ?_;refine gC (Ro ly w s a t _ _ S G N) ?_;rintro v X⟨rfl,rfl⟩;refine go ?_;refine AW rfl rfl rfl S O (fun c b=>?_);have T:=b.D;have e:=Bf d b.E fun g y=>by have:=(Ao d y).1;simp;omega
 have f:Keep [s] o c:=P.Q b.E fun x V _=>V;refine go ?_;exact Bt rfl ⟨rfl,_,_,rfl,⟨f,E,N,Eu G,H,tv,T,e⟩⟩
def EX(t:LU)(a:Nat)(ts:List Tok):Res:=if 20<As Bl t (a+1)-a then .error (40,a)else CH t a ts 1 (As Bl t (a+1))
def bP(o w:World)(s a:Nat)(t:LU)(ts:List Tok)(h:St o w s t a ts)(Z:a<t.length):FnS 193 [pt s] w o s t (EX t a ts):=by
 obtain⟨P,E,N,b,c,tv,S,d⟩:=id h;have u:=Fs Bl t (a+1);have G:=Eu (p:=Bl) (t:=t) (a:=a+1) U;refine CK func193 rfl ntmps193 nlr rD (go ?_);refine AD (Ro nI w s (a+1) t _ _ S U N) (by rw[BB];rfl) ?_;rintro v X⟨rfl,rfl⟩;refine AT (AS rfl ?_);refine nX ?_;(refine AN (AS rfl (Aq rfl (A7 rfl (AV rfl (AQ rfl (Blk.cell rG rF) ?_)))))<;>refine Iw rfl rfl rQ ?_<;>(refine JU rfl rfl (fun T=>?_) (fun T=>?_)<;>try omega))
 ·refine nX ?_;(refine AN (Aq rfl (A7 rfl (AV rfl (AQ rfl (Blk.cell rG rF) ?_))))<;>refine DB rF rF ?_<;>refine GN (Gj rfl ?_))
  refine nX ?_;exact Ap ⟨_,_,by unfold EX;rw[AJ U],rfl,P⟩
 ·refine nY ?_;refine AN (Aq rfl (AS rfl ?_));have e:EX t a ts=CH t a ts 1 (As Bl t (a+1)):=by unfold EX;rw[AG U]
  rw[e];refine Av (LT o X s a _ t ts 1 h U G) rfl ?_ ?_
  ·exact tU
  ·intro y L H;refine go ?_;exact Ap H
end
def BC:=@decide_eq_false
section
variable {mk:Prop}[MK mk]
def B6(t:LU)(a:Nat):Bool:=
 decide (4<As Ag t a-a)||(decide (1<As Ag t a-a)&&decide ((t.getD a 0).toNat=48))||
  decide (As Ag t a<t.length)&&(Ct (t.getD (As Ag t a) 0)||decide ((t.getD (As Ag t a) 0).toNat=95))
def C8(t:LU)(a:Nat)(ts:List Tok):Res:=if B6 t a=true then .error (40,a)else CH t a ts 2 (As Ag t a)
def HR{t:LU}{a:Nat}{c:UInt8}(h:t[a]?=some c):t.getD a 0=c:=by simp[h]
def St.ext{o w w':World}{s a:Nat}{t:LU}{ts:List Tok}(h:St o w s t a ts)(k:Ext w w'):St o w' s t a ts:=by
 obtain⟨P,E,N,G,H,tv,S,b⟩:=h;exact⟨P.ext k,E,N,G,H,tv,S.E k O,CD b k⟩
def Z8(o w:World)(s a:Nat)(t:LU)(ts:List Tok)(h:St o w s t a ts)(Z:a<t.length):FnS 194 [pt s] w o s t (C8 t a ts):=by
 obtain⟨x,E,N,n,z,tv,S,A⟩:=id h;have u:=Fs Ag t a;have G:=Eu (p:=Ag) (t:=t) (a:=a) U;have j:t[a]?=some t[a]:=AU Z;generalize t[a]=c0 at j;refine CK func194 rfl ntmps194 nlr rD ?_;refine gC (Ro YL w s a t _ _ S U N) ?_;rintro v B⟨rfl,rfl⟩;refine go ?_;refine Ab (rd 0 18 .done) AX rD (fun X m T=>⟨fun W=>W=X,?_,?_⟩)
 ·rfl
 have P:=S.E m O;have c:=h.ext m;by_cases f:4<As Ag t a-a
 ·((apply D_R rfl rfl;(intro W I;subst I;refine AS rfl ?_;exact Z3))<;>refine PG rfl rfl rfl rfl U ?_<;>(apply D_R rfl rfl;(intro W I;subst I;refine AH rfl ?_;exact Z3))<;>refine Bq rfl rfl rfl rfl (Bq rfl rfl rfl rfl (Bq rfl rfl rfl rfl (D_R rfl rfl (fun W I=>AP rfl Z3) (D_R rfl rfl (fun W I=>AP rfl Z3) (D_R rfl rfl (fun W I=>AP rfl Z3) (D_R rfl rfl (fun W I=>AP rfl Z3) (D_R rfl rfl (fun W I=>AP rfl Z3) (D_R rfl rfl (fun W I=>AP rfl Z3) (D_R rfl rfl (fun W I=>AP rfl Z3) (D_R rfl rfl (fun W I=>AP rfl Z3) (D_R rfl rfl (fun W I=>AP rfl Z3) (D_R rfl rfl (fun W I=>AP rfl Z3) (Bq rfl rfl rfl rfl ?_)))))))))))))<;>(apply D_R rfl rfl;(intro W I;subst I;(refine BF rfl ?_;refine AH rfl ?_);exact Z3))<;>refine Cy ?_)
  have y:B6 t a=true:=by unfold B6;simp[f]
  exact sO
 ·by_cases k:1<As Ag t a-a
  ·by_cases l:c0.toNat=48
   ·((apply D_R rfl rfl;(intro W I;subst I;refine AS rfl ?_;exact Z3))<;>refine SP rfl rfl rfl rfl U ?_<;>(apply D_R rfl rfl;(intro W I;subst I;refine AH rfl ?_;exact Z3))<;>(apply D_R rfl rfl;(intro W I;subst I;(refine AE rfl ?_;refine AS rfl ?_);exact Z3))<;>refine PG rfl rfl rfl rfl U ?_<;>(apply D_R rfl rfl;(intro W I;subst I;(refine AE rfl ?_;refine AH rfl ?_);exact Z3))<;>(apply D_R rfl rfl;(intro W I;subst I;(refine AE rfl ?_;refine Aq rfl ?_);exact Z3))<;>(apply D_R rfl rfl;(intro W I;subst I;(refine AE rfl ?_;refine A7 rfl ?_);exact Z3))<;>(apply D_R rfl rfl;(intro W I;subst I;(refine AE rfl ?_;refine AV rfl ?_);exact Z3))<;>(apply D_R rfl rfl;(intro W I;subst I;(refine AE rfl ?_;refine AQ rfl (Blk.cell rG rF) ?_);exact Z3))<;>(apply D_R rfl rfl;(intro W I;subst I;(refine AE rfl ?_;refine Aq rfl ?_);exact Z3))<;>(apply D_R rfl rfl;(intro W I;subst I;(refine AE rfl ?_;refine A7 rfl ?_);exact Z3))<;>(apply D_R rfl rfl;(intro W I;subst I;(refine AE rfl ?_;refine AV rfl ?_);exact Z3))<;>(apply D_R rfl rfl;(intro W I;subst I;(refine AE rfl ?_;refine AQ rfl (Blk.cell rG rF) ?_);exact Z3))<;>(apply D_R rfl rfl;(intro W I;subst I;(refine AE rfl ?_;refine FF rfl rfl rG ?_);exact Z3))<;>refine SO rfl rfl rfl rfl U ?_<;>(apply D_R rfl rfl;(intro W I;subst I;(refine AE rfl ?_;(refine BF rfl ?_;refine AH rfl ?_));exact Z3))<;>(apply D_R rfl rfl;(intro W I;subst I;(refine BJ rfl ?_;refine AH rfl ?_);exact Z3))<;>refine Cy ?_)
    have y:B6 t a=true:=by unfold B6;rw[HR j];simp[k,l]
    exact sO
   ·have g:(decide (1<As Ag t a-a)&&decide ((t.getD a 0).toNat=48))=false:=by rw[HR j];simp[l]
    refine go ?_;by_cases b:As Ag t a<t.length
    ·have d:t[As Ag t a]?=some t[As Ag t a]:=AU b;generalize t[As Ag t a]=c1 at d;have q:=HR d;refine gC (YT c1 _) ?_;rintro v L⟨rfl,rfl⟩;cases hlet:Ct c1 with
     |true=>
      have y:B6 t a=true:=by unfold B6;rw[q];simp[b,hlet]
      refine AE rfl (AH rfl (AP rfl (AP rfl (AP rfl (AP rfl (AP rfl (AP rfl (AP rfl (AE rfl (BF rfl (AH rfl (BF rfl (AH rfl ?_)))))))))))));exact sO
     |false=>
      by_cases r:c1.toNat=95
      ·have y:B6 t a=true:=by unfold B6;rw[q];simp[b,r]
       (refine AE rfl (AH rfl (AE rfl (Aq rfl (AE rfl (A7 rfl (AE rfl (AV rfl (AE rfl (AQ rfl (Blk.cell rG rF) ?_)))))))))<;>refine AE rfl (AS rfl (AE rfl (FF rfl rfl rG ?_)))<;>refine AE rfl (IH rfl rfl U (AE rfl (BJ rfl (AH rfl (BF rfl (AH rfl ?_)))))))
       exact sO
      ·have y:B6 t a=false:=by
        unfold B6;rw[q,g,hlet,BC f,BC r];simp
       refine go ?_;have e:C8 t a ts=CH t a ts 2 (As Ag t a):=by unfold C8;rw[AG];simp only[y];simp
       rw[e];refine Av (LT o _ s a _ t ts 2 c U G) rfl ?_ ?_
       ·exact tU
       ·intro i L H;refine go ?_;exact Ap H
    ·have y:B6 t a=false:=by
      unfold B6;rw[g,BC f,BC b];simp
     refine go ?_;have e:C8 t a ts=CH t a ts 2 (As Ag t a):=by unfold C8;rw[AG];simp only[y];simp
     rw[e];refine Av (LT o _ s a _ t ts 2 c U G) rfl ?_ ?_
     ·exact tU
     ·intro i L H;refine go ?_;exact Ap H
  ·have g:(decide (1<As Ag t a-a)&&decide ((t.getD a 0).toNat=48))=false:=by simp[k]
   refine go ?_;by_cases b:As Ag t a<t.length
   ·have d:t[As Ag t a]?=some t[As Ag t a]:=AU b;generalize t[As Ag t a]=c1 at d;have q:=HR d;refine gC (YT c1 _) ?_;rintro v L⟨rfl,rfl⟩;cases hlet:Ct c1 with
    |true=>
     have y:B6 t a=true:=by unfold B6;rw[q];simp[b,hlet]
     refine AE rfl (AH rfl (AP rfl (AP rfl (AP rfl (AP rfl (AP rfl (AP rfl (AP rfl (AE rfl (BF rfl (AH rfl (BF rfl (AH rfl ?_)))))))))))));exact sO
    |false=>
     by_cases r:c1.toNat=95
     ·have y:B6 t a=true:=by unfold B6;rw[q];simp[b,r]
      (refine AE rfl (AH rfl (AE rfl (Aq rfl (AE rfl (A7 rfl (AE rfl (AV rfl (AE rfl (AQ rfl (Blk.cell rG rF) ?_)))))))))<;>refine AE rfl (AS rfl (AE rfl (FF rfl rfl rG ?_)))<;>refine AE rfl (IH rfl rfl U (AE rfl (BJ rfl (AH rfl (BF rfl (AH rfl ?_)))))))
      exact sO
     ·have y:B6 t a=false:=by
       unfold B6;rw[q,g,hlet,BC f,BC r];simp
      refine go ?_;have e:C8 t a ts=CH t a ts 2 (As Ag t a):=by unfold C8;rw[AG];simp only[y];simp
      rw[e];refine Av (LT o _ s a _ t ts 2 c U G) rfl ?_ ?_
      ·exact tU
      ·intro i L H;refine go ?_;exact Ap H
   ·have y:B6 t a=false:=by
     unfold B6;rw[g,BC f,BC b];simp
    refine go ?_;have e:C8 t a ts=CH t a ts 2 (As Ag t a):=by unfold C8;rw[AG];simp only[y];simp
    rw[e];refine Av (LT o _ s a _ t ts 2 c U G) rfl ?_ ?_
    ·exact tU
    ·intro i L H;refine go ?_;exact Ap H
end
end Go.Proofs.YtjbocjodncbogaaGreatDoor
