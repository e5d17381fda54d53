/- TopTextGoals, part 2 of 16: rules, lemmas, walks. Conditions: none. -/
import Derived.Test.YtjbocjodncbogaaGreatDoorTX1
import Derived.RangeFuncIn
import Derived.Laws.IdiomStrings
import Derived.ChangeKeysEq
import Derived.Maps.RangeRun
import Derived.KernelRfl
import Derived.Test.YtjbocjodncbogaaGreatDoorRows
import Derived.RecoverIn
namespace Go.Proofs.YtjbocjodncbogaaGreatDoor
open Go.RowKit
set_option linter.unusedVariables false
noncomputable abbrev Zp:=Tryz.prog
section
variable {mk:Prop}[MK mk]
attribute [local semireducible] WC AT B6 BK Bz Cx DZ By
variable {P:Program}{all:Array Oper}{Z:Fr->DS->List PanicEntry->World->Prop}{K:Fr->DS->World->Prop}{rest:List Oper}{f:Fr}{ds:DS}{w:World}
 {d:Nat}{ty:TypeId}{pos:String}{af:Array Edge}
def Lp(w:World)(l n:Nat)(c:List Nat)(j body:Code)(f:Fr)(L:LoopState)(a:Option Code):Prop:=
 ∃fn C A,w.heap[l]?=some (.loop ⟨L,a,fn,C,c.toArray,j,body,A⟩)/\C.size=n/\Ca {tmps:=C,defers:=[]}=f
theorem Lp.lt{l n:Nat}{c:List Nat}{j body:Code}{L:LoopState}{a:Option Code}(h:Lp w l n c j body f L a):l<w.heap.size:=by
 obtain⟨_,_,_,h,_⟩:=h;exact(Array.getElem?_eq_some_iff.1 h).1
theorem Lp.E{X:List Nat}{w':World}{l n:Nat}{c:List Nat}{j body:Code}{L:LoopState}{a:Option Code}(h:Lp w l n c j body f L a)(k:Keep X w w')(g:l∉X):Lp w' l n c j body f L a:=by
 have x:=h.lt;obtain⟨fn,C,A,e,W⟩:=h;exact⟨fn,C,A,(k.block l x g).trans e,W⟩
theorem run_getLoop{l:Nat}{r:Loop}(h:w.heap[l]?=some (.loop r)):(Instr.getLoop l).run P w=.ok r w:=by
 simp[Instr.getLoop,getObj,Sem.run,h]
def setO(w:World)(l:Nat)(o:Obj):World:={w with heap:=w.heap.setIfInBounds l o}
theorem run_setLoop{l:Nat}{r:Loop}(o:Obj)(h:w.heap[l]?=some (.loop r)):(setObj l o).run P w=.ok () (setO w l o):=by
 simp[setObj,Sem.run,h,setO]
theorem setO_other(l:Nat)(o:Obj)(k:Nat)(L:k≠l):(setO w l o).heap[k]?=w.heap[k]?:=by
 simp only[setO];rw[Array.getElem?_setIfInBounds_ne (by simpa[eq_comm]using L)]
theorem setO_keep(l:Nat)(o:Obj)(a:∀c t D,o≠ .cells c t D):Keep [l] w (setO w l o):=by
 refine⟨rfl,rfl,rfl,by simp[setO],fun k _ L=>setO_other l o k (by simpa using L),fun _=>mark_put (g:=l) (by simp[setO]) (setO_other l o) fun c t D e=>?_,Nat.le_refl _⟩;by_cases h:l<w.heap.size
 ·have:(setO w l o).heap[l]?=some o:=by simp[setO,h]
  rw[this]at e;cases e;exact absurd rfl (a c t D)
 ·rw[Array.getElem?_eq_none (by simp[setO];omega)]at e;cases e
theorem setO_size(l:Nat)(o:Obj):(setO w l o).heap.size=w.heap.size:=by simp[setO]
theorem setO_get{l:Nat}(o:Obj)(h:l<w.heap.size):(setO w l o).heap[l]?=some o:=by simp[setO,h]
def YldP(P:Program)(a:Value)(args:LV)(w:World)(R:Value->World->Prop)(Z:List PanicEntry->World->Prop):Prop:=
 ∃y g C j body Q,a=.func (.yield y) #[] #[]/\(Instr.yield y args.toArray).run P w=.ok (.round y g C j body) Q/\
  RoundIn Fence.wide 0 P y g C j body Q fun e L=>match e with| .returned v=>R v L| .panicked ch=>Z ch L| .outgrown=>False
theorem YldP.mono{c:Value}{args:LV}{R F:Value->World->Prop}{Y D:List PanicEntry->World->Prop}(h:YldP P c args w R Y)(G:∀v w',R v w'->F v w')(o:∀V w',Y V w'->D V w'):YldP P c args w F D:=by
 obtain⟨y,g,C,j,body,Q,i,W,k⟩:=h;refine⟨y,g,C,j,body,Q,i,W,RoundIn.mono k fun e w' a=>?_⟩;cases e with
 |returned v=>exact G v w' a
 |panicked V=>exact o V w' a
 |outgrown=>exact a
theorem W_yieldP{t:Nat}{c:Value}{xs:List Operand}{k:Array TypeId}{vs:LV}{R:Value->World->Prop}{Y:List PanicEntry->World->Prop}
  (l:f t=c)(D:evL f xs=vs)(T:YldP P c vs w R Y)(h:∀v w',R v w'->AT P all Z K rest (upd f d v) ds w')(o:∀V w',Y V w'->Z f ds V w'):
  AT P all Z K (⟨some d,.call ⟨.value (.tmp t),xs.toArray,k⟩,ty,pos,af,none⟩::rest) f ds w:=by
 obtain⟨y,g,C,j,body,Q,rfl,W,i⟩:=T
 have G:(execOp (ev f) ⟨some d,.call ⟨.value (.tmp t),xs.toArray,k⟩,ty,pos,af,none⟩).run P w=.ok (.round y g C j body) Q:=by
  rw[evL_map]at D;simp only[execOp,resolve,ev,l,Deferred.ofValue,Sem.run_bind,Sem.run_pure,Result.andThen_ok,invoke];simp[D,W]
 unfold AT;simp only[Bh,if_true,By,G];refine RoundIn.mono i fun e w' a=>?_;cases e with
 |returned v=>exact h v w' a
 |panicked V=>exact o V w' a
 |outgrown=>exact a
theorem W_yield{t:Nat}{a:Value}{xs:List Operand}{k:Array TypeId}{vs:LV}{R:Value->World->Prop}
  (c:f t=a)(D:evL f xs=vs)(T:YldP P a vs w R fun _ _=>False)(h:∀v w',R v w'->AT P all Z K rest (upd f d v) ds w'):
  AT P all Z K (⟨some d,.call ⟨.value (.tmp t),xs.toArray,k⟩,ty,pos,af,none⟩::rest) f ds w:=W_yieldP c D T h fun _ _ h=>h.elim
def ovz:List (Nat×Value)->Fr->Fr
 | [],f=>f
 |(t,v)::l,f=>ovz l (upd f t v)
theorem size_sets:∀(l:List (Nat×Value))(tmps:Array Value),(l.foldl (fun tmps(p:Nat×Value)=>tmps.setIfInBounds p.1 p.2) tmps).size=tmps.size
 | [],_=>rfl
 |_::l,tmps=>by rw[List.foldl_cons,size_sets l];simp
theorem toFr_sets:∀(l:List (Nat×Value))(tmps:Array Value),(∀p∈l,p.1<tmps.size)->
  Ca {tmps:=l.foldl (fun tmps(p:Nat×Value)=>tmps.setIfInBounds p.1 p.2) tmps,defers:=[]}=ovz l (Ca {tmps:=tmps,defers:=[]})
 | [],_,_=>rfl
 |(t,v)::l,tmps,h=>by
  rw[List.foldl_cons,toFr_sets l _ (by intro p y;rw[Array.size_setIfInBounds];exact h p (by simp[y]))];simp only[ovz]
  congr 1
  exact toFr_put (a:={tmps:=tmps,defers:=[]}) (d:=t) v (h (t,v) O)
def rndQ(l n:Nat)(a:List Nat)(j body:Code)(y:Fr)(R:Value->World->Prop):DD
 | .normal=>fun _ _ w=>(∃L s,Lp w l n a j body y L s)/\∀X,Keep [l] w X->X.heap.size=w.heap.size->Lp X l n a j body y .ready none->R (.bool true) X
 | .ret=>fun _ _ w=>(∃L s,Lp w l n a j body y L s)/\∀X,Keep [l] w X->X.heap.size=w.heap.size->Lp X l n a j body y .done (some .ret)->R (.bool false) X
 | .exit i=>fun _ _ w=>(∃L s,Lp w l n a j body y L s)/\∀X,Keep [l] w X->X.heap.size=w.heap.size->Lp X l n a j body y .done (some (.exit i))->R (.bool false) X
 |_=>fun _ _ _=>False
def asnQ(k:Fr->DS->World->Prop):DD
 | .normal=>k
 |_=>fun _ _ _=>False
theorem run_endRound{l n:Nat}{c:List Nat}{j body:Code}{y:Fr}{L:LoopState}{s:Option Code}(C:Option Code)(h:Lp w l n c j body y L s):
  ∃w',(Instr.endRound l C).run P w=.ok (.bool C.isNone) w'/\Keep [l] w w'/\w'.heap.size=w.heap.size/\Lp w' l n c j body y (if C.isNone then .ready else .done) C:=by
 have x:=h.lt;obtain⟨fn,g,A,a,W,e⟩:=h;refine⟨setO w l _,?_,setO_keep l _ (fun _ _ _ h=>by cases h),setO_size l _,fn,g,A,setO_get _ x,W,e⟩;simp only[Instr.endRound,Sem.run_bind,run_getLoop a,Result.andThen_ok,run_setLoop _ a,Sem.run_pure]
theorem run_beginRound{l n:Nat}{c:List Nat}{j body:Code}{y:Fr}{s:Option Code}(h:Lp w l n c j body y .ready s):
  ∃w',(Instr.beginRound l).run P w=.ok () w'/\Keep [l] w w'/\w'.heap.size=w.heap.size/\Lp w' l n c j body y .busy s:=by
 have x:=h.lt;obtain⟨fn,C,A,a,W,e⟩:=h;refine⟨setO w l _,?_,setO_keep l _ (fun _ _ _ h=>by cases h),setO_size l _,fn,C,A,setO_get _ x,W,e⟩;simp only[Instr.beginRound,Sem.run_bind,run_getLoop a,Result.andThen_ok,run_setLoop _ a,Sem.run_pure]
theorem yld_of_wc{l n:Nat}{k:List Nat}{j body:Code}{y:Fr}{pd:Option Code}{args:LV}{R:Value->World->Prop}{Y:List PanicEntry->World->Prop}(X:Lp w l n k j body y .ready pd)
  (hp:args.length=k.length)(a1:k.all (fun t=>Nat.blt t n)=true)(B:(Co n true j&&Co n true body)=true)
  (h:WC P ⟨n,some l⟩ j (asnQ fun E D w'=>Lp w' l n k j body y .ready none/\∀N,Keep [l] w' N->N.heap.size=w'.heap.size->(∃z a3,Lp N l n k j body y z a3)->WC P ⟨n,some l⟩ body (rndQ l n k j body y R) E D N) (ovz (k.zip args) y) [] w):
  YldP P (.func (.yield l) #[] #[]) args w R Y:=by
 obtain⟨fn,C,a4,G,W,H⟩:=X;have a2:¬args.toArray.size≠k.toArray.size:=by simp[hp]
 refine⟨l,fn,((k.zip args).foldl (fun C(p:Nat×Value)=>C.setIfInBounds p.1 p.2) C),j,body,w,rfl,?_,?_⟩
 ·simp only[Instr.yield,Sem.run_bind,run_getLoop G,Result.andThen_ok,if_neg a2,Sem.run_pure]
  congr 2
  rw[<-Array.foldl_toList];simp
 ·simp only[Bool.and_eq_true]at B;refine RoundIn.mono (R:=endR R Y) (roundIn_of_wpIn (F:=Fence.wide) trivial ?_) (fun e a5 V=>by cases e<;>exact V);have c:(k.zip args).foldl (fun C(p:Nat×Value)=>C.setIfInBounds p.1 p.2) C=(k.zip args).foldl (fun C(p:Nat×Value)=>C.setIfInBounds p.1 p.2) C:=rfl;have s:Fence.wide.inRound l=rnd (some l):=rfl;rw[s]
  refine wpIn_mono (CW (P:=P) (n:=⟨n,some l⟩) j _ _ w ?_ B.1 (by
   rw[toFr_sets,H]
   ·exact h
   ·intro p a0;have:=List.all_eq_true.1 a1 p.1 (List.of_mem_zip a0).1;rw[W];simpa[Nat.blt_eq]using this)) ?_
  ·simp only[size_sets];exact W
  ·intro e a w' c;obtain⟨hn,c⟩:=c;cases e with
   |normal=>
    obtain⟨hr,S⟩:=c;obtain⟨N,x,M,Q,T⟩:=run_beginRound (P:=P) hr;refine⟨N,x,?_⟩;refine wpIn_mono (CW (P:=P) (n:=⟨n,some l⟩) body _ a N hn B.2 (S N M Q ⟨_,_,T⟩)) ?_;intro e a' w3 c;obtain⟨_,c⟩:=c;cases e with
    |normal=>
     obtain⟨⟨z,A,q⟩,L⟩:=c;obtain⟨m,o,r,I,g⟩:=run_endRound (P:=P) none q;exact⟨_,m,o,L m r I g⟩
    |ret=>
     obtain⟨⟨z,A,q⟩,L⟩:=c;obtain⟨m,o,r,I,g⟩:=run_endRound (P:=P) (some .ret) q;exact⟨_,m,o,L m r I g⟩
    |exit i=>
     obtain⟨⟨z,A,q⟩,L⟩:=c;obtain⟨m,o,r,I,g⟩:=run_endRound (P:=P) (some (.exit i)) q;exact⟨_,m,o,L m r I g⟩
    |goto _=>exact c.elim
    |panic _=>exact c.elim
    |outgrown=>exact c.elim
   |_=>exact c.elim
def behind(Q:DD)(f:Fr)(ds:DS)(w:World):Option Code->Prop
 |none=>Q .normal f ds w
 |some .ret=>Q .ret f ds w
 |some (.exit i)=>Q (.exit i) f ds w
 |_=>False
theorem run_endLoop{l n:Nat}{c:List Nat}{j body:Code}{y:Fr}{L:LoopState}{s:Option Code}(X:(L== .busy)=false)(h:Lp w l n c j body y L s):
  ∃w',(Instr.endLoop l).run P w=.ok s w'/\Keep [l] w w'/\w'.heap.size=w.heap.size:=by
 obtain⟨fn,C,A,a,W,e⟩:=h;refine⟨setO w l (.loop ⟨.exhausted,s,fn,C,c.toArray,j,body,A⟩),?_,setO_keep l _ (fun _ _ _ h=>by cases h),setO_size l _⟩;simp only[Instr.endLoop,Sem.run_bind,run_getLoop a,Result.andThen_ok,X,Bool.false_eq_true,if_false,run_setLoop _ a,Sem.run_pure]
theorem C_rangeFunc{n:Nat}{Q:DD}{g:Operand}{l:List Nat}{j body:Code}{p:FuncId}{v1 v2:LV}[hg:AM P p](hv:ev f g=.func (.func p) v1.toArray v2.toArray)
  (h:∀m,Ext w m->m.heap.size=w.heap.size+2->m.heap[w.heap.size]?=some (.deferred (some []))->Lp m (w.heap.size+1) n l j body f .ready none->
   FnP P p (v1++[.func (.yield (w.heap.size+1)) #[] #[]]++v2) m
    (fun _ z=>∃E s,Lp z (w.heap.size+1) n l j body f E s/\(E== .busy)=false/\
     ∀q,Keep [w.heap.size+1] z q->q.heap.size=z.heap.size->behind Q f ({target:=.collected w.heap.size,args:=#[]}::ds) q s)
    (fun V z=>Q (.panic V) f ({target:=.collected w.heap.size,args:=#[]}::ds) z)):
  WC P ⟨n,none⟩ (.rangeFunc g l.toArray j body) Q f ds w:=by
 rintro a I rfl rfl;obtain⟨fn,M,N,A⟩:=hg.out;refine wpIn_rangeFunc fun B _=>?_;have x:=ev_toFr a
 let m:World:=(w.alloc (.deferred (some []))).alloc (.loop ⟨.ready,none,B,a.tmps,l.toArray,j,body,w.heap.size⟩)
 have k1:Ext w m:=⟨rfl,rfl,rfl,by simp[m];omega,fun k L _=>by
  have:=heap_alloc_old w (.deferred (some [])) L;rw[<-this]
  exact heap_alloc_old _ _ EP,fun _ b S=>mark_new (w:=w.alloc (.deferred (some []))) (by simp[m]) (fun k L=>heap_alloc_old _ _ L) (fun c t D e=>by rw[heap_alloc_new]at e;cases e) b fun _=>
   mark_new (w:=w) O (fun k L=>heap_alloc_old _ _ L) (fun c t D e=>by rw[heap_alloc_new]at e;cases e) b S,Nat.le_refl _⟩
 have s1:m.heap.size=w.heap.size+2:=by simp[m]
 have y:m.heap[w.heap.size]?=some (.deferred (some [])):=by
  have:=heap_alloc_new w (.deferred (some []));rw[<-this];exact heap_alloc_old _ _ O
 have l1:m.heap[w.heap.size+1]?=some (.loop ⟨.ready,none,B,a.tmps,l.toArray,j,body,w.heap.size⟩):=by
  have:=heap_alloc_new (w.alloc (.deferred (some []))) (.loop ⟨.ready,none,B,a.tmps,l.toArray,j,body,w.heap.size⟩);simpa[m]using this
 refine⟨w.heap.size+1,[{target:=.collected w.heap.size,args:=#[]}],m,{target:=.fn (.func p) v2.toArray,args:=v1.toArray++ #[Value.func (.yield (w.heap.size+1)) #[] #[]]},m,p,(v1++[Value.func (.yield (w.heap.size+1)) #[] #[]]++v2).toArray,m,?_,?_,fun _ _=>trivial,?_,rnd_depth,?_⟩
 ·have C:∀o(w:World),(newObj o).run P w=.ok w.heap.size (w.alloc o):=fun _ _=>rfl;simp only[Instr.enterLoop,rnd,Sem.run_bind,C,Sem.run_pure,Result.andThen_ok,m];simp
 ·rw[x];have H:∀v,ev (Ca a) (.const v)=v:=fun _=>rfl;simp[resolve,hv,H,Deferred.ofValue]
 ·simp only[invoke,callFunc,program];simp[Sem.run,M,N,A]
 ·have hf:=h m k1 s1 y ⟨B,a.tmps,_,l1,I,rfl⟩;have hc:CallsIn Fence.wide (0-1) P p _ m _:=callsIn_wide.2 hf;refine CallsIn.mono (F:=rnd none) hc fun e z x=>?_;cases e with
  |returned v=>
   obtain⟨E,s,T,W,X⟩:=x;obtain⟨q,C,r,G⟩:=run_endLoop (P:=P) W T;refine⟨s,q,C,?_⟩;have S:=X q r G;cases s with
   |none=>exact⟨I,S⟩
   |some c=>
    cases c with
    |ret=>exact wpIn_ret ⟨I,S⟩
    |exit i=>exact wpIn_exit ⟨I,S⟩
    |_=>exact S.elim
  |panicked V=>exact⟨I,x⟩
  |outgrown=>exact x.elim
def rndA(l:Nat)(e a:World->Prop)(c:Code->World->Prop)(R:Value->World->Prop):DD
 | .normal=>fun _ _ w=>a w/\∀X,Keep [l] w X->X.heap.size=w.heap.size->e X->R (.bool true) X
 | .ret=>fun _ _ w=>a w/\∀X,Keep [l] w X->X.heap.size=w.heap.size->c .ret X->R (.bool false) X
 | .exit i=>fun _ _ w=>a w/\∀X,Keep [l] w X->X.heap.size=w.heap.size->c (.exit i) X->R (.bool false) X
 |_=>fun _ _ _=>False
theorem Q_asn{k:Fr->DS->World->Prop}(h:k f ds w):asnQ k .normal f ds w:=h
theorem Q_rnd{l:Nat}{c a:World->Prop}{e:Code->World->Prop}{R:Value->World->Prop}(S:a w)(h:∀w',Keep [l] w w'->w'.heap.size=w.heap.size->c w'->R (.bool true) w'):rndA l c a e R .normal f ds w:=⟨S,h⟩
theorem Q_rnd_ret{l:Nat}{e a:World->Prop}{c:Code->World->Prop}{R:Value->World->Prop}(S:a w)(h:∀w',Keep [l] w w'->w'.heap.size=w.heap.size->c .ret w'->R (.bool false) w'):rndA l e a c R .ret f ds w:=⟨S,h⟩
structure Loops(P:Program)(n l:Nat)(ps:List Nat)(asn body:Code)(f:Fr)(Rdy Bsy:World->Prop)(Don:Code->World->Prop):Prop where
 rdy:∀{X:List Nat}{w w':World},Rdy w->Keep X w w'->l∉X->Rdy w'
 bsy:∀{X:List Nat}{w w':World},Bsy w->Keep X w w'->l∉X->Bsy w'
 don:∀{X:List Nat}{w w':World}{c:Code},Don c w->Keep X w w'->l∉X->Don c w'
 lt:∀{w:World},Rdy w->l<w.heap.size
 nocell:∀{w:World},Rdy w->∀o,w.cell? ⟨l,o,none⟩=none
 round:∀{args:LV}{R:Value->World->Prop}{Y:List PanicEntry->World->Prop}{w:World},Rdy w->args.length=ps.length->
  WC P ⟨n,some l⟩ asn (asnQ fun f' ds' w'=>Rdy w'/\∀w2,Keep [l] w' w2->w2.heap.size=w'.heap.size->Bsy w2->WC P ⟨n,some l⟩ body (rndA l Rdy Bsy Don R) f' ds' w2) (ovz (ps.zip args) f) [] w->
  YldP P (.func (.yield l) #[] #[]) args w R Y
theorem C_range{n:Nat}{Q:DD}{g:Operand}{l:List Nat}{j body:Code}{q:FuncId}(v1 v2:LV)[hg:AM P q](p:ev f g=.func (.func q) v1.toArray v2.toArray)
  (E:(l.all (fun t=>Nat.blt t n)&&(Co n true j&&Co n true body))=true)
  (h:∀(m B:World->Prop)(A:Code->World->Prop)(k:World),Loops P n (w.heap.size+1) l j body f m B A->Ext w k->k.heap.size=w.heap.size+2->k.heap[w.heap.size]?=some (.deferred (some []))->m k->
   Fn P q (v1++[.func (.yield (w.heap.size+1)) #[] #[]]++v2) k
    (fun _ z=>(m z/\∀i,Keep [w.heap.size+1] z i->i.heap.size=z.heap.size->Q .normal f ({target:=.collected w.heap.size,args:=#[]}::ds) i)\/
     ∃c,A c z/\∀i,Keep [w.heap.size+1] z i->i.heap.size=z.heap.size->behind Q f ({target:=.collected w.heap.size,args:=#[]}::ds) i (some c))):
  WC P ⟨n,none⟩ (.rangeFunc g l.toArray j body) Q f ds w:=by
 simp only[Bool.and_eq_true]at E;refine C_rangeFunc p fun k D F C r=>?_
 refine FnP.mono (h (fun X=>Lp X (w.heap.size+1) n l j body f .ready none) (fun X=>∃L s,Lp X (w.heap.size+1) n l j body f L s) (fun c X=>Lp X (w.heap.size+1) n l j body f .done (some c)) k
  ⟨fun a b c=>a.E b c,fun⟨L,s,a⟩ b c=>⟨L,s,a.E b c⟩,fun a b c=>a.E b c,fun a=>a.lt,(fun a o=>by obtain⟨_,_,_,e,_⟩:=a;simp[World.cell?,e]),fun{args R Y X}hr hl hw=>?_⟩ D F C r) ?_ (fun _ _ M=>M.elim)
 ·have e:rndA (w.heap.size+1) (fun X=>Lp X (w.heap.size+1) n l j body f .ready none) (fun X=>∃L s,Lp X (w.heap.size+1) n l j body f L s) (fun c X=>Lp X (w.heap.size+1) n l j body f .done (some c)) R=rndQ (w.heap.size+1) n l j body f R:=by
   funext e;cases e<;>rfl
  rw[e]at hw;refine yld_of_wc hr hl E.1 (by rw[Bool.and_eq_true];exact E.2) ?_;exact hw
 ·rintro v z (⟨a,b⟩|⟨c,a,b⟩)
  ·exact⟨_,_,a,rfl,fun i x y=>b i x y⟩
  ·exact⟨_,_,a,rfl,fun i x y=>b i x y⟩
theorem DC{g:FuncId}{fn:Func}{c:Code}{args:LV}{R:Value->World->Prop}(a:P.funcs[g]?=some fn)(S:fn.body=some c){n:Nat}(I:fn.ntmps=n)(e:args.length<=n)(p:Co n false c=true)
  (h:WC P ⟨n,none⟩ c (DZ P fn R fun _ _=>False) (argF args) [] w):Fn P g args w R:=fnD_of_wc a S I e p h
theorem takeDeferred_ok{b:Nat}(h:w.heap[b]?=some (.deferred (some []))):∃w',(Instr.takeDeferred b).run P w=.ok [] w'/\Keep [b] w w'/\w'.heap.size=w.heap.size:=by
 refine⟨setO w b (.deferred none),?_,setO_keep b _ (fun _ _ _ h=>by cases h),setO_size b _⟩;simp[Instr.takeDeferred,getObj,setObj,Sem.run,h,setO]
section
variable {fn:Func}{R:Value->World->Prop}{Y:List PanicEntry->World->Prop}{t u v b:Nat}
theorem finD_ret1(G:fn.results.toList=[.tmp t])(h:R (f t) w):DZ P fn R Y .ret f [] w:=by
 simp only[DZ,lv,G];exact h
theorem Cm{a:Array Value}(S:w.heap[b]?=some (.deferred (some [])))(h:∀w',Keep [b] w w'->w'.heap.size=w.heap.size->DZ P fn R Y .ret f ds w'):DZ P fn R Y .ret f ({target:=.collected b,args:=a}::ds) w:=by
 obtain⟨w',c,W,e⟩:=takeDeferred_ok (P:=P) S;simp only[DZ];refine⟨by simp,.inl ⟨b,w',rfl,c,h w' W e⟩⟩
end
attribute [irreducible] asnQ rndA rndQ YldP
end
section
variable {mk:Prop}[MK mk]
attribute [local semireducible] WC AT B6 BK Bz Cx DZ By
variable {P:Program}{all:Array Oper}{Z:Fr->DS->List PanicEntry->World->Prop}{K:Fr->DS->World->Prop}{rest:List Oper}{f:Fr}{ds:DS}{w:World}
 {d:Nat}{ty:TypeId}{pos:String}{af:Array Edge}
end
section
variable {mk:Prop}[MK mk]
attribute [local semireducible] WC AT B6 BK Bz Cx DZ By
variable {P:Program}{all:Array Oper}{Z:Fr->DS->List PanicEntry->World->Prop}{K:Fr->DS->World->Prop}{rest:List Oper}{f:Fr}{ds:DS}{w:World}
 {d:Nat}{ty:TypeId}{pos:String}{af:Array Edge}
def sameSort(P:Program)(t:TypeId):Value->Value->Prop
 | .int k _,.int k' _=>k=k'/\P.underlying t=some (.int k)
 | .string _,.string _=>P.underlying t=some .string
 | .bool _,.bool _=>P.underlying t=some .bool
 |_,_=>False
theorem run_equalIn_plain{t:TypeId}{a b:Value}(h:sameSort P t a b)(D:Nat):∃r:Bool,(Op.equalIn (D+1) t a b).run P w=.ok r w/\(r=true↔a=b):=by
 cases a<;>cases b<;>simp only[sameSort]at h
 case int.int k x k' y=>
  obtain⟨rfl,h⟩:=h;exact⟨_,run_equalIn_int w D t k k _ _ h,by simp⟩
 case bool.bool x y=>exact⟨_,run_equalIn_bool' w D t _ _ h,by simp⟩
 case string.string x y=>
  refine⟨x==y,by simp[Op.equalIn,run_underlying h],?_⟩;obtain⟨⟨x⟩⟩:=x;obtain⟨⟨y⟩⟩:=y;show((⟨x⟩:Array UInt8)==⟨y⟩)=true↔_;simp
theorem run_part_plain{t:TypeId}{cs:LV}{o:Nat}{a b:Value}(h:sameSort P t a b){v:Value}(p:cs[o]?=some v):(part t cs.toArray o).run P w=.ok v w:=by
 have D:(isAgg t).run P w=.ok false w:=by
  cases a<;>cases b<;>simp only[sameSort]at h<;>first|exact h.elim|skip
  ·simp[isAgg,run_underlying h]
  ·simp[isAgg,run_underlying h.2]
  ·simp[isAgg,run_underlying h]
 simp only[part,Sem.run_bind,D,Result.andThen_ok];simp[p]
theorem run_eqFields_plain(D:Nat){xs ys:LV}:∀c:List Field,(∀f∈c,f.name≠ "_" /\∃a b,xs[f.offset]?=some a/\ys[f.offset]?=some b/\sameSort P f.type a b)->
  ∃r:Bool,(Op.eqFields (D+1) xs.toArray ys.toArray c).run P w=.ok r w/\(r=true↔∀f∈c,xs[f.offset]?=ys[f.offset]?)
 | [],_=>⟨true,by simp[Op.eqFields],by simp⟩
 |g::c,h=>by
  obtain⟨I,a,b,i,S,F⟩:=h g O;obtain⟨r,G,j⟩:=run_equalIn_plain (w:=w) F D;obtain⟨s,l,y⟩:=run_eqFields_plain D c fun f k=>h f (by simp[k]);simp only[Op.eqFields,if_pos I,Sem.run_bind,run_part_plain F i,run_part_plain F S,G,Result.andThen_ok];cases r with
  |false=>exact⟨false,by simp,by simp[i,S];intro e;exact absurd (j.2 e) O⟩
  |true=>
   refine⟨s,by simpa using l,?_⟩;rw[y];simp[i,S,j.1 rfl]
class FlT (P:Program) (T:TypeId) (fs:outParam (List (Nat×TypeId))):Prop where
 out:P.underlying T=some (.struct (P.fieldsOf T))/\P.stoodInHeld T=false/\P.eqGuardType P.depth T=false/\(P.fieldsOf T).toList.map (fun f=>(f.offset,f.type))=fs/\((P.fieldsOf T).toList.all fun f=>f.name≠ "_")=true
theorem run_equal_flat{T:TypeId}{e:List (Nat×TypeId)}{xs ys:LV}[hT:FlT P T e](h:∀p∈e,∃a b,xs[p.1]?=some a/\ys[p.1]?=some b/\sameSort P p.2 a b):
  ∃r:Bool,(Op.equal T (.agg xs.toArray) (.agg ys.toArray)).run P w=.ok r w/\(r=true↔∀p∈e,xs[p.1]?=ys[p.1]?):=by
 obtain⟨g,W,R,rfl,i⟩:=hT.out
 obtain⟨r,G,j⟩:=run_eqFields_plain (P:=P) (w:=w) (xs:=xs) (ys:=ys) 9998 (P.fieldsOf T).toList fun f c=>
  ⟨by simpa using List.all_eq_true.1 i f c,h (f.offset,f.type) (List.mem_map.2 ⟨f,c,rfl⟩)⟩
 refine⟨r,?_,?_⟩
 ·unfold Op.equal;rw[show Op.maxDepth=9998+1+1 from rfl,run_equalIn_agg w _ T _ _ g W];exact G
 ·rw[j];constructor
  ·intro M p y;obtain⟨f,c,rfl⟩:=List.mem_map.1 y;exact M f c
  ·intro M f c;exact M (f.offset,f.type) (List.mem_map.2 ⟨f,c,rfl⟩)
theorem W_flNeq{T M:TypeId}{x y:Operand}{c:List (Nat×TypeId)}{xs ys:LV}[hT:FlT P T c](V:ev f x=.agg xs.toArray)(E:ev f y=.agg ys.toArray)(h:∀p∈c,∃a b,xs[p.1]?=some a/\ys[p.1]?=some b/\sameSort P p.2 a b)
  (L:∀r:Bool,(r=true↔∀p∈c,xs[p.1]?=ys[p.1]?)->AT P all Z K rest (upd f d (.bool (!r))) ds w):AT P all Z K (⟨some d,.binOp .neq T x y M,ty,pos,af,none⟩::rest) f ds w:=by
 obtain⟨r,G,e⟩:=run_equal_flat (P:=P) (T:=T) (w:=w) h;refine A0 rfl ?_ (L r e);simp only[execOp,V,E,Sem.run_bind,run_eqGuard_agg w _ _ _ _ _ _ hT.out.2.2.1,Result.andThen_ok,binOp,G];simp
theorem A8{T A:TypeId}{a:Operand}{b n:Nat}{L:LV}[hT:AggT P T n](D:ev f a=.pointer (sm b))(S:Blk w b A L)(c:L.length=n)
  (h:AT P all Z K rest (upd f d (.agg L.toArray)) ds w):AT P all Z K (⟨some d,.load T a,ty,pos,af,none⟩::rest) f ds w:=AQ D c S.cells h
class BoolT (P:Program) (T:TypeId):Prop where
 out:P.underlying T=some .bool
theorem run_equal_bool{T:TypeId}[hT:BoolT P T](a b:Bool):(Op.equal T (.bool a) (.bool b)).run P w=.ok (a==b) w:=by
 unfold Op.equal;rw[show Op.maxDepth=9999+1 from rfl,run_equalIn_bool' w 9999 T a b hT.out]
theorem W_beql{T M:TypeId}{x y:Operand}{a b:Bool}[hT:BoolT P T](V:ev f x=.bool a)(E:ev f y=.bool b)(h:AT P all Z K rest (upd f d (.bool (a==b))) ds w):AT P all Z K (⟨some d,.binOp .eql T x y M,ty,pos,af,none⟩::rest) f ds w:=by
 refine A0 rfl ?_ h;simp[execOp,V,E,eqGuard,binOp,run_equal_bool]
theorem W_bneq{T M:TypeId}{x y:Operand}{a b:Bool}[hT:BoolT P T](V:ev f x=.bool a)(E:ev f y=.bool b)(h:AT P all Z K rest (upd f d (.bool (a !=b))) ds w):AT P all Z K (⟨some d,.binOp .neq T x y M,ty,pos,af,none⟩::rest) f ds w:=by
 refine A0 rfl ?_ h;simp[execOp,V,E,eqGuard,binOp,run_equal_bool,bne]
end
section
variable {mk:Prop}[MK mk]
open Go.ChangeMaps (setBlock)
attribute [local semireducible] WC AT B6 BK Bz Cx DZ By
variable {P:Program}{all:Array Oper}{Z:Fr->DS->List PanicEntry->World->Prop}{K:Fr->DS->World->Prop}{rest:List Oper}{f:Fr}{ds:DS}{w:World}
 {d:Nat}{ty:TypeId}{pos:String}{af:Array Edge}
class SMapT (P:Program) (T:TypeId) (z:outParam Value):Prop where
 out:∃kt et i,P.underlying T=some (.map kt et)/\P.underlying kt=some .string/\P.info? et=some i/\i.zero=some z
theorem smapT_of{T a e:TypeId}{z:Value}(b:P.underlying T=some (.map a e))(W:P.underlying a=some .string)(R:(P.info? e).map (·.zero)=some (some z)):SMapT P T z:=by
 obtain⟨i,H,o⟩:=Option.map_eq_some_iff.1 R;exact⟨a,e,i,b,W,H,o⟩
def encS(p:LU×Value):Value×Value:=(AL p.1,p.2)
theorem strV_inj{a b:LU}(h:AL a=AL b):a=b:=by simpa using h
def rdS(e:MapEntry):Value×Value:=(e.key,e.val)
def SMap(w:World)(r:Nat)(L:List (LU×Value)):Prop:=
 ∃q h,w.heap[r]?=some (.map q h)/\MapKept.Stamped q h/\q.toList.map rdS=L.map encS
theorem SMap.lt{r:Nat}{L:List (LU×Value)}(h:SMap w r L):r<w.heap.size:=by
 obtain⟨q,c,a,_⟩:=h;exact(Array.getElem?_eq_some_iff.1 a).1
theorem SMap.E{X:List Nat}{w':World}{r:Nat}{L:List (LU×Value)}(h:SMap w r L)(k:Keep X w w')(G:r∉X):SMap w' r L:=by
 obtain⟨q,c,a,W,R⟩:=id h;exact⟨q,c,(k.block r h.lt G).trans a,W,R⟩
theorem keys_str{q:List MapEntry}{L:List (LU×Value)}(h:q.map rdS=L.map encS):∀x∈q,MapKept.IsKey .string x.key:=by
 intro x V;have:rdS x∈L.map encS:=by rw[<-h];exact List.mem_map.2 ⟨x,V,rfl⟩
 obtain⟨p,_,e⟩:=List.mem_map.1 this;have:x.key=AL p.1:=(congrArg Prod.fst e).symm;rw[this];trivial
theorem slookup_none{L:List (LU×Value)}{x:LU}(h:∀p∈L,p.1≠x):L.lookup x=none:=by
 induction L with
 |nil=>rfl
 |cons q L ih=>
  exact GS
theorem slookup_at{L:List (LU×Value)}(I:(L.map (·.1)).Nodup){p:LU×Value}(y:p∈L):L.lookup p.1=some p.2:=by
 induction L with
 |nil=>cases y
 |cons q L ih=>
  simp only[List.map_cons,List.nodup_cons]at I;obtain⟨a,b⟩:=q;rcases List.mem_cons.1 y with rfl|y
  ·simp[List.lookup]
  ·exact Gh
theorem nodup_str{r:Nat}{L:List (LU×Value)}(h:SMap w r L):(L.map (·.1)).Nodup:=by
 obtain⟨q,c,_,⟨_,_,W⟩,R⟩:=h
 have e:q.toList.map (·.key)=L.map (fun p=>AL p.1):=by
  have:=congrArg (List.map Prod.fst) R;simpa[rdS,encS,List.map_map,Function.comp_def]using this
 rw[e]at W;have B:((L.map (·.1)).map (fun x=>AL x)).Nodup:=by rw[List.map_map];exact W
 exact List.Pairwise.of_map _ (fun a b g e=>g (by rw[e])) B
theorem find_str{g:TypeId}{L:List (LU×Value)}(h:P.underlying g=some .string){q:Array MapEntry}(s:q.toList.map rdS=L.map encS)(I:(L.map (·.1)).Nodup)(x:LU)(w:World):
  (L.lookup x=none/\(Instr.findKey g (AL x) q.toList).run P w=.ok none w/\∀e∈q.toList,e.key≠AL x)\/
  ∃i v,L.lookup x=some v/\(Instr.findKey g (AL x) q.toList).run P w=.ok (some (i,v)) w:=by
 have m:∀(i:Nat)(e:MapEntry),q.toList[i]?=some e->∃p,L[i]?=some p/\e.key=AL p.1/\e.val=p.2:=by
  exact Fo
 rcases MapKept.findNow_spec (d:=.string) (k:=AL x) trivial q.toList 0 (keys_str s)with⟨a,W⟩|⟨j,e,a,W,R⟩
 ·refine .inl ⟨slookup_none fun p y n=>?_,MapKept.run_findKey h a,W⟩;obtain⟨i,H⟩:=List.getElem?_of_mem y;have:=congrArg (fun l=>l[i]?) s;simp only[List.getElem?_map,H,Option.map_some]at this;obtain⟨e,c,r⟩:=Option.map_eq_some_iff.1 this;refine W e (List.mem_of_getElem? c) ?_;rw[show e.key=AL p.1 from congrArg Prod.fst r,n]
 ·obtain⟨p,y,b,r⟩:=m j e W;rw[R]at b;have V:=strV_inj b;refine .inr ⟨j,p.2,?_,?_⟩
  ·rw[V];exact slookup_at I (List.mem_of_getElem? y)
  ·have:=MapKept.run_findKey (P:=P) (w:=w) h a;rw[this,r,Nat.zero_add]
theorem W_makeMapS{T:TypeId}(h:∀w',Ext w w'->w'.heap.size=w.heap.size+1->SMap w' w.heap.size []->AT P all Z K rest (upd f d (.map (some w.heap.size))) ds w'):
  AT P all Z K (⟨some d,.makeMap T none,ty,pos,af,none⟩::rest) f ds w:=by
 refine A0 (v:=.map (some w.heap.size)) (w':=w.alloc (.map #[] 0)) rfl ?_ (h _ ⟨rfl,rfl,rfl,by simp,fun k L _=>heap_alloc_old w _ L,fun _=>mark_new O (fun k L=>heap_alloc_old w _ L) (fun c t D e=>by rw[heap_alloc_new]at e;cases e),Nat.le_refl _⟩ O ⟨#[],0,heap_alloc_new w _,MapKept.stamped_empty 0,rfl⟩);have G:(Instr.makeMap T none).run P w=.ok (.map (some w.heap.size)) (w.alloc (.map #[] 0)):=rfl;simp[execOp,G]
theorem W_lookup2S{T:TypeId}{m k:Operand}{r:Nat}{x:LU}{z:Value}{L:List (LU×Value)}[hT:SMapT P T z](s:ev f m=.map (some r))(p:ev f k=AL x)(l:SMap w r L)
  (h:AT P all Z K rest (upd f d (.tuple #[(L.lookup x).getD z,.bool (L.lookup x).isSome])) ds w):AT P all Z K (⟨some d,.lookup T m k true,ty,pos,af,none⟩::rest) f ds w:=by
 obtain⟨u,e,i,c,W,R,B⟩:=hT.out;have I:=nodup_str l;obtain⟨q,t,S,F,g⟩:=l;refine A0 rfl ?_ h;have n:=MapKept.run_checkKey (P:=P) (w:=w) (k:=AL x) W trivial q.isEmpty 9999;have o:(zeroValue e).run P w=.ok z w:=by simp[zeroValue,typeInfo,R,B]
 rcases find_str W g I x w with⟨b,a,_⟩|⟨j,v,b,a⟩
 ·simp[execOp,s,p,Instr.lookup,run_underlying c,MapKept.run_getObj_map S,n,a,o,b]
 ·simp[execOp,s,p,Instr.lookup,run_underlying c,MapKept.run_getObj_map S,n,a,b]
theorem setBlkS_keep{w:World}{r:Nat}{b:Obj}(a:∀c t D,b≠ .cells c t D):Keep [r] w {w with heap:=w.heap.setIfInBounds r b}:=
 ⟨rfl,rfl,rfl,by simp,fun k _ L=>by simp[Ne.symm (show k≠r by simpa using L)],fun _=>mark_obj a,Nat.le_refl _⟩
theorem Cr{T:TypeId}{m k v:Operand}{r:Nat}{x:LU}{y z:Value}{L:List (LU×Value)}[hT:SMapT P T z](s:ev f m=.map (some r))(t:ev f k=AL x)(p:ev f v=y)(l:SMap w r L)(V:L.lookup x=none)
  (h:∀w',Keep [r] w w'->w'.heap.size=w.heap.size->SMap w' r (L++[(x,y)])->AT P all Z K rest f ds w'):AT P all Z K (⟨none,.insert T m k v,ty,pos,af,none⟩::rest) f ds w:=by
 obtain⟨A,e,i,n,W,R,B⟩:=hT.out;have u:=nodup_str l;obtain⟨q,a,S,F,g⟩:=l;have o:=MapKept.run_checkKey (P:=P) (w:=w) (k:=AL x) W trivial false 9999;rcases find_str W g u x w with⟨b,c,I⟩|⟨j,C,b,c⟩
 ·refine W_skp (w':={w with heap:=w.heap.setIfInBounds r (.map (q.push {key:=AL x,val:=y,born:=a}) (a+1))}) rfl ?_ (h _ (setBlkS_keep fun _ _ _ h=>by cases h) O ⟨_,_,(MapKept.heap_set S).1,MapKept.stamped_push F I,?_⟩)
  ·simp[execOp,s,t,p,Instr.mapUpdate,run_underlying n,MapKept.run_getObj_map S,o,c,MapKept.run_setObj_map _ S]
  ·rw[Array.toList_push,List.map_append,g];simp[rdS,encS]
 ·rw[b]at V;cases V
end
section
variable {mk:Prop}[MK mk]
variable {P:Program}{T:TypeId}
theorem BA{n:Nat}(h:(P.info? T).map (·.size)=some n):B8 P T n:=by
 obtain⟨i,H,F⟩:=Option.map_eq_some_iff.1 h;exact⟨i,H,F⟩
theorem Cu{n:Nat}{d:TypeDesc}(g:P.underlying T=some d)(C:aggD d=true)(h:(P.info? T).map (·.size)=some n):AggT P T n:=by
 obtain⟨i,H,F⟩:=Option.map_eq_some_iff.1 h;exact⟨⟨d,g,C⟩,i,H,F⟩
theorem BJ{z:Value}{L:LV}(h:(P.info? T).map (·.zero)=some (some z))(o:z.cells=L.toArray):CP P T L:=by
 obtain⟨i,H,F⟩:=Option.map_eq_some_iff.1 h;exact⟨i,z,H,F,o⟩
theorem D4{e size j:Nat}{z:Value}(g:P.underlying T=some (.slice e))(h:(P.info? e).map (fun i=>(i.zero,i.size,i.bytes))=some (some z,size,j)):SlT P T e size j z:=by
 obtain⟨i,H,d⟩:=Option.map_eq_some_iff.1 h;simp only[Prod.mk.injEq]at d;exact⟨g,i,H,d.1,d.2.1,d.2.2⟩
theorem arrT_of{l e size:Nat}(g:P.underlying T=some (.array l e))(h:(P.info? e).map (·.size)=some size):ArrT P T l e size:=by
 obtain⟨i,H,F⟩:=Option.map_eq_some_iff.1 h;exact⟨g,i,H,F⟩
theorem AZ{i k:Nat}{m:TypeId}{Z:Array Field}{l:Field}{s:Nat}(g:P.underlying T=some (.struct Z))(b:Z[i]?=some l)(a:l.offset=k)(w:l.type=m)(h:(P.info? m).map (·.size)=some (s+1)):Av P T i k m:=by
 obtain⟨j,c,F⟩:=Option.map_eq_some_iff.1 h;exact⟨Z,l,g,b,a,w,j,c,by omega⟩
theorem AD{g:FuncId}{fn:Func}(Z:P.funcs[g]?=some fn)(W:(fn.name== "runtime.NumGoroutine")=false:=by kernel_rfl)(R:fn.body.isNone=false:=by kernel_rfl):AM P g:=by
 refine⟨fn,Z,fun e=>?_,fun e=>?_⟩
 ·rw[e]at W;simp at W
 ·rw[e]at R;simp at R
theorem places_run:∀(Z:List Field)(D:List (Nat×Nat)),Z.map (fun f=>(f.offset,(P.info? f.type).map (·.size)))=D.map (fun p=>(p.1,some p.2))->
  ∀w,(Z.mapM (m:=Sem) fun f=>do pure (f.offset,<-sizeOf f.type)).run P w=.ok D w
 | [],[],_,w=>by simp
 | [],_::_,h,_=>by simp at h
 |_::_,[],h,_=>by simp at h
 |f::Z,p::D,h,w=>by
  simp only[List.map_cons,List.cons.injEq,Prod.mk.injEq]at h;obtain⟨⟨a,W⟩,R⟩:=h;obtain⟨i,H,F⟩:=Option.map_eq_some_iff.1 W;have x:=places_run Z D R w;have y:(sizeOf f.type).run P w=.ok p.2 w:=by simp[sizeOf,typeInfo,H,F]
  simp only[List.mapM_cons,Sem.run_bind,y,Sem.run_pure,Result.andThen_ok];rw[x];simp[a]
theorem Cn{Z:Array Field}{z:Value}{D:List (Nat×Nat)}{zero:LV}(g:P.underlying T=some (.struct Z))(h:(P.info? T).map (·.zero)=some (some z))(o:z.cells=zero.toArray)
  (y:Z.toList.map (fun f=>(f.offset,(P.info? f.type).map (·.size)))=D.map (fun p=>(p.1,some p.2))):StT P T D zero:=by
 obtain⟨i,H,F⟩:=Option.map_eq_some_iff.1 h;refine⟨Z,i,z,g,H,F,o,fun w=>?_⟩;have:=places_run Z.toList D y w;rw[Array.mapM_eq_mapM_toList];have s:∀(x:Sem (List (Nat×Nat))),(Functor.map List.toArray x:Sem (Array (Nat×Nat)))=x >>= fun l=>pure l.toArray:=fun _=>rfl;rw[s,Sem.run_bind,this];simp
end
section
variable {mk:Prop}[MK mk]
attribute [local semireducible] WC AT B6 BK Bz Cx DZ By
section
variable {P:Program}{all:Array Oper}{Z:Fr->DS->List PanicEntry->World->Prop}{K:Fr->DS->World->Prop}{rest:List Oper}{f:Fr}{ds:DS}{w:World}
 {d:Nat}{ty:TypeId}{pos:String}{af:Array Edge}
theorem AG{x:Operand}{a:Addr}(V:ev f x=.pointer (some a))(h:AT P all Z K rest (upd f d (.pointer (some a))) ds w):
  AT P all Z K (⟨some d,.nilCheck x,ty,pos,af,none⟩::rest) f ds w:=
 A0 rfl (by simp[execOp,V]) h
theorem Dm{z:TypeId}{x i:Operand}{k:IntKind}{s:LU}{j:Nat}{c:UInt8}[hT:StrT P z](V:ev f x=AL s)(H:ev f i=.int k (j:Int))(T:s[j]?=some c)(h:AT P all Z K rest (upd f d (enc8 c)) ds w):
  AT P all Z K (⟨some d,.index z x i,ty,pos,af,none⟩::rest) f ds w:=
 W_sindex V H U (by simpa using T) h
theorem bytes_extract(s:LU)(l h:Nat):(⟨s.toArray⟩:ByteArray).extract l h=⟨((s.take h).drop l).toArray⟩:=by
 apply ByteArray.ext;simp[ByteArray.data_extract,List.drop_take]
theorem W_sslice_lh{a:TypeId}{x z H:Operand}{k E:IntKind}{s:LU}{l T:Nat}[hT:StrT P a](V:ev f x=AL s)(c:ev f z=.int k (l:Int))(M:ev f H=.int E (T:Int))(b:l<=T)(W:T<=s.length)
  (h:AT P all Z K rest (upd f d (AL ((s.take T).drop l))) ds w):AT P all Z K (⟨some d,.slice a x (some z) (some H) none,ty,pos,af,none⟩::rest) f ds w:=by
 refine A0 (v:=AL ((s.take T).drop l)) rfl ?_ h;have e:(⟨s.toArray⟩:ByteArray).size=s.length:=by simp[ByteArray.size]
 have Q:(0:Int)<=(l:Int)/\(l:Int)<=(T:Int):=by omega
 have B:(0:Int)<=(T:Int)/\(T:Int)<=((s.length:Nat):Int):=by omega
 simp only[execOp,V,c,M,Option.map_some,Option.map_none,Instr.sliceAt,Sem.run_bind,run_underlying hT.out,Result.andThen_ok,Instr.slice,Instr.sliceBounds,Instr.sliceBound,asIntOf,Sem.run_pure,e];simp[B,Q,bytes_extract,b,W]
theorem W_sslice_l{a:TypeId}{x z:Operand}{k:IntKind}{s:LU}{l:Nat}[hT:StrT P a](V:ev f x=AL s)(c:ev f z=.int k (l:Int))(b:l<=s.length)
  (h:AT P all Z K rest (upd f d (AL (s.drop l))) ds w):AT P all Z K (⟨some d,.slice a x (some z) none none,ty,pos,af,none⟩::rest) f ds w:=by
 refine A0 (v:=AL (s.drop l)) rfl ?_ h;have e:(⟨s.toArray⟩:ByteArray).size=s.length:=by simp[ByteArray.size]
 simp only[execOp,V,c,Option.map_some,Option.map_none,Instr.sliceAt,Sem.run_bind,run_underlying hT.out,Result.andThen_ok,Instr.slice,Instr.sliceBounds,Instr.sliceBound,asIntOf,Sem.run_pure,e];simp[bytes_extract,b]
theorem W_sslice_h{z:TypeId}{x H:Operand}{k:IntKind}{s:LU}{l:Nat}[hT:StrT P z](V:ev f x=AL s)(b:ev f H=.int k (l:Int))(a:l<=s.length)
  (h:AT P all Z K rest (upd f d (AL (s.take l))) ds w):AT P all Z K (⟨some d,.slice z x none (some H) none,ty,pos,af,none⟩::rest) f ds w:=by
 refine A0 (v:=AL (s.take l)) rfl ?_ h;have e:(⟨s.toArray⟩:ByteArray).size=s.length:=by simp[ByteArray.size]
 simp only[execOp,V,b,Option.map_some,Option.map_none,Instr.sliceAt,Sem.run_bind,run_underlying hT.out,Result.andThen_ok,Instr.slice,Instr.sliceBounds,Instr.sliceBound,asIntOf,Sem.run_pure,e];simp[bytes_extract,a]
theorem W_vidx1{T l e:Nat}{x i:Operand}{k:IntKind}{L:LV}{j:Nat}{v:Value}[hT:ArrT P T l e 1][he:D1 P e](V:ev f x=.agg L.toArray)(H:ev f i=.int k (j:Int))(b:j<l)(p:L[j]?=some v)
  (h:AT P all Z K rest (upd f d v) ds w):AT P all Z K (⟨some d,.index T x i,ty,pos,af,none⟩::rest) f ds w:=by
 refine A0 rfl ?_ h;obtain⟨q,g,m⟩:=hT.out;obtain⟨F,a,W⟩:=he.out
 have D:(isAgg e).run P w=.ok false w:=by
  simp only[isAgg,Sem.run_bind,run_underlying a,Result.andThen_ok];cases F<;>simp_all [aggD]
 have y:(part e L.toArray j).run P w=.ok v w:=by
  simp only[part,Sem.run_bind,D,Result.andThen_ok];simp[p]
 simp only[execOp,V,H,Instr.index,asIntOf,Sem.run_bind,Sem.run_pure,Result.andThen_ok,run_underlying hT.und];have c:(0:Int)<=(j:Int)/\(j:Int)<(l:Int):=by omega
 simp[b,sizeOf,typeInfo,g,m,y]
theorem W_vidx{T l e size:Nat}{x i:Operand}{k:IntKind}{L cs:LV}{j:Nat}[hT:ArrT P T l e size][he:AggT P e size](V:ev f x=.agg L.toArray)(H:ev f i=.int k (j:Int))(m:j<l)(p:(L.drop (j*size)).take size=cs)
  (h:AT P all Z K rest (upd f d (.agg cs.toArray)) ds w):AT P all Z K (⟨some d,.index T x i,ty,pos,af,none⟩::rest) f ds w:=by
 refine A0 rfl ?_ h;obtain⟨q,a,F⟩:=hT.out;obtain⟨⟨b,g,W⟩,o,n,c⟩:=he.out
 have D:(isAgg e).run P w=.ok true w:=by
  simp only[isAgg,Sem.run_bind,run_underlying g,Result.andThen_ok];cases b<;>simp_all [aggD]
 have y:(part e L.toArray (j*size)).run P w=.ok (.agg cs.toArray) w:=by
  simp only[part,Sem.run_bind,D,Result.andThen_ok,sizeOf,typeInfo];simp[a,F,<-p]
 simp only[execOp,V,H,Instr.index,asIntOf,Sem.run_bind,Sem.run_pure,Result.andThen_ok,run_underlying hT.und];simp[m,sizeOf,typeInfo,a,F,y]
class ConcT (P:Program) (T:TypeId):Prop where
 out:∃d,P.underlying T=some d/\(match d with| .interface _=>false|_=>true)=true
theorem Db{T:TypeId}{x:Operand}[hT:ConcT P T](h:AT P all Z K rest (upd f d (.iface T (ev f x))) ds w):AT P all Z K (⟨some d,.makeInterface T x,ty,pos,af,none⟩::rest) f ds w:=by
 obtain⟨F,a,W⟩:=hT.out;refine A0 rfl ?_ h;simp only[execOp,Instr.makeInterface,Sem.run_bind,run_underlying a,Result.andThen_ok];cases F<;>simp_all
theorem Ds{x:Operand}{T:TypeId}{v:Value}{a:Option Nat}(V:ev f x=.iface T v)(h:Z f ds [{v:=.iface T v,recovered:=false}] w):AT P all Z K (⟨a,.panic x,ty,pos,af,none⟩::rest) f ds w:=by
 unfold AT
 have G:(execOp (ev f) ⟨a,.panic x,ty,pos,af,none⟩).run P w=.halt (.panic (.iface T v)) w:=by
  simp only[execOp,V,Instr.panic];rfl
 simp only[Bh,if_true,By,G];exact h
end
section
variable {P:Program}{fn:Func}{R:Value->World->Prop}{Y:List PanicEntry->World->Prop}{f:Fr}{w:World}{ch:List PanicEntry}
theorem Ab(h:Y ch w):Cx P fn R Y (.panic ch) f [] w:=⟨rfl,h⟩
end
end
instance :BoolT Zp 4:=⟨Tryz.underlying4⟩
instance :ConcT Zp 121:=⟨_,Tryz.underlying121,rfl⟩
instance :ConcT Zp 193:=⟨_,Tryz.underlying193,rfl⟩
instance :ConcT Zp 229:=⟨_,Tryz.underlying229,rfl⟩
instance :Av Zp 101 0 0 59:=AZ (s:=18) Tryz.underlying101 rfl rfl rfl EO
instance :Av Zp 101 1 19 37:=AZ (s:=4) Tryz.underlying101 rfl rfl rfl EO
instance :Av Zp 121 0 0 28:=AZ (s:=0) Tryz.underlying121 rfl rfl rfl EO
instance :Av Zp 121 1 1 3:=AZ (s:=0) Tryz.underlying121 rfl rfl rfl EO
instance :Av Zp 126 0 0 90:=AZ (s:=0) Tryz.underlying126 rfl rfl rfl EO
instance :Av Zp 126 1 1 3:=AZ (s:=0) Tryz.underlying126 rfl rfl rfl EO
instance :Av Zp 126 2 2 123:=AZ (s:=0) Tryz.underlying126 rfl rfl rfl EO
instance :Av Zp 126 3 3 123:=AZ (s:=0) Tryz.underlying126 rfl rfl rfl EO
instance :Av Zp 129 0 0 9:=AZ (s:=0) Tryz.underlying129 rfl rfl rfl EO
instance :Av Zp 129 1 1 4:=AZ (s:=0) Tryz.underlying129 rfl rfl rfl EO
instance :Av Zp 129 2 2 3:=AZ (s:=0) Tryz.underlying129 rfl rfl rfl EO
instance :Av Zp 137 0 0 134:=AZ (s:=0) Tryz.underlying137 rfl rfl rfl EO
instance :Av Zp 137 1 1 135:=AZ (s:=0) Tryz.underlying137 rfl rfl rfl EO
instance :Av Zp 139 0 0 137:=AZ (s:=1) Tryz.underlying139 rfl rfl rfl EO
instance :Av Zp 152 0 0 3:=AZ (s:=0) Tryz.underlying152 rfl rfl rfl EO
instance :Av Zp 152 1 1 4:=AZ (s:=0) Tryz.underlying152 rfl rfl rfl EO
instance :Av Zp 160 0 0 9:=AZ (s:=0) Tryz.underlying160 rfl rfl rfl EO
instance :Av Zp 160 1 1 89:=AZ (s:=0) Tryz.underlying160 rfl rfl rfl EO
instance :Av Zp 160 2 2 3:=AZ (s:=0) Tryz.underlying160 rfl rfl rfl EO
instance :Av Zp 163 0 0 9:=AZ (s:=0) Tryz.underlying163 rfl rfl rfl EO
instance :Av Zp 163 1 1 3:=AZ (s:=0) Tryz.underlying163 rfl rfl rfl EO
instance :Av Zp 163 2 2 3:=AZ (s:=0) Tryz.underlying163 rfl rfl rfl EO
instance :Av Zp 163 3 3 3:=AZ (s:=0) Tryz.underlying163 rfl rfl rfl EO
instance :Av Zp 163 4 4 3:=AZ (s:=0) Tryz.underlying163 rfl rfl rfl EO
instance :Av Zp 163 5 5 3:=AZ (s:=0) Tryz.underlying163 rfl rfl rfl EO
instance :Av Zp 163 6 6 3:=AZ (s:=0) Tryz.underlying163 rfl rfl rfl EO
instance :Av Zp 163 7 7 3:=AZ (s:=0) Tryz.underlying163 rfl rfl rfl EO
instance :Av Zp 163 8 8 3:=AZ (s:=0) Tryz.underlying163 rfl rfl rfl EO
instance :Av Zp 170 0 0 3:=AZ (s:=0) Tryz.underlying170 rfl rfl rfl EO
instance :Av Zp 170 1 1 9:=AZ (s:=0) Tryz.underlying170 rfl rfl rfl EO
instance :Av Zp 170 2 2 3:=AZ (s:=0) Tryz.underlying170 rfl rfl rfl EO
instance :Av Zp 193 0 0 28:=AZ (s:=0) Tryz.underlying193 rfl rfl rfl EO
instance :Av Zp 193 1 1 3:=AZ (s:=0) Tryz.underlying193 rfl rfl rfl EO
instance :Av Zp 197 0 0 9:=AZ (s:=0) Tryz.underlying197 rfl rfl rfl EO
instance :Av Zp 197 1 1 3:=AZ (s:=0) Tryz.underlying197 rfl rfl rfl EO
instance :Av Zp 197 2 2 90:=AZ (s:=0) Tryz.underlying197 rfl rfl rfl EO
instance :Av Zp 199 0 0 3:=AZ (s:=0) Tryz.underlying199 rfl rfl rfl EO
instance :Av Zp 199 1 1 3:=AZ (s:=0) Tryz.underlying199 rfl rfl rfl EO
instance :Av Zp 199 2 2 3:=AZ (s:=0) Tryz.underlying199 rfl rfl rfl EO
instance :Av Zp 221 0 0 3:=AZ (s:=0) Tryz.underlying221 rfl rfl rfl EO
instance :Av Zp 221 1 1 3:=AZ (s:=0) Tryz.underlying221 rfl rfl rfl EO
instance :Av Zp 221 2 2 3:=AZ (s:=0) Tryz.underlying221 rfl rfl rfl EO
instance :Av Zp 221 3 3 3:=AZ (s:=0) Tryz.underlying221 rfl rfl rfl EO
instance :Av Zp 221 4 4 4:=AZ (s:=0) Tryz.underlying221 rfl rfl rfl EO
instance :Av Zp 221 5 5 4:=AZ (s:=0) Tryz.underlying221 rfl rfl rfl EO
instance :Av Zp 221 6 6 4:=AZ (s:=0) Tryz.underlying221 rfl rfl rfl EO
instance :Av Zp 221 7 7 4:=AZ (s:=0) Tryz.underlying221 rfl rfl rfl EO
instance :Av Zp 25 0 0 22:=AZ (s:=0) Tryz.underlying25 rfl rfl rfl EO
instance :Av Zp 25 1 1 23:=AZ (s:=0) Tryz.underlying25 rfl rfl rfl EO
instance :Av Zp 250 0 0 5:=AZ (s:=0) Tryz.underlying250 rfl rfl rfl EO
instance :Av Zp 250 1 1 5:=AZ (s:=0) Tryz.underlying250 rfl rfl rfl EO
instance :Av Zp 250 2 2 3:=AZ (s:=0) Tryz.underlying250 rfl rfl rfl EO
instance :Av Zp 255 0 0 89:=AZ (s:=0) Tryz.underlying255 rfl rfl rfl EO
instance :Av Zp 255 1 1 4:=AZ (s:=0) Tryz.underlying255 rfl rfl rfl EO
instance :Av Zp 265 0 0 22:=AZ (s:=0) Tryz.underlying265 rfl rfl rfl EO
instance :Av Zp 265 1 1 45:=AZ (s:=0) Tryz.underlying265 rfl rfl rfl EO
instance :Av Zp 265 2 2 262:=AZ (s:=0) Tryz.underlying265 rfl rfl rfl EO
instance :Av Zp 265 3 3 263:=AZ (s:=0) Tryz.underlying265 rfl rfl rfl EO
instance :Av Zp 292 0 0 35:=AZ (s:=0) Tryz.underlying292 rfl rfl rfl EO
instance :Av Zp 292 1 1 35:=AZ (s:=0) Tryz.underlying292 rfl rfl rfl EO
instance :Av Zp 37 0 0 3:=AZ (s:=0) Tryz.underlying37 rfl rfl rfl EO
instance :Av Zp 37 1 1 9:=AZ (s:=0) Tryz.underlying37 rfl rfl rfl EO
instance :Av Zp 37 2 2 3:=AZ (s:=0) Tryz.underlying37 rfl rfl rfl EO
instance :Av Zp 37 3 3 3:=AZ (s:=0) Tryz.underlying37 rfl rfl rfl EO
instance :Av Zp 37 4 4 35:=AZ (s:=0) Tryz.underlying37 rfl rfl rfl EO
instance :Av Zp 57 0 0 9:=AZ (s:=0) Tryz.underlying57 rfl rfl rfl EO
instance :Av Zp 57 1 1 9:=AZ (s:=0) Tryz.underlying57 rfl rfl rfl EO
instance :Av Zp 57 2 2 3:=AZ (s:=0) Tryz.underlying57 rfl rfl rfl EO
instance :Av Zp 57 3 3 37:=AZ (s:=4) Tryz.underlying57 rfl rfl rfl EO
instance :Av Zp 59 0 0 57:=AZ (s:=7) Tryz.underlying59 rfl rfl rfl EO
instance :Av Zp 59 2 9 37:=AZ (s:=4) Tryz.underlying59 rfl rfl rfl EO
instance :Av Zp 59 3 14 37:=AZ (s:=4) Tryz.underlying59 rfl rfl rfl EO
instance :Av Zp 78 1 1 28:=AZ (s:=0) Tryz.underlying78 rfl rfl rfl EO
instance :Av Zp 83 0 0 81:=AZ (s:=0) Tryz.underlying83 rfl rfl rfl EO
instance :FlT Zp 129 [(0,9),(1,4),(2,3)]:=⟨by kernel_rfl,by kernel_rfl,by kernel_rfl,by kernel_rfl,by kernel_rfl⟩
instance :SlT Zp 135 5 1 1 (.int .u8 0):=D4 Tryz.underlying135 EO
instance :IntT Zp 3 .i64:=⟨Tryz.underlying3⟩
instance :IntT Zp 319 .u64:=⟨Tryz.underlying319⟩
instance :IntT Zp 5 .u8:=⟨Tryz.underlying5⟩
instance :StrT Zp 9:=⟨Tryz.underlying9⟩
instance :D1 Zp 1:=⟨_,Tryz.underlying1,rfl⟩
instance :AggT Zp 101 24:=Cu Tryz.underlying101 rfl EO
instance :D1 Zp 123:=⟨_,Tryz.underlying123,rfl⟩
instance :AggT Zp 129 3:=Cu Tryz.underlying129 rfl EO
instance :D1 Zp 134:=⟨_,Tryz.underlying134,rfl⟩
instance :D1 Zp 135:=⟨_,Tryz.underlying135,rfl⟩
instance :D1 Zp 146:=⟨_,Tryz.underlying146,rfl⟩
instance :D1 Zp 154:=⟨_,Tryz.underlying154,rfl⟩
instance :AggT Zp 160 3:=Cu Tryz.underlying160 rfl EO
instance :AggT Zp 163 9:=Cu Tryz.underlying163 rfl EO
instance :AggT Zp 170 3:=Cu Tryz.underlying170 rfl EO
instance :AggT Zp 199 3:=Cu Tryz.underlying199 rfl EO
instance :AggT Zp 211 10:=Cu Tryz.underlying211 rfl EO
instance :D1 Zp 22:=⟨_,Tryz.underlying22,rfl⟩
instance :AggT Zp 221 8:=Cu Tryz.underlying221 rfl EO
instance :D1 Zp 23:=⟨_,Tryz.underlying23,rfl⟩
instance :D1 Zp 237:=⟨_,Tryz.underlying237,rfl⟩
instance :AggT Zp 25 2:=Cu Tryz.underlying25 rfl EO
instance :AggT Zp 250 3:=Cu Tryz.underlying250 rfl EO
instance :AggT Zp 251 48:=Cu Tryz.underlying251 rfl EO
instance :D1 Zp 252:=⟨_,Tryz.underlying252,rfl⟩
instance :D1 Zp 253:=⟨_,Tryz.underlying253,rfl⟩
instance :AggT Zp 255 2:=Cu Tryz.underlying255 rfl EO
instance :D1 Zp 256:=⟨_,Tryz.underlying256,rfl⟩
instance :D1 Zp 257:=⟨_,Tryz.underlying257,rfl⟩
instance :D1 Zp 262:=⟨_,Tryz.underlying262,rfl⟩
instance :D1 Zp 263:=⟨_,Tryz.underlying263,rfl⟩
instance :D1 Zp 28:=⟨_,Tryz.underlying28,rfl⟩
instance :AggT Zp 283 15:=Cu Tryz.underlying283 rfl EO
instance :D1 Zp 3:=⟨_,Tryz.underlying3,rfl⟩
instance :D1 Zp 35:=⟨_,Tryz.underlying35,rfl⟩
instance :AggT Zp 37 5:=Cu Tryz.underlying37 rfl EO
instance :D1 Zp 4:=⟨_,Tryz.underlying4,rfl⟩
instance :D1 Zp 45:=⟨_,Tryz.underlying45,rfl⟩
instance :D1 Zp 5:=⟨_,Tryz.underlying5,rfl⟩
instance :AggT Zp 57 8:=Cu Tryz.underlying57 rfl EO
instance :AggT Zp 59 19:=Cu Tryz.underlying59 rfl EO
instance :D1 Zp 68:=⟨_,Tryz.underlying68,rfl⟩
instance :D1 Zp 72:=⟨_,Tryz.underlying72,rfl⟩
instance :D1 Zp 81:=⟨_,Tryz.underlying81,rfl⟩
instance :AggT Zp 83 1:=Cu Tryz.underlying83 rfl EO
instance :D1 Zp 87:=⟨_,Tryz.underlying87,rfl⟩
instance :D1 Zp 89:=⟨_,Tryz.underlying89,rfl⟩
instance :D1 Zp 9:=⟨_,Tryz.underlying9,rfl⟩
instance :D1 Zp 90:=⟨_,Tryz.underlying90,rfl⟩
instance :B8 Zp 101 24:=BA EO
instance :B8 Zp 121 2:=BA EO
instance :B8 Zp 129 3:=BA EO
instance :B8 Zp 134 1:=BA EO
instance :B8 Zp 135 1:=BA EO
instance :B8 Zp 146 1:=BA EO
instance :B8 Zp 154 1:=BA EO
instance :B8 Zp 160 3:=BA EO
instance :B8 Zp 163 9:=BA EO
instance :B8 Zp 170 3:=BA EO
instance :B8 Zp 193 2:=BA EO
instance :B8 Zp 199 3:=BA EO
instance :B8 Zp 221 8:=BA EO
instance :B8 Zp 23 1:=BA EO
instance :B8 Zp 248 5:=BA EO
instance :B8 Zp 25 2:=BA EO
instance :B8 Zp 250 3:=BA EO
instance :B8 Zp 252 1:=BA EO
instance :B8 Zp 255 2:=BA EO
instance :B8 Zp 256 1:=BA EO
instance :B8 Zp 257 1:=BA EO
instance :B8 Zp 262 1:=BA EO
instance :B8 Zp 263 1:=BA EO
instance :B8 Zp 28 1:=BA EO
instance :B8 Zp 3 1:=BA EO
instance :B8 Zp 35 1:=BA EO
instance :B8 Zp 37 5:=BA EO
instance :B8 Zp 4 1:=BA EO
instance :B8 Zp 45 1:=BA EO
instance :B8 Zp 57 8:=BA EO
instance :B8 Zp 59 19:=BA EO
instance :B8 Zp 83 1:=BA EO
instance :B8 Zp 9 1:=BA EO
instance :B8 Zp 90 1:=BA EO
instance :SlT Zp 131 23 1 24 (.slice none 0 0):=D4 Tryz.underlying131 EO
instance :SlT Zp 161 160 3 32 (.agg #[(AL []),(.pointer none),(iV 0)]):=D4 Tryz.underlying161 EO
instance :SlT Zp 175 89 1 8 (.pointer none):=D4 Tryz.underlying175 EO
instance :SlT Zp 206 9 1 16 (AL []):=D4 Tryz.underlying206 EO
instance :ArrT Zp 211 10 9 1:=arrT_of Tryz.underlying211 EO
instance :SlT Zp 22 129 3 32 (.agg #[(AL []),(.bool false),(iV 0)]):=D4 Tryz.underlying22 EO
instance :SlT Zp 23 57 8 104 (.agg #[(AL []),(AL []),(iV 0),(iV 0),(AL []),(iV 0),(iV 0),(.slice none 0 0)]):=D4 Tryz.underlying23 EO
instance :ArrT Zp 248 5 1 1:=arrT_of Tryz.underlying248 EO
instance :ArrT Zp 251 16 250 3:=arrT_of Tryz.underlying251 EO
instance :SlT Zp 256 255 2 16 (.agg #[(.pointer none),(.bool false)]):=D4 Tryz.underlying256 EO
instance :ArrT Zp 258 20 221 8:=arrT_of Tryz.underlying258 EO
instance :ArrT Zp 283 15 9 1:=arrT_of Tryz.underlying283 EO
instance :ArrT Zp 293 8 292 2:=arrT_of Tryz.underlying293 EO
instance :SlT Zp 294 292 2 48 (.agg #[(.slice none 0 0),(.slice none 0 0)]):=D4 Tryz.underlying294 EO
instance :SlT Zp 33 78 2 16 (.agg #[(iV 0),(iV 0)]):=D4 Tryz.underlying33 EO
instance :SlT Zp 35 37 5 64 (.agg #[(iV 0),(AL []),(iV 0),(iV 0),(.slice none 0 0)]):=D4 Tryz.underlying35 EO
instance :SlT Zp 45 3 1 8 (iV 0):=D4 Tryz.underlying45 EO
instance :SlT Zp 51 59 19 240 (.agg #[(AL []),(AL []),(iV 0),(iV 0),(AL []),(iV 0),(iV 0),(.slice none 0 0),(iV 0),(iV 0),(AL []),(iV 0),(iV 0),(.slice none 0 0),(iV 0),(AL []),(iV 0),(iV 0),(.slice none 0 0)]):=D4 Tryz.underlying51 EO
instance :SlT Zp 79 83 1 8 (.agg #[.nilFunc]):=D4 Tryz.underlying79 EO
instance :SlT Zp 90 170 3 32 (.agg #[(iV 0),(AL []),(iV 0)]):=D4 Tryz.underlying90 EO
instance :SlT Zp 98 101 24 304 (.agg #[(AL []),(AL []),(iV 0),(iV 0),(AL []),(iV 0),(iV 0),(.slice none 0 0),(iV 0),(iV 0),(AL []),(iV 0),(iV 0),(.slice none 0 0),(iV 0),(AL []),(iV 0),(iV 0),(.slice none 0 0),(iV 0),(AL []),(iV 0),(iV 0),(.slice none 0 0)]):=D4 Tryz.underlying98 EO
instance :SMapT Zp 123 (.agg #[(iV 0),(iV 0),(iV 0)]):=smapT_of Tryz.underlying123 Tryz.underlying9 EO
instance :StT Zp 101 [(0,19),(19,5)] [(AL []),(AL []),(iV 0),(iV 0),(AL []),(iV 0),(iV 0),(.slice none 0 0),(iV 0),(iV 0),(AL []),(iV 0),(iV 0),(.slice none 0 0),(iV 0),(AL []),(iV 0),(iV 0),(.slice none 0 0),(iV 0),(AL []),(iV 0),(iV 0),(.slice none 0 0)]:=Cn (z:=(.agg #[(AL []),(AL []),(iV 0),(iV 0),(AL []),(iV 0),(iV 0),(.slice none 0 0),(iV 0),(iV 0),(AL []),(iV 0),(iV 0),(.slice none 0 0),(iV 0),(AL []),(iV 0),(iV 0),(.slice none 0 0),(iV 0),(AL []),(iV 0),(iV 0),(.slice none 0 0)])) Tryz.underlying101 EO rfl EO
instance :StT Zp 121 [(0,1),(1,1)] [(iV 0),(iV 0)]:=Cn (z:=(.agg #[(iV 0),(iV 0)])) Tryz.underlying121 EO rfl EO
instance :StT Zp 126 [(0,1),(1,1),(2,1),(3,1)] [(.slice none 0 0),(iV 0),(.map none),(.map none)]:=Cn (z:=(.agg #[(.slice none 0 0),(iV 0),(.map none),(.map none)])) Tryz.underlying126 EO rfl EO
instance :StT Zp 129 [(0,1),(1,1),(2,1)] [(AL []),(.bool false),(iV 0)]:=Cn (z:=(.agg #[(AL []),(.bool false),(iV 0)])) Tryz.underlying129 EO rfl EO
instance :StT Zp 139 [(0,2)] [(.pointer none),(.slice none 0 0)]:=Cn (z:=(.agg #[(.pointer none),(.slice none 0 0)])) Tryz.underlying139 EO rfl EO
instance :StT Zp 152 [(0,1),(1,1)] [(iV 0),(.bool false)]:=Cn (z:=(.agg #[(iV 0),(.bool false)])) Tryz.underlying152 EO rfl EO
instance :StT Zp 160 [(0,1),(1,1),(2,1)] [(AL []),(.pointer none),(iV 0)]:=Cn (z:=(.agg #[(AL []),(.pointer none),(iV 0)])) Tryz.underlying160 EO rfl EO
instance :StT Zp 163 [(0,1),(1,1),(2,1),(3,1),(4,1),(5,1),(6,1),(7,1),(8,1)] [(AL []),(iV 0),(iV 0),(iV 0),(iV 0),(iV 0),(iV 0),(iV 0),(iV 0)]:=Cn (z:=(.agg #[(AL []),(iV 0),(iV 0),(iV 0),(iV 0),(iV 0),(iV 0),(iV 0),(iV 0)])) Tryz.underlying163 EO rfl EO
instance :StT Zp 170 [(0,1),(1,1),(2,1)] [(iV 0),(AL []),(iV 0)]:=Cn (z:=(.agg #[(iV 0),(AL []),(iV 0)])) Tryz.underlying170 EO rfl EO
instance :StT Zp 193 [(0,1),(1,1)] [(iV 0),(iV 0)]:=Cn (z:=(.agg #[(iV 0),(iV 0)])) Tryz.underlying193 EO rfl EO
instance :StT Zp 197 [(0,1),(1,1),(2,1)] [(AL []),(iV 0),(.slice none 0 0)]:=Cn (z:=(.agg #[(AL []),(iV 0),(.slice none 0 0)])) Tryz.underlying197 EO rfl EO
instance :StT Zp 199 [(0,1),(1,1),(2,1)] [(iV 0),(iV 0),(iV 0)]:=Cn (z:=(.agg #[(iV 0),(iV 0),(iV 0)])) Tryz.underlying199 EO rfl EO
instance :StT Zp 221 [(0,1),(1,1),(2,1),(3,1),(4,1),(5,1),(6,1),(7,1)] [(iV 0),(iV 0),(iV 0),(iV 0),(.bool false),(.bool false),(.bool false),(.bool false)]:=Cn (z:=(.agg #[(iV 0),(iV 0),(iV 0),(iV 0),(.bool false),(.bool false),(.bool false),(.bool false)])) Tryz.underlying221 EO rfl EO
instance :StT Zp 229 [] []:=Cn (z:=(.agg #[])) Tryz.underlying229 EO rfl EO
instance :CP Zp 248 [.nilFunc,.nilFunc,.nilFunc,.nilFunc,.nilFunc]:=BJ (z:=(.agg #[.nilFunc,.nilFunc,.nilFunc,.nilFunc,.nilFunc])) EO rfl
instance :StT Zp 25 [(0,1),(1,1)] [(.slice none 0 0),(.slice none 0 0)]:=Cn (z:=(.agg #[(.slice none 0 0),(.slice none 0 0)])) Tryz.underlying25 EO rfl EO
instance :StT Zp 255 [(0,1),(1,1)] [(.pointer none),(.bool false)]:=Cn (z:=(.agg #[(.pointer none),(.bool false)])) Tryz.underlying255 EO rfl EO
instance :StT Zp 265 [(0,1),(1,1),(2,1),(3,1)] [(.slice none 0 0),(.slice none 0 0),(.map none),(.map none)]:=Cn (z:=(.agg #[(.slice none 0 0),(.slice none 0 0),(.map none),(.map none)])) Tryz.underlying265 EO rfl EO
instance :StT Zp 292 [(0,1),(1,1)] [(.slice none 0 0),(.slice none 0 0)]:=Cn (z:=(.agg #[(.slice none 0 0),(.slice none 0 0)])) Tryz.underlying292 EO rfl EO
instance :StT Zp 37 [(0,1),(1,1),(2,1),(3,1),(4,1)] [(iV 0),(AL []),(iV 0),(iV 0),(.slice none 0 0)]:=Cn (z:=(.agg #[(iV 0),(AL []),(iV 0),(iV 0),(.slice none 0 0)])) Tryz.underlying37 EO rfl EO
instance :StT Zp 57 [(0,1),(1,1),(2,1),(3,5)] [(AL []),(AL []),(iV 0),(iV 0),(AL []),(iV 0),(iV 0),(.slice none 0 0)]:=Cn (z:=(.agg #[(AL []),(AL []),(iV 0),(iV 0),(AL []),(iV 0),(iV 0),(.slice none 0 0)])) Tryz.underlying57 EO rfl EO
instance :StT Zp 59 [(0,8),(8,1),(9,5),(14,5)] [(AL []),(AL []),(iV 0),(iV 0),(AL []),(iV 0),(iV 0),(.slice none 0 0),(iV 0),(iV 0),(AL []),(iV 0),(iV 0),(.slice none 0 0),(iV 0),(AL []),(iV 0),(iV 0),(.slice none 0 0)]:=Cn (z:=(.agg #[(AL []),(AL []),(iV 0),(iV 0),(AL []),(iV 0),(iV 0),(.slice none 0 0),(iV 0),(iV 0),(AL []),(iV 0),(iV 0),(.slice none 0 0),(iV 0),(AL []),(iV 0),(iV 0),(.slice none 0 0)])) Tryz.underlying59 EO rfl EO
instance :StT Zp 78 [(0,1),(1,1)] [(iV 0),(iV 0)]:=Cn (z:=(.agg #[(iV 0),(iV 0)])) Tryz.underlying78 EO rfl EO
instance :StT Zp 83 [(0,1)] [.nilFunc]:=Cn (z:=(.agg #[.nilFunc])) Tryz.underlying83 EO rfl EO
instance :CP Zp 101 [(AL []),(AL []),(iV 0),(iV 0),(AL []),(iV 0),(iV 0),(.slice none 0 0),(iV 0),(iV 0),(AL []),(iV 0),(iV 0),(.slice none 0 0),(iV 0),(AL []),(iV 0),(iV 0),(.slice none 0 0),(iV 0),(AL []),(iV 0),(iV 0),(.slice none 0 0)]:=BJ (z:=(.agg #[(AL []),(AL []),(iV 0),(iV 0),(AL []),(iV 0),(iV 0),(.slice none 0 0),(iV 0),(iV 0),(AL []),(iV 0),(iV 0),(.slice none 0 0),(iV 0),(AL []),(iV 0),(iV 0),(.slice none 0 0),(iV 0),(AL []),(iV 0),(iV 0),(.slice none 0 0)])) EO rfl
instance :CP Zp 121 [(iV 0),(iV 0)]:=BJ (z:=(.agg #[(iV 0),(iV 0)])) EO rfl
instance :CP Zp 129 [(AL []),(.bool false),(iV 0)]:=BJ (z:=(.agg #[(AL []),(.bool false),(iV 0)])) EO rfl
instance :CP Zp 146 [(.map none)]:=BJ (z:=(.map none)) EO rfl
instance :CP Zp 154 [.nilFunc]:=BJ (z:=.nilFunc) EO rfl
instance :CP Zp 160 [(AL []),(.pointer none),(iV 0)]:=BJ (z:=(.agg #[(AL []),(.pointer none),(iV 0)])) EO rfl
instance :CP Zp 163 [(AL []),(iV 0),(iV 0),(iV 0),(iV 0),(iV 0),(iV 0),(iV 0),(iV 0)]:=BJ (z:=(.agg #[(AL []),(iV 0),(iV 0),(iV 0),(iV 0),(iV 0),(iV 0),(iV 0),(iV 0)])) EO rfl
instance :CP Zp 170 [(iV 0),(AL []),(iV 0)]:=BJ (z:=(.agg #[(iV 0),(AL []),(iV 0)])) EO rfl
instance :CP Zp 193 [(iV 0),(iV 0)]:=BJ (z:=(.agg #[(iV 0),(iV 0)])) EO rfl
instance :CP Zp 199 [(iV 0),(iV 0),(iV 0)]:=BJ (z:=(.agg #[(iV 0),(iV 0),(iV 0)])) EO rfl
instance :CP Zp 221 [(iV 0),(iV 0),(iV 0),(iV 0),(.bool false),(.bool false),(.bool false),(.bool false)]:=BJ (z:=(.agg #[(iV 0),(iV 0),(iV 0),(iV 0),(.bool false),(.bool false),(.bool false),(.bool false)])) EO rfl
instance :CP Zp 25 [(.slice none 0 0),(.slice none 0 0)]:=BJ (z:=(.agg #[(.slice none 0 0),(.slice none 0 0)])) EO rfl
instance :CP Zp 250 [(.int .u8 0),(.int .u8 0),(iV 0)]:=BJ (z:=(.agg #[(.int .u8 0),(.int .u8 0),(iV 0)])) EO rfl
instance :CP Zp 252 [.nilFunc]:=BJ (z:=.nilFunc) EO rfl
instance :CP Zp 255 [(.pointer none),(.bool false)]:=BJ (z:=(.agg #[(.pointer none),(.bool false)])) EO rfl
instance :CP Zp 256 [(.slice none 0 0)]:=BJ (z:=(.slice none 0 0)) EO rfl
instance :CP Zp 257 [.nilFunc]:=BJ (z:=.nilFunc) EO rfl
instance :CP Zp 28 [(iV 0)]:=BJ (z:=(iV 0)) EO rfl
instance :CP Zp 293 [(.slice none 0 0),(.slice none 0 0),(.slice none 0 0),(.slice none 0 0),(.slice none 0 0),(.slice none 0 0),(.slice none 0 0),(.slice none 0 0),(.slice none 0 0),(.slice none 0 0),(.slice none 0 0),(.slice none 0 0),(.slice none 0 0),(.slice none 0 0),(.slice none 0 0),(.slice none 0 0)]:=BJ (z:=(.agg #[(.slice none 0 0),(.slice none 0 0),(.slice none 0 0),(.slice none 0 0),(.slice none 0 0),(.slice none 0 0),(.slice none 0 0),(.slice none 0 0),(.slice none 0 0),(.slice none 0 0),(.slice none 0 0),(.slice none 0 0),(.slice none 0 0),(.slice none 0 0),(.slice none 0 0),(.slice none 0 0)])) EO rfl
instance :CP Zp 3 [(iV 0)]:=BJ (z:=(iV 0)) EO rfl
instance :CP Zp 35 [(.slice none 0 0)]:=BJ (z:=(.slice none 0 0)) EO rfl
instance :CP Zp 37 [(iV 0),(AL []),(iV 0),(iV 0),(.slice none 0 0)]:=BJ (z:=(.agg #[(iV 0),(AL []),(iV 0),(iV 0),(.slice none 0 0)])) EO rfl
instance :CP Zp 4 [(.bool false)]:=BJ (z:=(.bool false)) EO rfl
instance :CP Zp 57 [(AL []),(AL []),(iV 0),(iV 0),(AL []),(iV 0),(iV 0),(.slice none 0 0)]:=BJ (z:=(.agg #[(AL []),(AL []),(iV 0),(iV 0),(AL []),(iV 0),(iV 0),(.slice none 0 0)])) EO rfl
instance :CP Zp 59 [(AL []),(AL []),(iV 0),(iV 0),(AL []),(iV 0),(iV 0),(.slice none 0 0),(iV 0),(iV 0),(AL []),(iV 0),(iV 0),(.slice none 0 0),(iV 0),(AL []),(iV 0),(iV 0),(.slice none 0 0)]:=BJ (z:=(.agg #[(AL []),(AL []),(iV 0),(iV 0),(AL []),(iV 0),(iV 0),(.slice none 0 0),(iV 0),(iV 0),(AL []),(iV 0),(iV 0),(.slice none 0 0),(iV 0),(AL []),(iV 0),(iV 0),(.slice none 0 0)])) EO rfl
instance :CP Zp 83 [.nilFunc]:=BJ (z:=(.agg #[.nilFunc])) EO rfl
instance :CP Zp 9 [(AL [])]:=BJ (z:=(AL [])) EO rfl
instance :CP Zp 90 [(.slice none 0 0)]:=BJ (z:=(.slice none 0 0)) EO rfl
instance :AM Zp 5:=AD Tryz.func5
instance :AM Zp 6:=AD Tryz.func6
instance :AM Zp 7:=AD Tryz.func7
instance :AM Zp 8:=AD Tryz.func8
instance :AM Zp 9:=AD Tryz.func9
instance :AM Zp 10:=AD Tryz.func10
instance :AM Zp 11:=AD Tryz.func11
instance :AM Zp 12:=AD Tryz.func12
instance :AM Zp 13:=AD Tryz.func13
instance :AM Zp 14:=AD Tryz.func14
instance :AM Zp 15:=AD Tryz.func15
instance :AM Zp 19:=AD Tryz.func19
instance :AM Zp 20:=AD Tryz.func20
instance :AM Zp 25:=AD Tryz.func25
instance :AM Zp 26:=AD Tryz.func26
instance :AM Zp 27:=AD Tryz.func27
instance :AM Zp 28:=AD Tryz.func28
instance :AM Zp 29:=AD Tryz.func29
instance :AM Zp 30:=AD Tryz.func30
instance :AM Zp 31:=AD Tryz.func31
instance :AM Zp 32:=AD Tryz.func32
instance :AM Zp 33:=AD Tryz.func33
instance :AM Zp 34:=AD Tryz.func34
instance :AM Zp 35:=AD Tryz.func35
instance :AM Zp 36:=AD Tryz.func36
instance :AM Zp 37:=AD Tryz.func37
instance :AM Zp 38:=AD Tryz.func38
instance :AM Zp 39:=AD Tryz.func39
instance :AM Zp 40:=AD Tryz.func40
instance :AM Zp 41:=AD Tryz.func41
instance :AM Zp 42:=AD Tryz.func42
instance :AM Zp 43:=AD Tryz.func43
instance :AM Zp 44:=AD Tryz.func44
instance :AM Zp 45:=AD Tryz.func45
instance :AM Zp 46:=AD Tryz.func46
instance :AM Zp 50:=AD Tryz.func50
instance :AM Zp 51:=AD Tryz.func51
instance :AM Zp 52:=AD Tryz.func52
instance :AM Zp 53:=AD Tryz.func53
instance :AM Zp 54:=AD Tryz.func54
instance :AM Zp 55:=AD Tryz.func55
instance :AM Zp 56:=AD Tryz.func56
instance :AM Zp 57:=AD Tryz.func57
instance :AM Zp 58:=AD Tryz.func58
instance :AM Zp 59:=AD Tryz.func59
instance :AM Zp 60:=AD Tryz.func60
instance :AM Zp 68:=AD Tryz.func68
instance :AM Zp 69:=AD Tryz.func69
instance :AM Zp 70:=AD Tryz.func70
instance :AM Zp 71:=AD Tryz.func71
instance :AM Zp 72:=AD Tryz.func72
instance :AM Zp 73:=AD Tryz.func73
instance :AM Zp 74:=AD Tryz.func74
instance :AM Zp 75:=AD Tryz.func75
instance :AM Zp 76:=AD Tryz.func76
instance :AM Zp 77:=AD Tryz.func77
instance :AM Zp 78:=AD Tryz.func78
instance :AM Zp 79:=AD Tryz.func79
instance :AM Zp 80:=AD Tryz.func80
instance :AM Zp 81:=AD Tryz.func81
instance :AM Zp 82:=AD Tryz.func82
instance :AM Zp 83:=AD Tryz.func83
instance :AM Zp 84:=AD Tryz.func84
instance :AM Zp 85:=AD Tryz.func85
instance :AM Zp 86:=AD Tryz.func86
instance :AM Zp 87:=AD Tryz.func87
instance :AM Zp 88:=AD Tryz.func88
instance :AM Zp 89:=AD Tryz.func89
instance :AM Zp 90:=AD Tryz.func90
instance :AM Zp 91:=AD Tryz.func91
instance :AM Zp 92:=AD Tryz.func92
instance :AM Zp 93:=AD Tryz.func93
instance :AM Zp 94:=AD Tryz.func94
instance :AM Zp 95:=AD Tryz.func95
instance :AM Zp 96:=AD Tryz.func96
instance :AM Zp 97:=AD Tryz.func97
instance :AM Zp 98:=AD Tryz.func98
instance :AM Zp 99:=AD Tryz.func99
instance :AM Zp 100:=AD Tryz.func100
instance :AM Zp 101:=AD Tryz.func101
instance :AM Zp 102:=AD Tryz.func102
instance :AM Zp 103:=AD Tryz.func103
instance :AM Zp 104:=AD Tryz.func104
instance :AM Zp 105:=AD Tryz.func105
instance :AM Zp 106:=AD Tryz.func106
instance :AM Zp 107:=AD Tryz.func107
instance :AM Zp 108:=AD Tryz.func108
instance :AM Zp 109:=AD Tryz.func109
instance :AM Zp 110:=AD Tryz.func110
instance :AM Zp 113:=AD Tryz.func113
instance :AM Zp 114:=AD Tryz.func114
instance :AM Zp 115:=AD Tryz.func115
instance :AM Zp 116:=AD Tryz.func116
instance :AM Zp 117:=AD Tryz.func117
instance :AM Zp 122:=AD Tryz.func122
instance :AM Zp 129:=AD Tryz.func129
instance :AM Zp 130:=AD Tryz.func130
instance :AM Zp 131:=AD Tryz.func131
instance :AM Zp 132:=AD Tryz.func132
instance :AM Zp 133:=AD Tryz.func133
instance :AM Zp 134:=AD Tryz.func134
instance :AM Zp 135:=AD Tryz.func135
instance :AM Zp 136:=AD Tryz.func136
instance :AM Zp 137:=AD Tryz.func137
instance :AM Zp 138:=AD Tryz.func138
instance :AM Zp 139:=AD Tryz.func139
instance :AM Zp 140:=AD Tryz.func140
instance :AM Zp 141:=AD Tryz.func141
instance :AM Zp 142:=AD Tryz.func142
instance :AM Zp 143:=AD Tryz.func143
instance :AM Zp 144:=AD Tryz.func144
instance :AM Zp 145:=AD Tryz.func145
instance :AM Zp 146:=AD Tryz.func146
instance :AM Zp 147:=AD Tryz.func147
instance :AM Zp 148:=AD Tryz.func148
instance :AM Zp 149:=AD Tryz.func149
instance :AM Zp 150:=AD Tryz.func150
instance :AM Zp 151:=AD Tryz.func151
instance :AM Zp 152:=AD Tryz.func152
instance :AM Zp 153:=AD Tryz.func153
instance :AM Zp 154:=AD Tryz.func154
instance :AM Zp 155:=AD Tryz.func155
instance :AM Zp 156:=AD Tryz.func156
instance :AM Zp 157:=AD Tryz.func157
instance :AM Zp 158:=AD Tryz.func158
instance :AM Zp 159:=AD Tryz.func159
instance :AM Zp 160:=AD Tryz.func160
instance :AM Zp 161:=AD Tryz.func161
instance :AM Zp 162:=AD Tryz.func162
instance :AM Zp 163:=AD Tryz.func163
instance :AM Zp 164:=AD Tryz.func164
instance :AM Zp 165:=AD Tryz.func165
instance :AM Zp 166:=AD Tryz.func166
instance :AM Zp 167:=AD Tryz.func167
instance :AM Zp 168:=AD Tryz.func168
instance :AM Zp 169:=AD Tryz.func169
instance :AM Zp 170:=AD Tryz.func170
instance :AM Zp 171:=AD Tryz.func171
instance :AM Zp 172:=AD Tryz.func172
instance :AM Zp 173:=AD Tryz.func173
instance :AM Zp 174:=AD Tryz.func174
instance :AM Zp 175:=AD Tryz.func175
instance :AM Zp 176:=AD Tryz.func176
instance :AM Zp 177:=AD Tryz.func177
instance :AM Zp 178:=AD Tryz.func178
instance :AM Zp 180:=AD Tryz.func180
instance :AM Zp 182:=AD Tryz.func182
instance :AM Zp 183:=AD Tryz.func183
instance :AM Zp 185:=AD Tryz.func185
instance :AM Zp 189:=AD Tryz.func189
instance :AM Zp 190:=AD Tryz.func190
instance :AM Zp 191:=AD Tryz.func191
instance :AM Zp 192:=AD Tryz.func192
instance :AM Zp 193:=AD Tryz.func193
instance :AM Zp 194:=AD Tryz.func194
instance :AM Zp 195:=AD Tryz.func195
instance :AM Zp 196:=AD Tryz.func196
instance :AM Zp 197:=AD Tryz.func197
instance :AM Zp 198:=AD Tryz.func198
instance :AM Zp 199:=AD Tryz.func199
instance :AM Zp 200:=AD Tryz.func200
instance :AM Zp 201:=AD Tryz.func201
instance :AM Zp 202:=AD Tryz.func202
instance :AM Zp 203:=AD Tryz.func203
instance :AM Zp 204:=AD Tryz.func204
instance :AM Zp 205:=AD Tryz.func205
instance :AM Zp 206:=AD Tryz.func206
instance :AM Zp 207:=AD Tryz.func207
instance :AM Zp 208:=AD Tryz.func208
instance :AM Zp 209:=AD Tryz.func209
instance :AM Zp 210:=AD Tryz.func210
instance :AM Zp 211:=AD Tryz.func211
instance :AM Zp 212:=AD Tryz.func212
instance :AM Zp 213:=AD Tryz.func213
instance :AM Zp 214:=AD Tryz.func214
instance :AM Zp 215:=AD Tryz.func215
instance :AM Zp 216:=AD Tryz.func216
instance :AM Zp 217:=AD Tryz.func217
instance :AM Zp 218:=AD Tryz.func218
instance :AM Zp 219:=AD Tryz.func219
instance :AM Zp 220:=AD Tryz.func220
instance :AM Zp 221:=AD Tryz.func221
instance :AM Zp 222:=AD Tryz.func222
instance :AM Zp 223:=AD Tryz.func223
instance :AM Zp 224:=AD Tryz.func224
instance :AM Zp 225:=AD Tryz.func225
instance :AM Zp 226:=AD Tryz.func226
instance :AM Zp 227:=AD Tryz.func227
instance :AM Zp 228:=AD Tryz.func228
instance :AM Zp 229:=AD Tryz.func229
instance :AM Zp 230:=AD Tryz.func230
instance :AM Zp 231:=AD Tryz.func231
instance :AM Zp 232:=AD Tryz.func232
instance :AM Zp 233:=AD Tryz.func233
instance :AM Zp 234:=AD Tryz.func234
instance :AM Zp 235:=AD Tryz.func235
instance :AM Zp 275:=AD Tryz.func275
instance :AM Zp 276:=AD Tryz.func276
instance :AM Zp 277:=AD Tryz.func277
instance :AM Zp 278:=AD Tryz.func278
instance :AM Zp 279:=AD Tryz.func279
instance :AM Zp 280:=AD Tryz.func280
instance :AM Zp 281:=AD Tryz.func281
instance :AM Zp 282:=AD Tryz.func282
instance :AM Zp 283:=AD Tryz.func283
instance :AM Zp 287:=AD Tryz.func287
instance :AM Zp 288:=AD Tryz.func288
instance :AM Zp 289:=AD Tryz.func289
instance :AM Zp 290:=AD Tryz.func290
instance :AM Zp 291:=AD Tryz.func291
instance :AM Zp 292:=AD Tryz.func292
instance :AM Zp 293:=AD Tryz.func293
instance :AM Zp 294:=AD Tryz.func294
instance :AM Zp 295:=AD Tryz.func295
instance :AM Zp 296:=AD Tryz.func296
instance :AM Zp 297:=AD Tryz.func297
instance :AM Zp 298:=AD Tryz.func298
instance :AM Zp 299:=AD Tryz.func299
instance :AM Zp 300:=AD Tryz.func300
instance :AM Zp 301:=AD Tryz.func301
instance :AM Zp 302:=AD Tryz.func302
instance :AM Zp 303:=AD Tryz.func303
instance :AM Zp 304:=AD Tryz.func304
instance :AM Zp 305:=AD Tryz.func305
instance :AM Zp 306:=AD Tryz.func306
instance :AM Zp 307:=AD Tryz.func307
instance :AM Zp 308:=AD Tryz.func308
instance :AM Zp 309:=AD Tryz.func309
instance :AM Zp 310:=AD Tryz.func310
instance :AM Zp 316:=AD Tryz.func316
instance :AM Zp 325:=AD Tryz.func325
instance :AM Zp 326:=AD Tryz.func326
instance :AM Zp 327:=AD Tryz.func327
instance :AM Zp 328:=AD Tryz.func328
theorem Ap:Tryz.prog.follows .mixedOrders=true:=by kernel_rfl
section
variable {mk:Prop}[MK mk]
attribute [local semireducible] WC AT B6 BK Bz Cx DZ By
section
variable {P:Program}{all:Array Oper}{Z:Fr->DS->List PanicEntry->World->Prop}{K:Fr->DS->World->Prop}{rest:List Oper}{f:Fr}{ds:DS}{w:World}
 {d:Nat}{ty:TypeId}{pos:String}{af:Array Edge}
theorem W_defer{g:FuncId}{t:Nat}{xs:List Operand}{e:Array TypeId}{vs v1 v2:LV}(m:f t=.func (.func g) v1.toArray v2.toArray)(D:evL f xs=vs)
  (h:AT P all Z K rest f ({target:=.fn (.func g) v2.toArray,args:=(v1++vs).toArray}::ds) w):AT P all Z K (⟨none,.defer ⟨.value (.tmp t),xs.toArray,e⟩,ty,pos,af,none⟩::rest) f ds w:=by
 have G:(execOp (ev f) ⟨none,.defer ⟨.value (.tmp t),xs.toArray,e⟩,ty,pos,af,none⟩).run P w=.ok (.defer {target:=.fn (.func g) v2.toArray,args:=(v1++vs).toArray}) w:=by
  rw[evL_map]at D;simp only[execOp,resolve,ev,m,Deferred.ofValue,Sem.run_bind,Sem.run_pure,Result.andThen_ok];simp[<-D]
 unfold AT;simp only[Bh,if_true,By,G];exact h
theorem W_assert_yes{x:Operand}{z T:TypeId}{v:Value}[hT:ConcT P T](V:ev f x=.iface T v)(h:AT P all Z K rest (upd f d (.tuple #[v,.bool true])) ds w):
  AT P all Z K (⟨some d,.typeAssert x z T true,ty,pos,af,none⟩::rest) f ds w:=by
 obtain⟨F,e,W⟩:=hT.out;refine A0 rfl ?_ h;simp only[execOp,V,Instr.typeAssert,Sem.run_bind,run_underlying e,Result.andThen_ok];cases F<;>simp_all
theorem W_assert_nil{x:Operand}{m T:TypeId}{z:Value}[hT:ConcT P T](V:ev f x=.nilIface)(g:(P.info? T).map (·.zero)=some (some z))(h:AT P all Z K rest (upd f d (.tuple #[z,.bool false])) ds w):
  AT P all Z K (⟨some d,.typeAssert x m T true,ty,pos,af,none⟩::rest) f ds w:=by
 obtain⟨F,e,W⟩:=hT.out;obtain⟨i,H,p⟩:=Option.map_eq_some_iff.1 g;refine A0 rfl ?_ h;simp only[execOp,V,Instr.typeAssert,Sem.run_bind,run_underlying e,Result.andThen_ok];cases F<;>simp_all [zeroValue,typeInfo]
end
def plainOp:Op->Bool
 | .move _| .assign _| .alloc _| .store _ _ _| .load _ _| .extract _ _| .typeAssert _ _ _ _| .fieldAddr _ _ _| .binOp _ _ _ _ _=>true
 |_=>false
theorem run_v{P:Program}{w:World}(s:Sem Value):(∃v w',(do pure (Next.value (<-s)):Sem Next).run P w=.ok (.value v) w')\/∃x w',(do pure (Next.value (<-s)):Sem Next).run P w=.halt x w':=by
 simp only[Sem.run_bind];cases s.run P w with
 |ok v w'=>exact .inl ⟨v,w',rfl⟩
 |halt x w'=>exact .inr ⟨x,w',rfl⟩
theorem plain_cases{P:Program}{w:World}{ρ:Operand->Value}{o:Oper}(h:plainOp o.op=true):
  (∃v w',(execOp ρ o).run P w=.ok (.value v) w')\/(∃w',(execOp ρ o).run P w=.ok .skip w')\/∃x w',(execOp ρ o).run P w=.halt x w':=by
 obtain⟨e,op,ty,pos,af,g⟩:=o;cases op<;>simp only[plainOp]at h<;>try (cases h;done)
 case store t a x=>
  simp only[execOp,Sem.run_bind];cases(Instr.storeAt t (ρ a) (ρ x)).run P w with
  |ok v w'=>exact .inr (.inl ⟨w',rfl⟩)
  |halt x w'=>exact .inr (.inr ⟨x,w',rfl⟩)
 case move=>exact .inl ⟨_,_,rfl⟩
 case assign=>exact .inl ⟨_,_,rfl⟩
 all_goals
  simp only[execOp];rcases run_v (P:=P) (w:=w) _ with⟨v,w',h⟩|⟨x,w',h⟩
  ·exact .inl ⟨v,w',h⟩
  ·exact .inr (.inr ⟨x,w',h⟩)
theorem S_of_WOps{P:Program}{ops:Array Oper}{F:Fence}{n N:Nat}{Q:Exit->Act->List Frame->World->Prop}{cs:List Frame}{K:Fr->DS->World->Prop}(s:∀g,F.fn g)
  (H:∀m w',m.tmps.size=N->K (Ca m) m.defers w'->Q .normal m cs w'):∀(l:List Nat)(W:List Oper)(a:Act)(w:World),l.map (fun i=>ops[i]?)=W.map some->(W.all fun o=>plainOp o.op&&dOk N o.dst)=true->
   a.tmps.size=N->AT P ops (fun _ _ _ _=>False) K W (Ca a) a.defers w->wpOpsSIn F n P ops Q l a cs w
 | [],[],a,w,_,_,hn,h=>H a w hn h
 | [],_::_,_,_,h,_,_,_=>by simp at h
 |_::_,[],_,_,h,_,_,_=>by simp at h
 |i::l,o::W,a,w,hl,y,hn,h=>by
  simp only[List.map_cons,List.cons.injEq]at hl;simp only[List.all_cons,Bool.and_eq_true]at y;obtain⟨⟨p,B⟩,y⟩:=y;unfold wpOpsSIn;simp only[hl.1];refine⟨fun g _=>s g,?_⟩;have q:∀v,Ca (a.put o.dst v)=putF (Ca a) o.dst v:=fun v=>toFr_putF v (by rw[hn];exact B)
  have go:∀v w',AT P ops (fun _ _ _ _=>False) K W (putF (Ca a) o.dst v) a.defers w'->wpOpsSIn F n P ops Q l (a.put o.dst v) cs w':=fun v w' T=>
   S_of_WOps s H l W (a.put o.dst v) w' hl.2 y (by rw[size_put];exact hn) (by rw[q,defers_put];exact T)
  unfold AT at h;rw[wanted_toFr];by_cases e:Bh ops (Ca a) o.guard=true
  ·rw[if_pos e]at h⊢;unfold By at h;rw[ev_toFr];rcases plain_cases (P:=P) (w:=w) (ρ:=ev (Ca a)) p with⟨v,w',G⟩|⟨w',G⟩|⟨x,w',G⟩
   ·rw[G]at h⊢;exact go _ _ h
   ·rw[G]at h⊢;exact go _ _ h
   ·rw[G]at h;cases x<;>exact h.elim
  ·rw[if_neg e]at h⊢;exact go _ _ h
theorem Dr{P:Program}{g:FuncId}{fn:Func}{id d N:Nat}{t:Array TypeId}{ty:TypeId}{pos:String}{af:Array Edge}{W:List Oper}{y:Code}{args:LV}{w:World}{u u1:FrameMode}{v0:Value}{G:Value->World->Prop}
  (X:P.funcs[g]?=some fn)(S:fn.body=some (.seq (.region id (⟨some d,.call ⟨.builtin .recover,#[],t⟩,ty,pos,af,none⟩::W).toArray false) y))(I:fn.ntmps=N)(hl:args.length<=N)(C:d<N)
  (a0:(W.all fun o=>plainOp o.op&&dOk N o.dst)=true)(hy:Co N false y=true)
  (hu:(u=.returning/\u1=.returning/\v0=.nilIface)\/∃p,u=.panicking [{v:=p,recovered:=false}]/\u1=.panicking [{v:=p,recovered:=true}]/\v0=p)
  (h:AT P (⟨some d,.call ⟨.builtin .recover,#[],t⟩,ty,pos,af,none⟩::W).toArray (fun _ _ _ _=>False) (WC P ⟨N,none⟩ y (Cx P fn G fun _ _=>False)) W (upd (argF args) d v0) [] w):
  CallsDIn Fence.wide 0 P g args.toArray u w (fun e x w'=>match e with| .returned v=>x=u1/\G v w'|_=>False):=by
 have F:(args.toArray++Array.replicate (fn.ntmps-args.toArray.size) undef).size=N:=by simp[I];omega
 refine callsDIn_of_wpSIn X S trivial fun m q T=>?_;refine wpSIn_seq (wpSIn_region ?_)
 have a1:List.range (⟨some d,.call ⟨.builtin .recover,#[],t⟩,ty,pos,af,none⟩::W:List Oper).toArray.size=0::(List.range W.length).map (·+1):=by
  rw[List.size_toArray,List.length_cons,List.range_succ_eq_map]
 rw[a1];unfold wpOpsSIn;simp only[List.getElem?_toArray,List.getElem?_cons_zero];refine⟨fun _ _=>trivial,?_⟩;simp only[Region.wanted,if_true]
 have hr:∀ρ:Operand->Value,(execOp ρ ⟨some d,.call ⟨.builtin .recover,#[],t⟩,ty,pos,af,none⟩).run P w=.ok .recover w:=fun ρ=>by
  simp[execOp,resolve,invoke,builtin]
 rw[hr]
 have M:∀s:Frame,s={m with mode:=u1}->wpOpsSIn Fence.wide 0 P (⟨some d,.call ⟨.builtin .recover,#[],t⟩,ty,pos,af,none⟩::W:List Oper).toArray
   (Exit.thenS (y.wpSIn Fence.wide 0 P (bodyPostS P fn m q fun e x w'=>match e with| .returned v=>x=u1/\G v w'|_=>False)) (bodyPostS P fn m q fun e x w'=>match e with| .returned v=>x=u1/\G v w'|_=>False))
   ((List.range W.length).map (·+1)) (({tmps:=args.toArray++Array.replicate (fn.ntmps-args.toArray.size) undef,defers:=[]}:Act).put (some d) v0) (s::q) w:=by
  rintro s rfl;refine S_of_WOps (N:=N) (K:=WC P ⟨N,none⟩ y (Cx P fn G fun _ _=>False)) (fun _=>trivial) ?_ _ W _ w ?_ a0 (by rw[size_put];exact F) ?_
  ·intro V w' D hwc;have hp:=CW (P:=P) (n:=⟨N,none⟩) y (Cx P fn G fun _ _=>False) V w' D hy hwc;refine wpSIn_of_wpIn rfl (wpIn_mono hp ?_);rintro e a2 w2⟨_,r⟩;cases e with
   |normal=>obtain⟨z,A⟩:=r;obtain⟨l,E,B⟩:=run_results A;exact⟨z,_,rfl,_,B,rfl,E⟩
   |ret=>obtain⟨z,A⟩:=r;obtain⟨l,E,B⟩:=run_results A;exact⟨z,_,rfl,_,B,rfl,E⟩
   |panic ch=>exact r.2.elim
   |exit _=>exact r.elim
   |goto _=>exact r.elim
   |outgrown=>exact r.elim
  ·refine List.ext_getElem? fun i=>?_;rw[List.map_map,List.getElem?_map,List.getElem?_map];by_cases H:i<W.length
   ·rw[List.getElem?_range H];simp[H]
   ·rw[List.getElem?_eq_none Es,List.getElem?_eq_none Es];rfl
  ·rw[defers_put,toFr_put v0 (by rw[F];exact C),toFr_args];exact h
 rcases hu with⟨rfl,rfl,rfl⟩|⟨p,rfl,rfl,rfl⟩
 ·have L:recoverD (m::q)=none:=by simp[recoverD,T]
  rw[L];exact M m (by cases m;simp_all)
 ·have L:recoverD (m::q)=some (v0,{m with mode:=.panicking [{v:=v0,recovered:=true}]}::q):=by simp[recoverD,T]
  rw[L];exact M _ rfl
section
variable {P:Program}{fn:Func}{R:Value->World->Prop}{Y:List PanicEntry->World->Prop}{f:Fr}{w:World}{ds:DS}
theorem run_loadVar_one{T b o:Nat}{v:Value}(m:D1 P T)(h:w.cell? ⟨b,o,none⟩=some v):(loadVar T ⟨b,o,none⟩).run P w=.ok v w:=by
 obtain⟨F,g,W⟩:=m.out
 have e:(isAgg T).run P w=.ok false w:=by
  simp only[isAgg,Sem.run_bind,run_underlying g,Result.andThen_ok];cases F<;>simp_all [aggD]
 simp only[loadVar,Sem.run_bind,e,Result.andThen_ok];simp[h]
theorem A7{T b o t:Nat}{v:Value}{l:List ResultVar}{k:LV->Prop}[hT:D1 P T](D:f t=.pointer (some ⟨b,o,none⟩))(e:w.cell? ⟨b,o,none⟩=some v)(h:Da P l f w fun r=>k (v::r)):Da P (.cell t T::l) f w k:=
 ⟨_,v,D,run_loadVar_one hT e,h⟩
theorem BF(h:Da P fn.results.toList f w fun l=>R (tupleOf l) w):DZ P fn R Y .ret f [] w:=h
theorem finD_ret_def{g:FuncId}{a c:LV}[hg:AM P g]{G:World->Prop}(T:CallsDIn Fence.wide 0 P g (a++c).toArray .returning w (fun e p w'=>match e with| .returned _=>p=.returning/\G w'|_=>False))
  (h:∀w',G w'->Da P fn.results.toList f w' fun l=>R (tupleOf l) w'):DZ P fn R Y .ret f [{target:=.fn (.func g) c.toArray,args:=a.toArray}] w:=by
 obtain⟨s,q,W,r⟩:=hg.out;refine⟨by simp,.inr ⟨_,_,g,(a++c).toArray,rfl,?_,T.mono ?_⟩⟩
 ·simp only[invoke,callFunc,program];simp[Sem.run,q,W,r]
 ·intro e p w' m;cases e with
  |returned v=>obtain⟨rfl,X⟩:=m;exact h w' X
  |panicked _=>exact m.elim
  |outgrown=>exact m.elim
theorem finD_pan_def{g:FuncId}{a c:LV}{p:Value}[hg:AM P g]{G:World->Prop}(T:CallsDIn Fence.wide 0 P g (a++c).toArray (.panicking [{v:=p,recovered:=false}]) w (fun e q w'=>match e with| .returned _=>q=.panicking [{v:=p,recovered:=true}]/\G w'|_=>False))
  (h:∀w',G w'->Da P fn.results.toList f w' fun l=>R (tupleOf l) w'):DZ P fn R Y (.panic [{v:=p,recovered:=false}]) f [{target:=.fn (.func g) c.toArray,args:=a.toArray}] w:=by
 obtain⟨t,r,W,s⟩:=hg.out;refine⟨by simp,.inr ⟨_,_,g,(a++c).toArray,rfl,?_,T.mono ?_⟩⟩
 ·simp only[invoke,callFunc,program];simp[Sem.run,r,W,s]
 ·intro e q w' m;cases e with
  |returned v=>obtain⟨rfl,X⟩:=m;exact h w' X
  |panicked _=>exact m.elim
  |outgrown=>exact m.elim
end
class Nx (g:Prop) (c s:outParam Prop):Prop where
 imp:c->s->g
theorem nx{g c s:Prop}[h:Nx g c s](y:c)(x:s):g:=h.imp y x
section
variable {P:Program}{n:Cf}{Q:DD}{f:Fr}{ds:DS}{w:World}{a b:Code}{k:Fr->DS->World->Prop}{i j l:Nat}{o:Operand}{c:List PanicEntry}{all:Array Oper}{Z:Fr->DS->List PanicEntry->World->Prop}
instance :Nx (WC P n (.seq a b) Q f ds w) (0=0) (WC P n a (B6 (WC P n b Q) Q) f ds w):=⟨fun _=>C_seq⟩
instance :Nx (WC P n (.block i a) Q f ds w) (0=0) (WC P n a (BK i Q) f ds w):=⟨fun _=>C_block⟩
instance :Nx (WC P n (.scope a) Q f ds w) (0=0) (WC P n a (Bz Q) f ds w):=⟨fun _=>C_scope⟩
instance :Nx (WC P n .skip Q f ds w) (0=0) (Q .normal f ds w):=⟨fun _=>C_skip⟩
instance :Nx (WC P n (.label l) Q f ds w) (0=0) (Q .normal f ds w):=⟨fun _=>C_label⟩
instance :Nx (WC P n .ret Q f ds w) (0=0) (Q .ret f ds w):=⟨fun _=>C_ret⟩
instance :Nx (WC P n (.exit i) Q f ds w) (0=0) (Q (.exit i) f ds w):=⟨fun _=>C_exit⟩
instance :Nx (B6 k Q .normal f ds w) (0=0) (k f ds w):=⟨fun _=>Q_then⟩
instance :Nx (B6 k Q .ret f ds w) (0=0) (Q .ret f ds w):=⟨fun _=>Q_then_ret⟩
instance :Nx (B6 k Q (.exit i) f ds w) (0=0) (Q (.exit i) f ds w):=⟨fun _=>Q_then_exit⟩
instance :Nx (B6 k Q (.panic c) f ds w) (0=0) (Q (.panic c) f ds w):=⟨fun _=>Q_then_panic⟩
instance :Nx (BK i Q .normal f ds w) (0=0) (Q .normal f ds w):=⟨fun _=>Q_block⟩
instance :Nx (BK i Q .ret f ds w) (0=0) (Q .ret f ds w):=⟨fun _=>Q_block_ret⟩
instance :Nx (BK i Q (.panic c) f ds w) (0=0) (Q (.panic c) f ds w):=⟨fun _=>Q_block_panic⟩
instance :Nx (BK i Q (.exit i) f ds w) (0=0) (Q .normal f ds w):=⟨fun _=>Q_block_here⟩
instance :Nx (asnQ k .normal f ds w) (0=0) (k f ds w):=⟨fun _=>Q_asn⟩
instance :Nx (Bz Q .normal f ds w) (0=0) (Q .normal f ds w):=⟨fun _=>fun h=>h⟩
instance :Nx (Bz Q .ret f ds w) (0=0) (Q .ret f ds w):=⟨fun _=>fun h=>h⟩
instance :Nx (Bz Q (.exit i) f ds w) (0=0) (Q (.exit i) f ds w):=⟨fun _=>fun h=>h⟩
instance :Nx (Bz Q (.panic c) f ds w) (0=0) (Q (.panic c) f ds w):=⟨fun _=>fun h=>h⟩
instance :Nx (AT P all Z k [] f ds w) (0=0) (k f ds w):=⟨fun _=>AA⟩
instance (priority:=low):Nx (BK j Q (.exit i) f ds w) (Nat.beq i j=false) (Q (.exit i) f ds w):=⟨Q_block_on⟩
instance :Nx (WC P n (.cond o a b) Q f ds w) (ev f o=.bool true) (WC P n a Q f ds w):=⟨C_cond_t⟩
theorem nf(T:ev f o=.bool false)(h:WC P n b Q f ds w):WC P n (.cond o a b) Q f ds w:=C_cond_f T h
end
end
theorem mSx{p:Prop}(h:p:=by first|(simp;done)|(simp;omega)|(intros;simp at*;omega)):p:=h
theorem mSy{p:Prop}(h:p:=by first|(simp;done)|(intro x hx hlt;simp at hx;omega)|(intro x hx hlt;simp at hx⊢;omega)|(intro x hx hlt;simp at hx;rcases hx with rfl|rfl<;>first|omega|(simp;done)|(simp;omega))):p:=h
theorem mKk{p:Prop}(h:p:=by first|assumption|(apply New.E;assumption)|(apply Put.E;assumption)):p:=h
section
variable {mk:Prop}[MK mk]{X:List Nat}{w w':World}{ok:Nat->Prop}
theorem kB{b:Nat}{T:TypeId}{L:LV}(k:Keep X w w')(h:Blk w b T L)(hb:b∉X):Blk w' b T L:=h.E k hb
theorem kC{b off:Nat}{cs:LV}(k:Keep X w w')(h:Cells w b off cs)(hb:b∉X):Cells w' b off cs:=h.E k hb
theorem kS{v:Value}{n:Nat}{cs:LV}(k:Keep X w w')(h:Sl ok w v n cs)(hX:∀b,ok b->b∉X):Sl ok w' v n cs:=h.E k hX
theorem kT{Y:List Nat}{a:World}(k:Keep Y w w')(h:Keep X a w)(hY:∀x∈Y,x<a.heap.size->x∈X):Keep X a w':=h.trans k hY
end
theorem mKp{p:Prop}(h:p:=by
  first
  |assumption|apply Keep.refl|(apply New.E;assumption)|(apply Put.E;assumption)|(apply New.D;assumption)|(apply Put.D;assumption)
  |(apply Blk.cell;assumption;rfl)|(apply Blk.cell;apply New.D;assumption;rfl)|(apply Blk.cell;apply Put.D;assumption;rfl)
  |(apply kB;exact mKk;exact mKp;exact mSx)|(apply Keep.cell;exact mKk;exact mKp;exact mSx)|(apply kC;exact mKk;exact mKp;exact mSx)|(apply kS;exact mKk;exact mKp;exact mSx)
  |(apply FAt.keep';exact mKk;exact mKp;exact mSx)|(apply FsAt.keep';exact mKk;exact mKp;exact mSx)|(apply RsAt.keep';exact mKk;exact mKp;exact mSx)|(apply SlAt.keep';exact mKk;exact mKp;exact mSx)|(apply PF.keep';exact mKk;exact mKp;exact mSx)
  |(apply kT;exact mKk;exact mKp;exact mSy)):p:=h
theorem mFa{S:World->Prop}{W:World}{a:Addr}{v:Value}(h:∀V,S V->V.cell? a=some v)(hW:S W):W.cell? a=some v:=h W hW
theorem mFs{S:World->Prop}{W:World}{b o:Nat}{cs:LV}(h:∀V,S V->Cells V b o cs)(hW:S W):Cells W b o cs:=h W hW
theorem mLk{p:Prop}(h:p:=by
  first
  |assumption
  |(apply Blk.cell;assumption;rfl)
  |(apply mFa;assumption;exact hW)
  |(apply hW.cell;assumption;simp;done)
  |(apply hW.cell;apply Blk.cell;assumption;rfl;simp;done)
  |exact mKp):p:=h
theorem mLs{p:Prop}(h:p:=by
  first
  |assumption
  |(apply Blk.cells;assumption)
  |(apply mFs;assumption;exact hW)
  |(apply hW.cells;assumption;simp;done)
  |exact mKp):p:=h
theorem mOo{p:Prop}(h:p:=by omega):p:=h
theorem mRr{p:Prop}(h:p:=by first|exact Bo mOo mOo|exact CD mOo mOo|exact Bn mOo mOo):p:=h
structure Bx(p:Prop):Prop where
  x:p
section
variable {P:Program}{all:Array Oper}{Z:Fr->DS->List PanicEntry->World->Prop}{K:Fr->DS->World->Prop}{rest:List Oper}{f:Fr}{ds:DS}{w:World}{d:Nat}{ty:TypeId}{pos:String}{af:Array Edge}{T U:TypeId}{x y:Operand}
abbrev W1(P:Program)(all:Array Oper)(Z:Fr->DS->List PanicEntry->World->Prop)(K:Fr->DS->World->Prop)(rest:List Oper)(f:Fr)(ds:DS)(w:World)(d:Nat)(ty:TypeId)(pos:String)(af:Array Edge)(o:Op):Prop:=AT P all Z K (⟨some d,o,ty,pos,af,none⟩::rest) f ds w
theorem g_move(h:W1 P all Z K rest f ds w d ty pos af (.move x)):AT P all Z K (⟨some d,.move x,ty,pos,af,none⟩::rest) f ds w:=h
theorem g_load(h:W1 P all Z K rest f ds w d ty pos af (.load T x)):AT P all Z K (⟨some d,.load T x,ty,pos,af,none⟩::rest) f ds w:=h
theorem g_bin{o:BinOp}(h:W1 P all Z K rest f ds w d ty pos af (.binOp o T x y U)):AT P all Z K (⟨some d,.binOp o T x y U,ty,pos,af,none⟩::rest) f ds w:=h
theorem g_idx(h:W1 P all Z K rest f ds w d ty pos af (.indexAddr T x y)):AT P all Z K (⟨some d,.indexAddr T x y,ty,pos,af,none⟩::rest) f ds w:=h
theorem g_slice{a b c:Option Operand}(h:W1 P all Z K rest f ds w d ty pos af (.slice T x a b c)):AT P all Z K (⟨some d,.slice T x a b c,ty,pos,af,none⟩::rest) f ds w:=h
end
theorem mO1{G N:Prop}(k:N)(h:Bx N->G:=by
  intro k
  first
  |(apply g_move
    first
    |(apply AS;rfl;exact k.x)
    |(apply AX;rfl;exact k.x)
    |(apply Ay;rfl;exact k.x)
    |(apply AE;rfl;exact k.x)
    |(apply BC;rfl;exact k.x)
    |(apply M_agg;rfl;exact k.x)
    |(apply M_tuple;rfl;exact k.x)
    |(apply M_func;rfl;exact k.x)
    |(apply M_map;rfl;exact k.x)
    |(apply Cq;exact k.x))
  |(apply AB;rfl;exact k.x)
  |(apply g_load
    first
    |(apply AH;rfl;exact mLk;exact k.x)
    |(apply A8;rfl;exact mKp;rfl;exact k.x)
    |(refine AQ rfl (by rfl) mLs ?_;exact k.x))
  |(apply AG;rfl;exact k.x)
  |(apply g_bin
    first
    |(apply C6;rfl;rfl;exact fun _=>k.x;exact fun hc=>absurd hc mOo)
    |(apply C6;rfl;rfl;exact fun hc=>absurd hc mOo;exact fun _=>k.x)
    |(apply Bf;rfl;rfl;exact fun _=>k.x;exact fun hc=>absurd mOo hc)
    |(apply Bf;rfl;rfl;exact fun hc=>absurd hc mOo;exact fun _=>k.x)
    |(apply W_add;rfl;rfl;exact mRr;exact k.x)
    |(apply W_neq;rfl;rfl;exact fun _=>k.x;exact fun hc=>absurd hc mOo)
    |(apply W_neq;rfl;rfl;exact fun hc=>absurd mOo hc;exact fun _=>k.x)
    |(apply W_sub;rfl;rfl;exact mRr;exact k.x)
    |(apply W_mul;rfl;rfl;exact mRr;exact k.x)
    |(apply Cp;rfl;rfl;exact fun _=>k.x;exact fun hc=>absurd hc mOo)
    |(apply Cp;rfl;rfl;exact fun hc=>absurd hc mOo;exact fun _=>k.x)
    |(apply W_gtr;rfl;rfl;exact fun _=>k.x;exact fun hc=>absurd hc mOo)
    |(apply W_gtr;rfl;rfl;exact fun hc=>absurd hc mOo;exact fun _=>k.x)
    |(apply W_geq;rfl;rfl;exact fun _=>k.x;exact fun hc=>absurd hc mOo)
    |(apply W_geq;rfl;rfl;exact fun hc=>absurd hc mOo;exact fun _=>k.x)
    |(apply W_beql;rfl;rfl;exact k.x)
    |(apply W_bneq;rfl;rfl;exact k.x)
    |(apply W_quo;rfl;rfl;exact mOo;exact mOo;exact mRr;exact k.x)
    |(apply W_rem;rfl;rfl;exact mOo;exact mOo;exact k.x))
  |(apply AO;exact k.x)
  |(apply g_idx
    first
    |(apply W_idx1;rfl;rfl;assumption;exact mOo;exact k.x)
    |(apply W_idx1;rfl;rfl;rfl;exact mOo;exact k.x)
    |(apply CG;rfl;rfl;assumption;exact mOo;exact k.x)
    |(apply CG;rfl;rfl;rfl;exact mOo;exact k.x)
    |(apply EH;rfl;rfl;exact mOo;exact mOo;exact k.x)
    |(apply Bt;rfl;rfl;exact mOo;exact mOo;exact k.x))
  |(apply Ae;rfl;exact k.x)
  |(apply Ad;rfl;exact k.x)
  |(apply Bi;rfl;exact k.x)
  |(apply Cz;rfl;exact k.x)
  |(apply DU;rfl;rfl;exact k.x)
  |(apply W_not;rfl;exact k.x)
  |(apply EC;rfl;rfl;exact k.x)
  |(apply BO;rfl;rfl;exact k.x)
  |(apply W_buildArr;rfl;rfl;exact k.x)
  |(apply W_conv;rfl;exact mRr;exact k.x)
  |(apply Db;exact k.x)
  |(apply g_slice
    first
    |(apply W_slice_arr;rfl;exact k.x)
    |(apply W_slice_lh;rfl;rfl;rfl;exact mOo;exact mOo;exact mOo;exact k.x)
    |(apply W_slice_l;rfl;rfl;exact mOo;exact mOo;exact k.x)
    |(apply W_slice_h;rfl;rfl;exact mOo;exact mOo;exact k.x)
    |(apply W_sslice_lh;rfl;rfl;rfl;exact mOo;exact mOo;exact k.x)
    |(apply W_sslice_l;rfl;rfl;exact mOo;exact k.x)
    |(apply W_sslice_h;rfl;rfl;exact mOo;exact k.x))
  |(apply Dm;rfl;rfl;assumption;exact k.x)
  |(refine Dm (j:=0) rfl rfl (by assumption) ?_;exact k.x)):G:=h ⟨k⟩
theorem go{G N:Prop}(k:N)(h:Bx N->G:=by
  intro k
  repeat' first
    |(apply nx;rfl)
    |(apply nf;rfl)
    |apply AJ
    |(apply D_R;rfl;rfl
      ·intro W hW
       try subst hW
       repeat' first|(apply AK;rfl)|(apply Ah;rfl)|exact AA ⟨rfl,rfl,rfl⟩|refine mO1 ?_)
    |apply Bc
    |(apply AK;rfl)
    |(apply Ah;rfl)
    |refine mO1 ?_
    |(apply D5;rfl;rfl;rfl;rfl;intro _;rotate_left;exact fun hc=>absurd hc mOo)
    |(apply D5;rfl;rfl;rfl;rfl;exact fun hc=>absurd hc mOo;intro _)
    |(apply D_leq;rfl;rfl;rfl;rfl;intro _;rotate_left;exact fun hc=>absurd hc mOo)
    |(apply D_leq;rfl;rfl;rfl;rfl;exact fun hc=>absurd hc mOo;intro _)
    |(apply D_gtr;rfl;rfl;rfl;rfl;intro _;rotate_left;exact fun hc=>absurd hc mOo)
    |(apply D_gtr;rfl;rfl;rfl;rfl;exact fun hc=>absurd hc mOo;intro _)
    |(apply D_geq;rfl;rfl;rfl;rfl;intro _;rotate_left;exact fun hc=>absurd hc mOo)
    |(apply D_geq;rfl;rfl;rfl;rfl;exact fun hc=>absurd hc mOo;intro _)
    |(apply D_eql;rfl;rfl;rfl;rfl;intro _;rotate_left;exact fun hc=>absurd mOo hc)
    |(apply D_eql;rfl;rfl;rfl;rfl;exact fun hc=>absurd hc mOo;intro _)
    |(apply D_neq;rfl;rfl;rfl;rfl;intro _;rotate_left;exact fun hc=>absurd hc mOo)
    |(apply D_neq;rfl;rfl;rfl;rfl;exact fun hc=>absurd mOo hc;intro _)
  exact k.x):G:=h ⟨k⟩
section
variable {mk:Prop}[MK mk]
def A5(c:UInt8):Bool:=decide (97<=c.toNat)&&decide (c.toNat<=122)
def isUp(c:UInt8):Bool:=decide (65<=c.toNat)&&decide (c.toNat<=90)
def Au(c:UInt8):Bool:=decide (48<=c.toNat)&&decide (c.toNat<=57)
def Ch(c:UInt8):Bool:=A5 c||isUp c
def BD(c:UInt8):Bool:=A5 c||Au c||decide (c.toNat=95)
def BQ(c:UInt8):Bool:= !decide (c.toNat=10)
inductive Fml where
 |mk (op:Int) (name:LU) (val bound:Int) (args:List Fml)
def Fml.op:Fml->Int| .mk o _ _ _ _=>o
def Fml.name:Fml->LU| .mk _ n _ _ _=>n
def Fml.val:Fml->Int| .mk _ _ v _ _=>v
def Fml.bound:Fml->Int| .mk _ _ _ b _=>b
def Fml.args:Fml->List Fml| .mk _ _ _ _ a=>a
def Am:Fml:=⟨0,[],0,0,[]⟩
structure Sgn where
 name:LU
 input:Bool
 size:Int
structure Rqm where
 part:LU
 name:LU
 kind:Int
 formula:Fml
structure Spc where
 sigs:List Sgn
 reqs:List Rqm
structure Edt where
 kind:Int
 req:Rqm
def keysL:List (LU):=[[105,110,112,117,116],[111,117,116,112,117,116],[112,97,114,116],[97,115,115,117,109,101],[103,117,97,114,97,110,116,101,101],[116,114,117,101],[102,97,108,115,101],[97,100,100],[100,114,111,112],[114,101,112,108,97,99,101]]
def restB(c:UInt8):Bool:=A5 c||Au c||decide (c.toNat=95)
def BH(s:LU):Bool:=
 decide (1<=s.length)&&decide (s.length<=12)&&A5 (s.getD 0 0)&&s.all restB&& !decide (s∈keysL)
def nodeF(op:Int)(l:List Fml):Fml:=match l with
 | [a]=>a
 |l=>⟨op,[],0,0,l⟩
def isF(s:LU)(n:Int):Fml:=⟨3,s,n,0,[]⟩
def notF(f:Fml):Fml:=⟨4,[],0,0,[f]⟩
abbrev LF:=List Fml
def Test(g:FuncId)(p:UInt8->Bool):Prop:=∀(c:UInt8)(w:World),Fn Zp g [enc8 c] w fun v X=>v=.bool (p c)/\X=w
theorem small_ok:Test 278 A5:=by
 intro c w;refine AN Tryz.func278 rfl Tryz.ntmps278 ?_;repeat refine nx rfl ?_
 refine AJ (AO (AE rfl ?_));repeat refine nx rfl ?_
 (refine AJ (AS rfl ?_)<;>(refine Cp rfl rfl (fun T=>?_) (fun T=>?_)<;>try omega)<;>refine AE rfl ?_<;>(first|refine Ah rfl ?_|(refine AK rfl ?_;refine AS rfl ?_))<;>(first|refine Ah rfl ?_|(refine AK rfl ?_;(refine Cp rfl rfl (fun T=>?_) (fun T=>?_)<;>try omega)))<;>((first|refine Ae rfl ?_|refine Ad rfl ?_);refine AE rfl ?_)<;>refine AO (AE rfl (AA ?_)))
 all_goals
  repeat refine nx rfl ?_
  exact AC rfl ⟨by simp[A5,upd,Nat.beq];omega,rfl⟩
theorem dig_ok:Test 279 Au:=by
 intro c w;refine AN Tryz.func279 rfl Tryz.ntmps279 ?_;repeat refine nx rfl ?_
 refine AJ (AO (AE rfl ?_));repeat refine nx rfl ?_
 (refine AJ (AS rfl ?_)<;>(refine Cp rfl rfl (fun T=>?_) (fun T=>?_)<;>try omega)<;>refine AE rfl ?_<;>(first|refine Ah rfl ?_|(refine AK rfl ?_;refine AS rfl ?_))<;>(first|refine Ah rfl ?_|(refine AK rfl ?_;(refine Cp rfl rfl (fun T=>?_) (fun T=>?_)<;>try omega)))<;>((first|refine Ae rfl ?_|refine Ad rfl ?_);refine AE rfl ?_)<;>refine AO (AE rfl (AA ?_)))
 all_goals
  repeat refine nx rfl ?_
  exact AC rfl ⟨by simp[Au,upd,Nat.beq];omega,rfl⟩
theorem comm_ok:Test 276 BQ:=by
 intro c w;refine AN Tryz.func276 rfl Tryz.ntmps276 ?_;repeat refine nx rfl ?_
 refine AJ (AO (AE rfl ?_));repeat refine nx rfl ?_
 (refine AJ (AS rfl ?_)<;>(refine W_neq rfl rfl (fun T=>?_) (fun T=>?_)<;>try omega)<;>refine AO (AE rfl (AA ?_)))
 all_goals
  repeat refine nx rfl ?_
  exact AC rfl ⟨by simp[BQ,upd,Nat.beq];omega,rfl⟩
theorem let_ok:Test 281 Ch:=by
 intro c w;refine AN Tryz.func281 rfl Tryz.ntmps281 (go ?_);refine AF (small_ok c w) rfl ?_;rintro v X⟨rfl,rfl⟩;cases hs:A5 c with
 |true=>
  refine go ?_
  all_goals
   refine go ?_;exact AC rfl ⟨by simp[Ch,hs,upd,Nat.beq],rfl⟩
 |false=>
  (refine AE rfl (AK rfl (AS rfl ?_))<;>(refine AK rfl ?_;(refine Cp rfl rfl (fun T=>?_) (fun T=>?_)<;>try omega))<;>refine AK rfl (AE rfl ?_)<;>(first|refine Ah rfl ?_|(refine AK rfl ?_;refine AS rfl ?_))<;>(first|refine Ah rfl ?_|(refine AK rfl ?_;(refine Cp rfl rfl (fun T=>?_) (fun T=>?_)<;>try omega)))<;>(refine AK rfl ?_;((first|refine Ae rfl ?_|refine Ad rfl ?_);refine AE rfl ?_))<;>refine Ad rfl (AE rfl (AO (AE rfl (AA ?_)))))
  all_goals
   repeat refine nx rfl ?_
   exact AC rfl ⟨by simp[Ch,hs,isUp,upd,Nat.beq];omega,rfl⟩
theorem name_ok:Test 277 BD:=by
 intro c w;refine AN Tryz.func277 rfl Tryz.ntmps277 (go ?_);refine AF (small_ok c w) rfl ?_;rintro v X⟨rfl,rfl⟩;cases hs:A5 c with
 |true=>
  refine go ?_
  all_goals
   refine go ?_;exact AC rfl ⟨by simp[BD,hs,upd,Nat.beq],rfl⟩
 |false=>
  refine go ?_;refine AF (dig_ok c _) rfl ?_;rintro v X⟨rfl,rfl⟩;cases hd:Au c with
  |true=>
   refine go ?_
   all_goals
    refine go ?_;exact AC rfl ⟨by simp[BD,hs,hd,upd,Nat.beq],rfl⟩
  |false=>
   (refine Ad rfl (AE rfl (AE rfl (AK rfl (AS rfl ?_))))<;>(refine AK rfl ?_;(refine Bf rfl rfl (fun T=>?_) (fun T=>?_)<;>try omega))<;>refine Ad rfl (AE rfl (AO (AE rfl (AA ?_)))))
   all_goals
    repeat refine nx rfl ?_
    exact AC rfl ⟨by simp[BD,hs,hd,upd,Nat.beq];omega,rfl⟩
def CC(t s:LU):Bool:=decide (s.length<=t.length)&&decide (t.take s.length=s)
theorem DL(t s:LU):CC t s=true↔s<+:t:=by
 simp only[CC,Bool.and_eq_true,decide_eq_true_eq,List.prefix_iff_eq_take];constructor
 ·rintro⟨_,h⟩;exact h.symm
 ·intro h;exact⟨by have:=congrArg List.length h;simp at this;omega,h.symm⟩
theorem pre2_ok(t s:LU)(w:World):Fn Zp 316 [AL t,AL s] w fun v w'=>v=.bool (CC t s)/\w'=w:=by
 refine AN Tryz.func316 rfl Tryz.ntmps316 ?_;repeat refine nx rfl ?_
 refine AJ (AO (AE rfl ?_));repeat refine nx rfl ?_
 (refine AJ (BC rfl (Cz rfl (BC rfl (Cz rfl ?_))))<;>(refine W_geq rfl rfl (fun T=>?_) (fun T=>?_)<;>try omega)<;>refine AE rfl ?_<;>(first|refine Ah rfl ?_|(refine AK rfl ?_;refine BC rfl ?_))<;>(first|refine Ah rfl ?_|(refine AK rfl ?_;refine BC rfl ?_))<;>(first|refine Ah rfl ?_|(refine AK rfl ?_;refine Cz rfl ?_))<;>(first|refine Ah rfl ?_|(refine AK rfl ?_;refine W_sslice_h rfl rfl U ?_))<;>(first|refine Ah rfl ?_|(refine AK rfl ?_;refine BC rfl ?_))<;>(first|refine Ah rfl ?_|(refine AK rfl ?_;refine Bg rfl rfl (fun T=>?_) (fun T=>?_)))<;>((first|refine Ae rfl ?_|refine Ad rfl ?_);refine AE rfl ?_)<;>refine AO (AE rfl (AA ?_)))
 all_goals
  refine go ?_;exact AC rfl ⟨by simp[CC,upd,Nat.beq];first|omega|(intro;omega)|(intro h;exact absurd h ER)|exact⟨by omega,by assumption⟩|skip,rfl⟩
theorem pre_ok(t s:LU)(w:World):Fn Zp 282 [AL t,AL s] w fun v w'=>v=.bool (CC t s)/\w'=w:=by
 refine AN Tryz.func282 rfl Tryz.ntmps282 (go ?_);refine AF (pre2_ok t s w) rfl ?_;rintro v w'⟨rfl,rfl⟩;exact FW
abbrev pt(s:Nat):Value:=.pointer (sm s)
theorem An{w:World}{B e size n g:Nat}{v:Value}{xs:LV}(h:w.ownsRow B e size v n xs)(a:v.ownBlock=some g):B<=g/\g<w.heap.size:=by
 rcases h.2 with⟨rfl,_⟩|⟨b,E,G,rfl,Z,W,_⟩
 ·cases a
 ·cases a;exact⟨Z,(Array.getElem?_eq_some_iff.1 W).1⟩
inductive FAt(ok:Nat->Prop)(w:World):Value->Fml->Prop where
 |mk (op:Int) (name:LU) (val bound:Int) (args:LF) (av:Value) (L:List (LV)) (hS:Sl ok w av args.length L.flatten) (hL:L.length=args.length) (h5:∀c∈L,c.length=5)
  (hA:∀(i:Nat)(c:LV)(g:Fml),L[i]?=some c->args[i]?=some g->FAt ok w (.agg c.toArray) g):FAt ok w (.agg #[iV op,AL name,iV val,iV bound,av]) ⟨op,name,val,bound,args⟩
theorem FAt.E{ok:Nat->Prop}{X:List Nat}{w w':World}{v:Value}{f:Fml}(h:FAt ok w v f)(k:Keep X w w')(a:∀b,ok b->b∉X):FAt ok w' v f:=by
 induction h with
 |mk op name val bound args av L hS hL h5 hA ih=>exact .mk op name val bound args av L (hS.E k a) hL h5 ih
theorem FAt.ext{ok:Nat->Prop}{w w':World}{v:Value}{f:Fml}(h:FAt ok w v f)(k:Ext w w'):FAt ok w' v f:=h.E k fun _ _=>by simp
theorem FAt.mono{ok ok':Nat->Prop}{w:World}{v:Value}{f:Fml}(h:FAt ok w v f)(a:∀b,ok b->ok' b):FAt ok' w v f:=by
 induction h with
 |mk op name val bound args av L hS hL h5 hA ih=>exact .mk op name val bound args av L (hS.mono a) hL h5 ih
theorem Sl.lt{ok:Nat->Prop}{w:World}{v:Value}{n:Nat}{cs:LV}(h:Sl ok w v n cs)(T:n≠0->cs≠[]):Sl (fun b=>ok b/\b<w.heap.size) w v n cs:=by
 obtain⟨a,E,p,Z,W,R,B⟩:=h;refine⟨a,E,p,Z,W,R,?_⟩;by_cases t:n=0
 ·exact .inl t
 ·obtain⟨b,k,D,S,r⟩:=B.resolve_left t;refine .inr ⟨b,k,D,⟨S,?_⟩,r⟩
  match cs,T t with
  |u::cs,_=>exact World.block_lt_of_cell? w _ (r 0 u rfl)
theorem flatten_ne{L:List (LV)}{n:Nat}(K:L.length=n)(d:∀c∈L,c.length=5):n≠0->L.flatten≠[]:=by
 intro t e
 match L,K with
 | [],K=>exact t K.symm
 |c::L,_=>
  have:=d c O;simp at e;simp[e.1]at this
theorem FAt.lt{ok:Nat->Prop}{w:World}{v:Value}{f:Fml}(h:FAt ok w v f):FAt (fun b=>ok b/\b<w.heap.size) w v f:=by
 induction h with
 |mk op name val bound args av L hS hL h5 hA ih=>exact .mk op name val bound args av L (hS.lt (flatten_ne hL h5)) hL h5 ih
theorem FAt.form{ok:Nat->Prop}{w:World}{v:Value}{f:Fml}(h:FAt ok w v f):∃W,v=.agg #[iV f.op,AL f.name,iV f.val,iV f.bound,W]/\
  ∃L:List (LV),Sl ok w W f.args.length L.flatten/\L.length=f.args.length/\(∀c∈L,c.length=5)/\∀(i:Nat)(c:LV)(g:Fml),L[i]?=some c->f.args[i]?=some g->FAt ok w (.agg c.toArray) g:=by
 cases h with
 |mk op name val bound args W L hS hL h5 hA=>exact⟨W,rfl,L,hS,hL,h5,hA⟩
theorem FAt.leaf(ok:Nat->Prop)(w:World)(op:Int)(a:LU)(d b:Int):FAt ok w (.agg #[iV op,AL a,iV d,iV b,.slice none 0 0]) ⟨op,a,d,b,[]⟩:=
 .mk op a d b [] _ [] ⟨none,0,rfl,by simp,by omega,fun _=>rfl,.inl rfl⟩ rfl (fun c T=>by cases T) (fun i c g h=>by simp at h)
def FsAt(ok:Nat->Prop)(w:World)(L:List (LV))(l:LF):Prop:=
 L.length=l.length/\(∀c∈L,c.length=5)/\∀(i:Nat)(c:LV)(g:Fml),L[i]?=some c->l[i]?=some g->FAt ok w (.agg c.toArray) g
theorem FsAt.nil(ok:Nat->Prop)(w:World):FsAt ok w [] []:=⟨rfl,(fun c T=>by cases T),fun i c g h=>by simp at h⟩
theorem FsAt.cons{ok:Nat->Prop}{w:World}{c:LV}{f:Fml}{L:List (LV)}{l:LF}(h:FAt ok w (.agg c.toArray) f)(T:c.length=5)(K:FsAt ok w L l):FsAt ok w (c::L) (f::l):=by
 refine⟨by simp[K.1],fun d C=>?_,fun i d g H a=>?_⟩
 ·rcases List.mem_cons.1 C with rfl|C
  ·exact T
  ·exact K.2.1 d C
 ·cases i with
  |zero=>simp at H a;subst H a;exact h
  |succ i=>exact K.2.2 i d g Es Eo
theorem FsAt.snoc{ok:Nat->Prop}{w:World}{c:LV}{f:Fml}:∀{L:List (LV)}{l:LF},FsAt ok w L l->FAt ok w (.agg c.toArray) f->c.length=5->FsAt ok w (L++[c]) (l++[f])
 | [],[],_,h,T=>FsAt.cons h T (FsAt.nil ok w)
 | [],_::_,hl,_,_=>by have:=hl.1;simp at this
 |_::_,[],hl,_,_=>by have:=hl.1;simp at this
 |d::L,g::l,hl,h,T=>FsAt.cons (hl.2.2 0 d g rfl rfl) (hl.2.1 d O) (FsAt.snoc ⟨by simpa using hl.1,fun c T=>hl.2.1 c Eb,fun i c g H a=>hl.2.2 (i+1) c g Es Eo⟩ h T)
theorem FsAt.E{ok:Nat->Prop}{X:List Nat}{w w':World}{L:List (LV)}{l:LF}(h:FsAt ok w L l)(k:Keep X w w')(a:∀b,ok b->b∉X):FsAt ok w' L l:=
 ⟨h.1,h.2.1,fun i c g H d=>(h.2.2 i c g H d).E k a⟩
theorem FsAt.mono{ok ok':Nat->Prop}{w:World}{L:List (LV)}{l:LF}(h:FsAt ok w L l)(d:∀b,ok b->ok' b):FsAt ok' w L l:=
 ⟨h.1,h.2.1,fun i c g H a=>(h.2.2 i c g H a).mono d⟩
theorem FsAt.lt{ok:Nat->Prop}{w:World}{L:List (LV)}{l:LF}(h:FsAt ok w L l):FsAt (fun b=>ok b/\b<w.heap.size) w L l:=
 ⟨h.1,h.2.1,fun i c g H a=>(h.2.2 i c g H a).lt⟩
theorem FsAt.flat{ok:Nat->Prop}{w:World}{L:List (LV)}{l:LF}(h:FsAt ok w L l):L.flatten.length=l.length*5:=by
 obtain⟨Z,W,R⟩:=h;rw[<-Z];clear Z R
 induction L with
 |nil=>rfl
 |cons c L ih=>
  have:=W c O;have:=ih fun d C=>W d (by simp[C]);simp only[List.flatten_cons,List.length_append,List.length_cons];omega
theorem FAt.node{ok:Nat->Prop}{w:World}{W:Value}{L:List (LV)}{l:LF}(op:Int)(c:LU)(a b:Int)(d:Sl ok w W l.length L.flatten)(h:FsAt ok w L l):
  FAt ok w (.agg #[iV op,AL c,iV a,iV b,W]) ⟨op,c,a,b,l⟩:=.mk op c a b l W L d h.1 h.2.1 h.2.2
theorem FAt.cells{ok:Nat->Prop}{w:World}{v:Value}{f:Fml}(h:FAt ok w v f):∃c:LV,v=.agg c.toArray/\c.length=5/\oneC c:=by
 obtain⟨W,rfl,L,l,_⟩:=h.form;obtain⟨a,E,rfl,_⟩:=l;refine⟨_,rfl,rfl,?_⟩;intro u g;simp at g;rcases g with rfl|rfl|rfl|rfl|rfl<;>rfl
def zero5:LV:=[iV 0,AL [],iV 0,iV 0,.slice none 0 0]
theorem Cv:(madeCells (Value.agg #[iV 0,AL [],iV 0,iV 0,.slice none 0 0]).cells (1*5)).toList=zero5:=by kernel_rfl
theorem made10:(madeCells (Value.agg #[iV 0,AL [],iV 0,iV 0,.slice none 0 0]).cells (2*5)).toList=zero5++zero5:=by kernel_rfl
theorem FsAt.fresh{ok:Nat->Prop}{w w':World}{e:TypeId}{L:List (LV)}{l:LF}(n:New w w' e L.flatten)(h:FsAt ok w L l)(S:ok w.heap.size)(K:l.length<=1000000):
  Sl ok w' (.slice (sm w.heap.size) l.length l.length) l.length L.flatten/\FsAt ok w' L l:=
 ⟨⟨_,_,rfl,Nat.le_refl _,by omega,(fun h=>by cases h),.inr ⟨_,_,rfl,S,n.D.cells⟩⟩,h.E n.E fun _ _=>by simp⟩
theorem FsAt.one{ok:Nat->Prop}{w:World}{c:LV}{f:Fml}(h:FAt ok w (.agg c.toArray) f)(T:c.length=5):FsAt ok w [c] [f]:=FsAt.cons h T (FsAt.nil ok w)
theorem FsAt.two{ok:Nat->Prop}{w:World}{c d:LV}{f g:Fml}(h:FAt ok w (.agg c.toArray) f)(a:c.length=5)(T:FAt ok w (.agg d.toArray) g)(C:d.length=5):FsAt ok w [c,d] [f,g]:=FsAt.cons h a (FsAt.one T C)
theorem FsAt.ext{ok:Nat->Prop}{w w':World}{L:List (LV)}{l:LF}(h:FsAt ok w L l)(k:Ext w w'):FsAt ok w' L l:=h.E k fun _ _=>by simp
theorem flatten_at:∀(L:List (LV))(k j:Nat)(c:LV)(v:Value),(∀c∈L,c.length=5)->L[k]?=some c->c[j]?=some v->L.flatten[k*5+j]?=some v
 | [],k,j,c,v,_,h,_=>by simp at h
 |d::L,0,j,c,v,h5,h,hv=>by
  simp at h;subst h;rw[List.flatten_cons,Nat.zero_mul,Nat.zero_add,List.getElem?_append_left (List.getElem?_eq_some_iff.1 hv).1];exact hv
 |d::L,k+1,j,c,v,h5,h,hv=>by
  have C:=h5 d O;rw[List.flatten_cons,List.getElem?_append_right U,C,show(k+1)*5+j-5=k*5+j by omega];exact flatten_at L k j c v (fun c T=>h5 c Eb) Ed hv
theorem Sl.fml{ok:Nat->Prop}{w:World}{a:Option Addr}{n cap k:Nat}{L:List (LV)}{c:LV}(h:Sl ok w (.slice a n cap) n L.flatten)(d:∀c∈L,c.length=5)(e:L[k]?=some c)(I:k<n):
  ∃b o,a=some ⟨b,o,none⟩/\ok b/\Cells w b (o+k*5) c:=by
 obtain⟨Z,V,p,f,W,R,B⟩:=h;cases p;obtain⟨b,o,rfl,S,T⟩:=B.resolve_left U;refine⟨b,o,rfl,S,fun j v p=>?_⟩;have:=T _ _ (flatten_at L k j c v d e p)
 rwa [<-Nat.add_assoc]at this
def fresh(w:World):Nat->Prop:=fun b=>w.heap.size<=b
theorem Ak{cs:LV}(h:cs.length=5):∃n B Q S a,cs=[n,B,Q,S,a]:=by
 match cs,h with
 | [n,B,Q,S,a],_=>exact⟨_,_,_,_,_,rfl⟩
end
end Go.Proofs.YtjbocjodncbogaaGreatDoor
