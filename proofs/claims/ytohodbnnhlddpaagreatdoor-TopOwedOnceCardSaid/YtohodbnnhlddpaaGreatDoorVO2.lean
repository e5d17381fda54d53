/- TopOwedOnce, part 2 of 14: rules, lemmas, walks. Conditions: none. -/
import Derived.Test.YtohodbnnhlddpaaGreatDoorVO1
import Derived.RangeFuncIn
import Derived.Laws.IdiomStrings
import Derived.ChangeKeysEq
import Derived.Maps.RangeRun
import Derived.KernelRfl
import Derived.Test.YtohodbnnhlddpaaGreatDoorRows
import Derived.RecoverIn
namespace Go.Proofs.YtohodbnnhlddpaaGreatDoor
open Go.RowKit
set_option linter.unusedVariables false
noncomputable abbrev Zp:=Tryz.prog
section
variable {mk:Prop}[MK mk]
attribute [local semireducible] WC AT Bo BI Bj Cw DV Be
variable {P:Program}{all:Array Oper}{Z:Fr->DS->List PanicEntry->World->Prop}{K:Fr->DS->World->Prop}{rest:List Oper}{f:Fr}{ds:DS}{w:World}
 {d:Nat}{ty:TypeId}{pos:String}{af:Array Edge}
def Lp(w:World)(l n:Nat)(ps:List Nat)(h body:Code)(f:Fr)(D:LoopState)(X:Option Code):Prop:=
 ∃fn a y,w.heap[l]?=some (.loop ⟨D,X,fn,a,ps.toArray,h,body,y⟩)/\a.size=n/\CV {tmps:=a,defers:=[]}=f
theorem Lp.lt{l n:Nat}{ps:List Nat}{a body:Code}{D:LoopState}{X:Option Code}(h:Lp w l n ps a body f D X):l<w.heap.size:=by
 obtain⟨_,_,_,h,_⟩:=h;exact(Array.getElem?_eq_some_iff.1 h).1
theorem Lp.E{X:List Nat}{w':World}{l n:Nat}{ps:List Nat}{a body:Code}{D:LoopState}{c:Option Code}(h:Lp w l n ps a body f D c)(k:Keep X w w')(M:l∉X):Lp w' l n ps a body f D c:=by
 have B:=h.lt;obtain⟨fn,g,y,e,W⟩:=h;exact⟨fn,g,y,(k.block l B M).trans e,W⟩
theorem run_getLoop{l:Nat}{r:Loop}(h:w.heap[l]?=some (.loop r)):(Instr.getLoop l).run P w=.ok r w:=by
 simp[Instr.getLoop,getObj,Sem.run,h]
def setO(w:World)(l:Nat)(o:Obj):World:={w with heap:=w.heap.setIfInBounds l o}
theorem run_setLoop{l:Nat}{r:Loop}(o:Obj)(h:w.heap[l]?=some (.loop r)):(setObj l o).run P w=.ok () (setO w l o):=by
 simp[setObj,Sem.run,h,setO]
theorem setO_other(l:Nat)(o:Obj)(k:Nat)(a:k≠l):(setO w l o).heap[k]?=w.heap[k]?:=by
 simp only[setO];rw[Array.getElem?_setIfInBounds_ne (by simpa[eq_comm]using a)]
theorem setO_keep(l:Nat)(o:Obj)(j:∀c t a,o≠ .cells c t a):Keep [l] w (setO w l o):=by
 refine⟨rfl,rfl,rfl,by simp[setO],fun k _ i=>setO_other l o k (by simpa using i),fun _=>mark_put (g:=l) (by simp[setO]) (setO_other l o) fun c t a e=>?_,Nat.le_refl _⟩;by_cases h:l<w.heap.size
 ·have:(setO w l o).heap[l]?=some o:=by simp[setO,h]
  rw[this]at e;cases e;exact absurd rfl (j c t a)
 ·rw[Array.getElem?_eq_none (by simp[setO];omega)]at e;cases e
theorem setO_size(l:Nat)(o:Obj):(setO w l o).heap.size=w.heap.size:=by simp[setO]
theorem setO_get{l:Nat}(o:Obj)(h:l<w.heap.size):(setO w l o).heap[l]?=some o:=by simp[setO,h]
def YldP(P:Program)(L:Value)(args:LV)(w:World)(R:Value->World->Prop)(Z:List PanicEntry->World->Prop):Prop:=
 ∃y g a h body c,L=.func (.yield y) #[] #[]/\(Instr.yield y args.toArray).run P w=.ok (.round y g a h body) c/\
  RoundIn Fence.wide 0 P y g a h body c fun e p=>match e with| .returned v=>R v p| .panicked ch=>Z ch p| .outgrown=>False
theorem YldP.mono{L:Value}{args:LV}{R i:Value->World->Prop}{Y S:List PanicEntry->World->Prop}(h:YldP P L args w R Y)(x:∀v w',R v w'->i v w')(o:∀m w',Y m w'->S m w'):YldP P L args w i S:=by
 obtain⟨y,g,c,a,body,j,X,W,Q⟩:=h;refine⟨y,g,c,a,body,j,X,W,RoundIn.mono Q fun e w' F=>?_⟩;cases e with
 |returned v=>exact x v w' F
 |panicked m=>exact o m w' F
 |outgrown=>exact F
theorem W_yieldP{t:Nat}{L:Value}{xs:List Operand}{B:Array TypeId}{vs:LV}{R:Value->World->Prop}{Y:List PanicEntry->World->Prop}
  (c:f t=L)(I:evL f xs=vs)(V:YldP P L vs w R Y)(h:∀v w',R v w'->AT P all Z K rest (upd f d v) ds w')(o:∀m w',Y m w'->Z f ds m w'):
  AT P all Z K (⟨some d,.call ⟨.value (.tmp t),xs.toArray,B⟩,ty,pos,af,none⟩::rest) f ds w:=by
 obtain⟨y,g,i,a,body,j,rfl,W,Q⟩:=V
 have x:(execOp (ev f) ⟨some d,.call ⟨.value (.tmp t),xs.toArray,B⟩,ty,pos,af,none⟩).run P w=.ok (.round y g i a body) j:=by
  rw[evL_map]at I;simp only[execOp,resolve,ev,c,Deferred.ofValue,Sem.run_bind,Sem.run_pure,Result.andThen_ok,invoke];simp[I,W]
 unfold AT;simp only[BH,if_true,Be,x];refine RoundIn.mono Q fun e w' F=>?_;cases e with
 |returned v=>exact h v w' F
 |panicked m=>exact o m w' F
 |outgrown=>exact F
theorem W_yield{t:Nat}{L:Value}{xs:List Operand}{B:Array TypeId}{vs:LV}{R:Value->World->Prop}
  (a:f t=L)(I:evL f xs=vs)(V:YldP P L vs w R fun _ _=>False)(h:∀v w',R v w'->AT P all Z K rest (upd f d v) ds w'):
  AT P all Z K (⟨some d,.call ⟨.value (.tmp t),xs.toArray,B⟩,ty,pos,af,none⟩::rest) f ds w:=W_yieldP a I V h fun _ _ h=>h.elim
def ovz:List (Nat×Value)->Fr->Fr
 | [],f=>f
 |(t,v)::l,f=>ovz l (upd f t v)
theorem size_sets:∀(l:List (Nat×Value))(tmps:Array Value),(l.foldl (fun tmps(p:Nat×Value)=>tmps.setIfInBounds p.1 p.2) tmps).size=tmps.size
 | [],_=>rfl
 |_::l,tmps=>by rw[List.foldl_cons,size_sets l];simp
theorem toFr_sets:∀(l:List (Nat×Value))(tmps:Array Value),(∀p∈l,p.1<tmps.size)->
  CV {tmps:=l.foldl (fun tmps(p:Nat×Value)=>tmps.setIfInBounds p.1 p.2) tmps,defers:=[]}=ovz l (CV {tmps:=tmps,defers:=[]})
 | [],_,_=>rfl
 |(t,v)::l,tmps,h=>by
  rw[List.foldl_cons,toFr_sets l _ (by intro p c;rw[Array.size_setIfInBounds];exact h p (by simp[c]))];simp only[ovz]
  congr 1
  exact toFr_put (a:={tmps:=tmps,defers:=[]}) (d:=t) v (h (t,v) O)
def rndQ(l n:Nat)(ps:List Nat)(h body:Code)(m:Fr)(R:Value->World->Prop):DY
 | .normal=>fun _ _ w=>(∃D c,Lp w l n ps h body m D c)/\∀a,Keep [l] w a->a.heap.size=w.heap.size->Lp a l n ps h body m .ready none->R (.bool true) a
 | .ret=>fun _ _ w=>(∃D c,Lp w l n ps h body m D c)/\∀a,Keep [l] w a->a.heap.size=w.heap.size->Lp a l n ps h body m .done (some .ret)->R (.bool false) a
 | .exit i=>fun _ _ w=>(∃D c,Lp w l n ps h body m D c)/\∀a,Keep [l] w a->a.heap.size=w.heap.size->Lp a l n ps h body m .done (some (.exit i))->R (.bool false) a
 |_=>fun _ _ _=>False
def asnQ(k:Fr->DS->World->Prop):DY
 | .normal=>k
 |_=>fun _ _ _=>False
theorem run_endRound{l n:Nat}{ps:List Nat}{c body:Code}{m:Fr}{D:LoopState}{e:Option Code}(a:Option Code)(h:Lp w l n ps c body m D e):
  ∃w',(Instr.endRound l a).run P w=.ok (.bool a.isNone) w'/\Keep [l] w w'/\w'.heap.size=w.heap.size/\Lp w' l n ps c body m (if a.isNone then .ready else .done) a:=by
 have B:=h.lt;obtain⟨fn,g,y,X,W,Q⟩:=h;refine⟨setO w l _,?_,setO_keep l _ (fun _ _ _ h=>by cases h),setO_size l _,fn,g,y,setO_get _ B,W,Q⟩;simp only[Instr.endRound,Sem.run_bind,run_getLoop X,Result.andThen_ok,run_setLoop _ X,Sem.run_pure]
theorem run_beginRound{l n:Nat}{ps:List Nat}{a body:Code}{m:Fr}{c:Option Code}(h:Lp w l n ps a body m .ready c):
  ∃w',(Instr.beginRound l).run P w=.ok () w'/\Keep [l] w w'/\w'.heap.size=w.heap.size/\Lp w' l n ps a body m .busy c:=by
 have B:=h.lt;obtain⟨fn,e,y,X,W,Q⟩:=h;refine⟨setO w l _,?_,setO_keep l _ (fun _ _ _ h=>by cases h),setO_size l _,fn,e,y,setO_get _ B,W,Q⟩;simp only[Instr.beginRound,Sem.run_bind,run_getLoop X,Result.andThen_ok,run_setLoop _ X,Sem.run_pure]
theorem yld_of_wc{l n:Nat}{ps:List Nat}{r body:Code}{m:Fr}{pd:Option Code}{args:LV}{R:Value->World->Prop}{Y:List PanicEntry->World->Prop}(M:Lp w l n ps r body m .ready pd)
  (hp:args.length=ps.length)(a1:ps.all (fun t=>Nat.blt t n)=true)(c:(CW n true r&&CW n true body)=true)
  (h:WC P ⟨n,some l⟩ r (asnQ fun C o w'=>Lp w' l n ps r body m .ready none/\∀L,Keep [l] w' L->L.heap.size=w'.heap.size->(∃D a3,Lp L l n ps r body m D a3)->WC P ⟨n,some l⟩ body (rndQ l n ps r body m R) C o L) (ovz (ps.zip args) m) [] w):
  YldP P (.func (.yield l) #[] #[]) args w R Y:=by
 obtain⟨fn,q,a4,X,W,Q⟩:=M;have a2:¬args.toArray.size≠ps.toArray.size:=by simp[hp]
 refine⟨l,fn,((ps.zip args).foldl (fun q(p:Nat×Value)=>q.setIfInBounds p.1 p.2) q),r,body,w,rfl,?_,?_⟩
 ·simp only[Instr.yield,Sem.run_bind,run_getLoop X,Result.andThen_ok,if_neg a2,Sem.run_pure]
  congr 2
  rw[<-Array.foldl_toList];simp
 ·simp only[Bool.and_eq_true]at c;refine RoundIn.mono (R:=endR R Y) (roundIn_of_wpIn (F:=Fence.wide) trivial ?_) (fun e a5 N=>by cases e<;>exact N);have T:(ps.zip args).foldl (fun q(p:Nat×Value)=>q.setIfInBounds p.1 p.2) q=(ps.zip args).foldl (fun q(p:Nat×Value)=>q.setIfInBounds p.1 p.2) q:=rfl;have H:Fence.wide.inRound l=rnd (some l):=rfl;rw[H]
  refine wpIn_mono (CE (P:=P) (n:=⟨n,some l⟩) r _ _ w ?_ c.1 (by
   rw[toFr_sets,Q]
   ·exact h
   ·intro p a0;have:=List.all_eq_true.1 a1 p.1 (List.of_mem_zip a0).1;rw[W];simpa[Nat.blt_eq]using this)) ?_
  ·simp only[size_sets];exact W
  ·intro e a w' T;obtain⟨G,T⟩:=T;cases e with
   |normal=>
    obtain⟨hr,S⟩:=T;obtain⟨L,I,z,k,j⟩:=run_beginRound (P:=P) hr;refine⟨L,I,?_⟩;refine wpIn_mono (CE (P:=P) (n:=⟨n,some l⟩) body _ a L G c.2 (S L z k ⟨_,_,j⟩)) ?_;intro e a' w3 T;obtain⟨_,T⟩:=T;cases e with
    |normal=>
     obtain⟨⟨D,B,g⟩,y⟩:=T;obtain⟨s,x,A,E,V⟩:=run_endRound (P:=P) none g;exact⟨_,s,x,y s A E V⟩
    |ret=>
     obtain⟨⟨D,B,g⟩,y⟩:=T;obtain⟨s,x,A,E,V⟩:=run_endRound (P:=P) (some .ret) g;exact⟨_,s,x,y s A E V⟩
    |exit i=>
     obtain⟨⟨D,B,g⟩,y⟩:=T;obtain⟨s,x,A,E,V⟩:=run_endRound (P:=P) (some (.exit i)) g;exact⟨_,s,x,y s A E V⟩
    |goto _=>exact T.elim
    |panic _=>exact T.elim
    |outgrown=>exact T.elim
   |_=>exact T.elim
def behind(Q:DY)(f:Fr)(ds:DS)(w:World):Option Code->Prop
 |none=>Q .normal f ds w
 |some .ret=>Q .ret f ds w
 |some (.exit i)=>Q (.exit i) f ds w
 |_=>False
theorem run_endLoop{l n:Nat}{ps:List Nat}{c body:Code}{m:Fr}{D:LoopState}{a:Option Code}(e:(D== .busy)=false)(h:Lp w l n ps c body m D a):
  ∃w',(Instr.endLoop l).run P w=.ok a w'/\Keep [l] w w'/\w'.heap.size=w.heap.size:=by
 obtain⟨fn,g,y,X,W,Q⟩:=h;refine⟨setO w l (.loop ⟨.exhausted,a,fn,g,ps.toArray,c,body,y⟩),?_,setO_keep l _ (fun _ _ _ h=>by cases h),setO_size l _⟩;simp only[Instr.endLoop,Sem.run_bind,run_getLoop X,Result.andThen_ok,e,Bool.false_eq_true,if_false,run_setLoop _ X,Sem.run_pure]
theorem C_rangeFunc{n:Nat}{Q:DY}{g:Operand}{ps:List Nat}{q body:Code}{p:FuncId}{v1 v2:LV}[hg:AF P p](hv:ev f g=.func (.func p) v1.toArray v2.toArray)
  (h:∀j,Ext w j->j.heap.size=w.heap.size+2->j.heap[w.heap.size]?=some (.deferred (some []))->Lp j (w.heap.size+1) n ps q body f .ready none->
   FnP P p (v1++[.func (.yield (w.heap.size+1)) #[] #[]]++v2) j
    (fun _ r=>∃D l,Lp r (w.heap.size+1) n ps q body f D l/\(D== .busy)=false/\
     ∀s,Keep [w.heap.size+1] r s->s.heap.size=r.heap.size->behind Q f ({target:=.collected w.heap.size,args:=#[]}::ds) s l)
    (fun m r=>Q (.panic m) f ({target:=.collected w.heap.size,args:=#[]}::ds) r)):
  WC P ⟨n,none⟩ (.rangeFunc g ps.toArray q body) Q f ds w:=by
 rintro a G rfl rfl;obtain⟨fn,H,I,L⟩:=hg.out;refine wpIn_rangeFunc fun N _=>?_;have x:=ev_toFr a
 let j:World:=(w.alloc (.deferred (some []))).alloc (.loop ⟨.ready,none,N,a.tmps,ps.toArray,q,body,w.heap.size⟩)
 have k1:Ext w j:=⟨rfl,rfl,rfl,by simp[j];omega,fun k y _=>by
  have:=heap_alloc_old w (.deferred (some [])) y;rw[<-this]
  exact heap_alloc_old _ _ Dw,fun _ b S=>mark_new (w:=w.alloc (.deferred (some []))) (by simp[j]) (fun k y=>heap_alloc_old _ _ y) (fun c t C e=>by rw[heap_alloc_new]at e;cases e) b fun _=>
   mark_new (w:=w) O (fun k y=>heap_alloc_old _ _ y) (fun c t C e=>by rw[heap_alloc_new]at e;cases e) b S,Nat.le_refl _⟩
 have s1:j.heap.size=w.heap.size+2:=by simp[j]
 have B:j.heap[w.heap.size]?=some (.deferred (some [])):=by
  have:=heap_alloc_new w (.deferred (some []));rw[<-this];exact heap_alloc_old _ _ O
 have l1:j.heap[w.heap.size+1]?=some (.loop ⟨.ready,none,N,a.tmps,ps.toArray,q,body,w.heap.size⟩):=by
  have:=heap_alloc_new (w.alloc (.deferred (some []))) (.loop ⟨.ready,none,N,a.tmps,ps.toArray,q,body,w.heap.size⟩);simpa[j]using this
 refine⟨w.heap.size+1,[{target:=.collected w.heap.size,args:=#[]}],j,{target:=.fn (.func p) v2.toArray,args:=v1.toArray++ #[Value.func (.yield (w.heap.size+1)) #[] #[]]},j,p,(v1++[Value.func (.yield (w.heap.size+1)) #[] #[]]++v2).toArray,j,?_,?_,fun _ _=>trivial,?_,rnd_depth,?_⟩
 ·have z:∀o(w:World),(newObj o).run P w=.ok w.heap.size (w.alloc o):=fun _ _=>rfl;simp only[Instr.enterLoop,rnd,Sem.run_bind,z,Sem.run_pure,Result.andThen_ok,j];simp
 ·rw[x];have W:∀v,ev (CV a) (.const v)=v:=fun _=>rfl;simp[resolve,hv,W,Deferred.ofValue]
 ·simp only[invoke,callFunc,program];simp[Sem.run,H,I,L]
 ·have hf:=h j k1 s1 B ⟨N,a.tmps,_,l1,G,rfl⟩;have V:CallsIn Fence.wide (0-1) P p _ j _:=callsIn_wide.2 hf;refine CallsIn.mono (F:=rnd none) V fun e r x=>?_;cases e with
  |returned v=>
   obtain⟨D,l,X,M,T⟩:=x;obtain⟨s,z,A,E⟩:=run_endLoop (P:=P) M X;refine⟨l,s,z,?_⟩;have S:=T s A E;cases l with
   |none=>exact⟨G,S⟩
   |some c=>
    cases c with
    |ret=>exact wpIn_ret ⟨G,S⟩
    |exit i=>exact wpIn_exit ⟨G,S⟩
    |_=>exact S.elim
  |panicked m=>exact⟨G,x⟩
  |outgrown=>exact x.elim
def rndA(l:Nat)(g e:World->Prop)(c:Code->World->Prop)(R:Value->World->Prop):DY
 | .normal=>fun _ _ w=>e w/\∀a,Keep [l] w a->a.heap.size=w.heap.size->g a->R (.bool true) a
 | .ret=>fun _ _ w=>e w/\∀a,Keep [l] w a->a.heap.size=w.heap.size->c .ret a->R (.bool false) a
 | .exit i=>fun _ _ w=>e w/\∀a,Keep [l] w a->a.heap.size=w.heap.size->c (.exit i) a->R (.bool false) a
 |_=>fun _ _ _=>False
theorem Q_asn{k:Fr->DS->World->Prop}(h:k f ds w):asnQ k .normal f ds w:=h
theorem Q_rnd{l:Nat}{a e:World->Prop}{c:Code->World->Prop}{R:Value->World->Prop}(S:e w)(h:∀w',Keep [l] w w'->w'.heap.size=w.heap.size->a w'->R (.bool true) w'):rndA l a e c R .normal f ds w:=⟨S,h⟩
theorem Q_rnd_ret{l:Nat}{c e:World->Prop}{a:Code->World->Prop}{R:Value->World->Prop}(S:e w)(h:∀w',Keep [l] w w'->w'.heap.size=w.heap.size->a .ret w'->R (.bool false) w'):rndA l c e a R .ret f ds w:=⟨S,h⟩
theorem Q_rnd_exit{l i:Nat}{c e:World->Prop}{a:Code->World->Prop}{R:Value->World->Prop}(S:e w)(h:∀w',Keep [l] w w'->w'.heap.size=w.heap.size->a (.exit i) w'->R (.bool false) w'):rndA l c e a R (.exit i) f ds w:=⟨S,h⟩
structure Loops(P:Program)(n l:Nat)(ps:List Nat)(asn body:Code)(f:Fr)(Rdy Bsy:World->Prop)(Don:Code->World->Prop):Prop where
 rdy:∀{X:List Nat}{w w':World},Rdy w->Keep X w w'->l∉X->Rdy w'
 bsy:∀{X:List Nat}{w w':World},Bsy w->Keep X w w'->l∉X->Bsy w'
 don:∀{X:List Nat}{w w':World}{c:Code},Don c w->Keep X w w'->l∉X->Don c w'
 lt:∀{w:World},Rdy w->l<w.heap.size
 nocell:∀{w:World},Rdy w->∀o,w.cell? ⟨l,o,none⟩=none
 round:∀{args:LV}{R:Value->World->Prop}{Y:List PanicEntry->World->Prop}{w:World},Rdy w->args.length=ps.length->
  WC P ⟨n,some l⟩ asn (asnQ fun f' ds' w'=>Rdy w'/\∀w2,Keep [l] w' w2->w2.heap.size=w'.heap.size->Bsy w2->WC P ⟨n,some l⟩ body (rndA l Rdy Bsy Don R) f' ds' w2) (ovz (ps.zip args) f) [] w->
  YldP P (.func (.yield l) #[] #[]) args w R Y
theorem C_range{n:Nat}{Q:DY}{g:Operand}{ps:List Nat}{k body:Code}{p:FuncId}(v1 v2:LV)[hg:AF P p](q:ev f g=.func (.func p) v1.toArray v2.toArray)
  (z:(ps.all (fun t=>Nat.blt t n)&&(CW n true k&&CW n true body))=true)
  (h:∀(s B:World->Prop)(A:Code->World->Prop)(m:World),Loops P n (w.heap.size+1) ps k body f s B A->Ext w m->m.heap.size=w.heap.size+2->m.heap[w.heap.size]?=some (.deferred (some []))->s m->
   Fn P p (v1++[.func (.yield (w.heap.size+1)) #[] #[]]++v2) m
    (fun _ r=>(s r/\∀j,Keep [w.heap.size+1] r j->j.heap.size=r.heap.size->Q .normal f ({target:=.collected w.heap.size,args:=#[]}::ds) j)\/
     ∃c,A c r/\∀j,Keep [w.heap.size+1] r j->j.heap.size=r.heap.size->behind Q f ({target:=.collected w.heap.size,args:=#[]}::ds) j (some c))):
  WC P ⟨n,none⟩ (.rangeFunc g ps.toArray k body) Q f ds w:=by
 simp only[Bool.and_eq_true]at z;refine C_rangeFunc q fun m F H C G=>?_
 refine FnP.mono (h (fun i=>Lp i (w.heap.size+1) n ps k body f .ready none) (fun i=>∃D l,Lp i (w.heap.size+1) n ps k body f D l) (fun c i=>Lp i (w.heap.size+1) n ps k body f .done (some c)) m
  ⟨fun a b c=>a.E b c,fun⟨D,l,a⟩ b c=>⟨D,l,a.E b c⟩,fun a b c=>a.E b c,fun a=>a.lt,(fun a o=>by obtain⟨_,_,_,e,_⟩:=a;simp[World.cell?,e]),fun{args R Y i}hr hl hw=>?_⟩ F H C G) ?_ (fun _ _ E=>E.elim)
 ·have e:rndA (w.heap.size+1) (fun i=>Lp i (w.heap.size+1) n ps k body f .ready none) (fun i=>∃D l,Lp i (w.heap.size+1) n ps k body f D l) (fun c i=>Lp i (w.heap.size+1) n ps k body f .done (some c)) R=rndQ (w.heap.size+1) n ps k body f R:=by
   funext e;cases e<;>rfl
  rw[e]at hw;refine yld_of_wc hr hl z.1 (by rw[Bool.and_eq_true];exact z.2) ?_;exact hw
 ·rintro v r (⟨a,b⟩|⟨c,a,b⟩)
  ·exact⟨_,_,a,rfl,fun j x y=>b j x y⟩
  ·exact⟨_,_,a,rfl,fun j x y=>b j x y⟩
theorem DB{g:FuncId}{fn:Func}{c:Code}{args:LV}{R:Value->World->Prop}(a:P.funcs[g]?=some fn)(S:fn.body=some c){n:Nat}(G:fn.ntmps=n)(M:args.length<=n)(e:CW n false c=true)
  (h:WC P ⟨n,none⟩ c (DV P fn R fun _ _=>False) (argF args) [] w):Fn P g args w R:=fnD_of_wc a S G M e h
theorem takeDeferred_ok{b:Nat}(h:w.heap[b]?=some (.deferred (some []))):∃w',(Instr.takeDeferred b).run P w=.ok [] w'/\Keep [b] w w'/\w'.heap.size=w.heap.size:=by
 refine⟨setO w b (.deferred none),?_,setO_keep b _ (fun _ _ _ h=>by cases h),setO_size b _⟩;simp[Instr.takeDeferred,getObj,setObj,Sem.run,h,setO]
section
variable {fn:Func}{R:Value->World->Prop}{Y:List PanicEntry->World->Prop}{t u v b:Nat}
theorem finD_ret1(x:fn.results.toList=[.tmp t])(h:R (f t) w):DV P fn R Y .ret f [] w:=by
 simp only[DV,lv,x];exact h
theorem B0{a:Array Value}(S:w.heap[b]?=some (.deferred (some [])))(h:∀w',Keep [b] w w'->w'.heap.size=w.heap.size->DV P fn R Y .ret f ds w'):DV P fn R Y .ret f ({target:=.collected b,args:=a}::ds) w:=by
 obtain⟨w',X,W,Q⟩:=takeDeferred_ok (P:=P) S;simp only[DV];refine⟨by simp,.inl ⟨b,w',rfl,X,h w' W Q⟩⟩
end
attribute [irreducible] asnQ rndA rndQ YldP
end
section
variable {mk:Prop}[MK mk]
attribute [local semireducible] WC AT Bo BI Bj Cw DV Be
variable {P:Program}{all:Array Oper}{Z:Fr->DS->List PanicEntry->World->Prop}{K:Fr->DS->World->Prop}{rest:List Oper}{f:Fr}{ds:DS}{w:World}
 {d:Nat}{ty:TypeId}{pos:String}{af:Array Edge}
end
section
variable {mk:Prop}[MK mk]
attribute [local semireducible] WC AT Bo BI Bj Cw DV Be
variable {P:Program}{all:Array Oper}{Z:Fr->DS->List PanicEntry->World->Prop}{K:Fr->DS->World->Prop}{rest:List Oper}{f:Fr}{ds:DS}{w:World}
 {d:Nat}{ty:TypeId}{pos:String}{af:Array Edge}
theorem Bp{T p:TypeId}{a:Operand}{b n:Nat}{L:LV}[hT:AggT P T n](I:ev f a=.pointer (sm b))(S:Blk w b p L)(M:L.length=n)
  (h:AT P all Z K rest (upd f d (.agg L.toArray)) ds w):AT P all Z K (⟨some d,.load T a,ty,pos,af,none⟩::rest) f ds w:=AQ I M S.cells h
class BoolT (P:Program) (T:TypeId):Prop where
 out:P.underlying T=some .bool
theorem run_equal_bool{T:TypeId}[hT:BoolT P T](a b:Bool):(Op.equal T (.bool a) (.bool b)).run P w=.ok (a==b) w:=by
 unfold Op.equal;rw[show Op.maxDepth=9999+1 from rfl,run_equalIn_bool' w 9999 T a b hT.out]
theorem W_beql{T C:TypeId}{x y:Operand}{a b:Bool}[hT:BoolT P T](c:ev f x=.bool a)(F:ev f y=.bool b)(h:AT P all Z K rest (upd f d (.bool (a==b))) ds w):AT P all Z K (⟨some d,.binOp .eql T x y C,ty,pos,af,none⟩::rest) f ds w:=by
 refine Aw rfl ?_ h;simp[execOp,c,F,eqGuard,binOp,run_equal_bool]
theorem W_bneq{T C:TypeId}{x y:Operand}{a b:Bool}[hT:BoolT P T](c:ev f x=.bool a)(F:ev f y=.bool b)(h:AT P all Z K rest (upd f d (.bool (a !=b))) ds w):AT P all Z K (⟨some d,.binOp .neq T x y C,ty,pos,af,none⟩::rest) f ds w:=by
 refine Aw rfl ?_ h;simp[execOp,c,F,eqGuard,binOp,run_equal_bool,bne]
end
section
variable {mk:Prop}[MK mk]
open Go.ChangeMaps (setBlock)
attribute [local semireducible] WC AT Bo BI Bj Cw DV Be
variable {P:Program}{all:Array Oper}{Z:Fr->DS->List PanicEntry->World->Prop}{K:Fr->DS->World->Prop}{rest:List Oper}{f:Fr}{ds:DS}{w:World}
 {d:Nat}{ty:TypeId}{pos:String}{af:Array Edge}
class SMapT (P:Program) (T:TypeId) (z:outParam Value):Prop where
 out:∃kt et i,P.underlying T=some (.map kt et)/\P.underlying kt=some .string/\P.info? et=some i/\i.zero=some z
theorem smapT_of{T c b:TypeId}{z:Value}(X:P.underlying T=some (.map c b))(W:P.underlying c=some .string)(Q:(P.info? b).map (·.zero)=some (some z)):SMapT P T z:=by
 obtain⟨i,H,o⟩:=Option.map_eq_some_iff.1 Q;exact⟨c,b,i,X,W,H,o⟩
def encS(p:LU×Value):Value×Value:=(AK p.1,p.2)
theorem strV_inj{a b:LU}(h:AK a=AK b):a=b:=by simpa using h
def rdS(e:MapEntry):Value×Value:=(e.key,e.val)
def SMap(w:World)(r:Nat)(L:List (LU×Value)):Prop:=
 ∃a T,w.heap[r]?=some (.map a T)/\MapKept.Stamped a T/\a.toList.map rdS=L.map encS
theorem SMap.lt{r:Nat}{L:List (LU×Value)}(h:SMap w r L):r<w.heap.size:=by
 obtain⟨a,c,X,_⟩:=h;exact(Array.getElem?_eq_some_iff.1 X).1
theorem SMap.E{X:List Nat}{w':World}{r:Nat}{L:List (LU×Value)}(h:SMap w r L)(k:Keep X w w')(x:r∉X):SMap w' r L:=by
 obtain⟨a,c,b,W,Q⟩:=id h;exact⟨a,c,(k.block r h.lt x).trans b,W,Q⟩
theorem keys_str{a:List MapEntry}{L:List (LU×Value)}(h:a.map rdS=L.map encS):∀x∈a,MapKept.IsKey .string x.key:=by
 intro x T;have:rdS x∈L.map encS:=by rw[<-h];exact List.mem_map.2 ⟨x,T,rfl⟩
 obtain⟨p,_,e⟩:=List.mem_map.1 this;have:x.key=AK p.1:=(congrArg Prod.fst e).symm;rw[this];trivial
theorem slookup_none{L:List (LU×Value)}{x:LU}(h:∀p∈L,p.1≠x):L.lookup x=none:=by
 induction L with
 |nil=>rfl
 |cons q L ih=>
  exact Fw
theorem slookup_at{L:List (LU×Value)}(G:(L.map (·.1)).Nodup){p:LU×Value}(v:p∈L):L.lookup p.1=some p.2:=by
 induction L with
 |nil=>cases v
 |cons q L ih=>
  simp only[List.map_cons,List.nodup_cons]at G;obtain⟨a,b⟩:=q;rcases List.mem_cons.1 v with rfl|v
  ·simp[List.lookup]
  ·exact GE
theorem nodup_str{r:Nat}{L:List (LU×Value)}(h:SMap w r L):(L.map (·.1)).Nodup:=by
 obtain⟨g,c,_,⟨_,_,W⟩,Q⟩:=h
 have e:g.toList.map (·.key)=L.map (fun p=>AK p.1):=by
  have:=congrArg (List.map Prod.fst) Q;simpa[rdS,encS,List.map_map,Function.comp_def]using this
 rw[e]at W;have z:((L.map (·.1)).map (fun x=>AK x)).Nodup:=by rw[List.map_map];exact W
 exact List.Pairwise.of_map _ (fun a b i e=>i (by rw[e])) z
theorem find_str{c:TypeId}{L:List (LU×Value)}(h:P.underlying c=some .string){a:Array MapEntry}(y:a.toList.map rdS=L.map encS)(G:(L.map (·.1)).Nodup)(x:LU)(w:World):
  (L.lookup x=none/\(Instr.findKey c (AK x) a.toList).run P w=.ok none w/\∀e∈a.toList,e.key≠AK x)\/
  ∃i v,L.lookup x=some v/\(Instr.findKey c (AK x) a.toList).run P w=.ok (some (i,v)) w:=by
 have o:∀(i:Nat)(e:MapEntry),a.toList[i]?=some e->∃p,L[i]?=some p/\e.key=AK p.1/\e.val=p.2:=by
  exact FH
 rcases MapKept.findNow_spec (d:=.string) (k:=AK x) trivial a.toList 0 (keys_str y)with⟨X,W⟩|⟨j,e,X,W,Q⟩
 ·refine .inl ⟨slookup_none fun p g B=>?_,MapKept.run_findKey h X,W⟩;obtain⟨i,H⟩:=List.getElem?_of_mem g;have:=congrArg (fun l=>l[i]?) y;simp only[List.getElem?_map,H,Option.map_some]at this;obtain⟨e,F,A⟩:=Option.map_eq_some_iff.1 this;refine W e (List.mem_of_getElem? F) ?_;rw[show e.key=AK p.1 from congrArg Prod.fst A,B]
 ·obtain⟨p,g,b,A⟩:=o j e W;rw[Q]at b;have T:=strV_inj b;refine .inr ⟨j,p.2,?_,?_⟩
  ·rw[T];exact slookup_at G (List.mem_of_getElem? g)
  ·have:=MapKept.run_findKey (P:=P) (w:=w) h X;rw[this,A,Nat.zero_add]
theorem W_makeMapS{T:TypeId}(h:∀w',Ext w w'->w'.heap.size=w.heap.size+1->SMap w' w.heap.size []->AT P all Z K rest (upd f d (.map (some w.heap.size))) ds w'):
  AT P all Z K (⟨some d,.makeMap T none,ty,pos,af,none⟩::rest) f ds w:=by
 refine Aw (v:=.map (some w.heap.size)) (w':=w.alloc (.map #[] 0)) rfl ?_ (h _ ⟨rfl,rfl,rfl,by simp,fun k a _=>heap_alloc_old w _ a,fun _=>mark_new O (fun k a=>heap_alloc_old w _ a) (fun c t b e=>by rw[heap_alloc_new]at e;cases e),Nat.le_refl _⟩ O ⟨#[],0,heap_alloc_new w _,MapKept.stamped_empty 0,rfl⟩);have x:(Instr.makeMap T none).run P w=.ok (.map (some w.heap.size)) (w.alloc (.map #[] 0)):=rfl;simp[execOp,x]
theorem W_lookup2S{T:TypeId}{m k:Operand}{r:Nat}{x:LU}{z:Value}{L:List (LU×Value)}[hT:SMapT P T z](g:ev f m=.map (some r))(e:ev f k=AK x)(a:SMap w r L)
  (h:AT P all Z K rest (upd f d (.tuple #[(L.lookup x).getD z,.bool (L.lookup x).isSome])) ds w):AT P all Z K (⟨some d,.lookup T m k true,ty,pos,af,none⟩::rest) f ds w:=by
 obtain⟨c,n,i,X,W,Q,p⟩:=hT.out;have G:=nodup_str a;obtain⟨l,s,S,D,q⟩:=a;refine Aw rfl ?_ h;have y:=MapKept.run_checkKey (P:=P) (w:=w) (k:=AK x) W trivial l.isEmpty 9999;have o:(zeroValue n).run P w=.ok z w:=by simp[zeroValue,typeInfo,Q,p]
 rcases find_str W q G x w with⟨b,A,_⟩|⟨j,v,b,A⟩
 ·simp[execOp,g,e,Instr.lookup,run_underlying X,MapKept.run_getObj_map S,y,A,o,b]
 ·simp[execOp,g,e,Instr.lookup,run_underlying X,MapKept.run_getObj_map S,y,A,b]
theorem setBlkS_keep{w:World}{r:Nat}{l:Obj}(R:∀c t a,l≠ .cells c t a):Keep [r] w {w with heap:=w.heap.setIfInBounds r l}:=
 ⟨rfl,rfl,rfl,by simp,fun k _ b=>by simp[Ne.symm (show k≠r by simpa using b)],fun _=>mark_obj R,Nat.le_refl _⟩
theorem Ce{T:TypeId}{m k v:Operand}{r:Nat}{x:LU}{y z:Value}{L:List (LU×Value)}[hT:SMapT P T z](t:ev f m=.map (some r))(s:ev f k=AK x)(q:ev f v=y)(e:SMap w r L)(n:L.lookup x=none)
  (h:∀w',Keep [r] w w'->w'.heap.size=w.heap.size->SMap w' r (L++[(x,y)])->AT P all Z K rest f ds w'):AT P all Z K (⟨none,.insert T m k v,ty,pos,af,none⟩::rest) f ds w:=by
 obtain⟨c,u,i,X,W,Q,B⟩:=hT.out;have G:=nodup_str e;obtain⟨o,a,S,D,g⟩:=e;have p:=MapKept.run_checkKey (P:=P) (w:=w) (k:=AK x) W trivial false 9999;rcases find_str W g G x w with⟨b,A,E⟩|⟨j,l,b,A⟩
 ·refine W_skp (w':={w with heap:=w.heap.setIfInBounds r (.map (o.push {key:=AK x,val:=y,born:=a}) (a+1))}) rfl ?_ (h _ (setBlkS_keep fun _ _ _ h=>by cases h) O ⟨_,_,(MapKept.heap_set S).1,MapKept.stamped_push D E,?_⟩)
  ·simp[execOp,t,s,q,Instr.mapUpdate,run_underlying X,MapKept.run_getObj_map S,p,A,MapKept.run_setObj_map _ S]
  ·rw[Array.toList_push,List.map_append,g];simp[rdS,encS]
 ·rw[b]at n;cases n
end
section
variable {mk:Prop}[MK mk]
variable {P:Program}{T:TypeId}
theorem Ax{n:Nat}(h:(P.info? T).map (·.size)=some n):BU P T n:=by
 obtain⟨i,H,D⟩:=Option.map_eq_some_iff.1 h;exact⟨i,H,D⟩
theorem Ci{n:Nat}{d:TypeDesc}(a:P.underlying T=some d)(C:aggD d=true)(h:(P.info? T).map (·.size)=some n):AggT P T n:=by
 obtain⟨i,H,D⟩:=Option.map_eq_some_iff.1 h;exact⟨⟨d,a,C⟩,i,H,D⟩
theorem A4{z:Value}{L:LV}(h:(P.info? T).map (·.zero)=some (some z))(o:z.cells=L.toArray):Bf P T L:=by
 obtain⟨i,H,D⟩:=Option.map_eq_some_iff.1 h;exact⟨i,z,H,D,o⟩
theorem Cx{e size F:Nat}{z:Value}(n:P.underlying T=some (.slice e))(h:(P.info? e).map (fun i=>(i.zero,i.size,i.bytes))=some (some z,size,F)):SlT P T e size F z:=by
 obtain⟨i,H,a⟩:=Option.map_eq_some_iff.1 h;simp only[Prod.mk.injEq]at a;exact⟨n,i,H,a.1,a.2.1,a.2.2⟩
theorem arrT_of{l e size:Nat}(n:P.underlying T=some (.array l e))(h:(P.info? e).map (·.size)=some size):ArrT P T l e size:=by
 obtain⟨i,H,D⟩:=Option.map_eq_some_iff.1 h;exact⟨n,i,H,D⟩
theorem AZ{i p:Nat}{H:TypeId}{k:Array Field}{G:Field}{s:Nat}(n:P.underlying T=some (.struct k))(K:k[i]?=some G)(R:G.offset=p)(a:G.type=H)(h:(P.info? H).map (·.size)=some (s+1)):Ar P T i p H:=by
 obtain⟨j,z,D⟩:=Option.map_eq_some_iff.1 h;exact⟨k,G,n,K,R,a,j,z,by omega⟩
theorem AC{g:FuncId}{fn:Func}(X:P.funcs[g]?=some fn)(W:(fn.name== "runtime.NumGoroutine")=false:=by kernel_rfl)(Q:fn.body.isNone=false:=by kernel_rfl):AF P g:=by
 refine⟨fn,X,fun e=>?_,fun e=>?_⟩
 ·rw[e]at W;simp at W
 ·rw[e]at Q;simp at Q
theorem places_run:∀(k:List Field)(B:List (Nat×Nat)),k.map (fun f=>(f.offset,(P.info? f.type).map (·.size)))=B.map (fun p=>(p.1,some p.2))->
  ∀w,(k.mapM (m:=Sem) fun f=>do pure (f.offset,<-sizeOf f.type)).run P w=.ok B w
 | [],[],_,w=>by simp
 | [],_::_,h,_=>by simp at h
 |_::_,[],h,_=>by simp at h
 |f::k,p::B,h,w=>by
  simp only[List.map_cons,List.cons.injEq,Prod.mk.injEq]at h;obtain⟨⟨X,W⟩,Q⟩:=h;obtain⟨i,H,D⟩:=Option.map_eq_some_iff.1 W;have b:=places_run k B Q w;have a:(sizeOf f.type).run P w=.ok p.2 w:=by simp[sizeOf,typeInfo,H,D]
  simp only[List.mapM_cons,Sem.run_bind,a,Sem.run_pure,Result.andThen_ok];rw[b];simp[X]
theorem CN{k:Array Field}{z:Value}{B:List (Nat×Nat)}{zero:LV}(n:P.underlying T=some (.struct k))(h:(P.info? T).map (·.zero)=some (some z))(o:z.cells=zero.toArray)
  (v:k.toList.map (fun f=>(f.offset,(P.info? f.type).map (·.size)))=B.map (fun p=>(p.1,some p.2))):StT P T B zero:=by
 obtain⟨i,H,D⟩:=Option.map_eq_some_iff.1 h;refine⟨k,i,z,n,H,D,o,fun w=>?_⟩;have:=places_run k.toList B v w;rw[Array.mapM_eq_mapM_toList];have y:∀(x:Sem (List (Nat×Nat))),(Functor.map List.toArray x:Sem (Array (Nat×Nat)))=x >>= fun l=>pure l.toArray:=fun _=>rfl;rw[y,Sem.run_bind,this];simp
end
section
variable {mk:Prop}[MK mk]
attribute [local semireducible] WC AT Bo BI Bj Cw DV Be
section
variable {P:Program}{all:Array Oper}{Z:Fr->DS->List PanicEntry->World->Prop}{K:Fr->DS->World->Prop}{rest:List Oper}{f:Fr}{ds:DS}{w:World}
 {d:Nat}{ty:TypeId}{pos:String}{af:Array Edge}
theorem AM{x:Operand}{a:Addr}(T:ev f x=.pointer (some a))(h:AT P all Z K rest (upd f d (.pointer (some a))) ds w):
  AT P all Z K (⟨some d,.nilCheck x,ty,pos,af,none⟩::rest) f ds w:=
 Aw rfl (by simp[execOp,T]) h
theorem W_sidx{a:TypeId}{x i:Operand}{k:IntKind}{s:LU}{j:Nat}{c:UInt8}[hT:StrT P a](T:ev f x=AK s)(H:ev f i=.int k (j:Int))(V:s[j]?=some c)(h:AT P all Z K rest (upd f d (enc8 c)) ds w):
  AT P all Z K (⟨some d,.index a x i,ty,pos,af,none⟩::rest) f ds w:=
 W_sindex T H U (by simpa using V) h
theorem bytes_extract(s:LU)(l h:Nat):(⟨s.toArray⟩:ByteArray).extract l h=⟨((s.take h).drop l).toArray⟩:=by
 apply ByteArray.ext;simp[ByteArray.data_extract,List.drop_take]
theorem W_sslice_lh{c:TypeId}{x b H:Operand}{k A:IntKind}{s:LU}{l a:Nat}[hT:StrT P c](T:ev f x=AK s)(M:ev f b=.int k (l:Int))(g:ev f H=.int A (a:Int))(X:l<=a)(W:a<=s.length)
  (h:AT P all Z K rest (upd f d (AK ((s.take a).drop l))) ds w):AT P all Z K (⟨some d,.slice c x (some b) (some H) none,ty,pos,af,none⟩::rest) f ds w:=by
 refine Aw (v:=AK ((s.take a).drop l)) rfl ?_ h;have e:(⟨s.toArray⟩:ByteArray).size=s.length:=by simp[ByteArray.size]
 have D:(0:Int)<=(l:Int)/\(l:Int)<=(a:Int):=by omega
 have B:(0:Int)<=(a:Int)/\(a:Int)<=((s.length:Nat):Int):=by omega
 simp only[execOp,T,M,g,Option.map_some,Option.map_none,Instr.sliceAt,Sem.run_bind,run_underlying hT.out,Result.andThen_ok,Instr.slice,Instr.sliceBounds,Instr.sliceBound,asIntOf,Sem.run_pure,e];simp[B,D,bytes_extract,X,W]
theorem W_sslice_l{b:TypeId}{x a:Operand}{k:IntKind}{s:LU}{l:Nat}[hT:StrT P b](T:ev f x=AK s)(M:ev f a=.int k (l:Int))(X:l<=s.length)
  (h:AT P all Z K rest (upd f d (AK (s.drop l))) ds w):AT P all Z K (⟨some d,.slice b x (some a) none none,ty,pos,af,none⟩::rest) f ds w:=by
 refine Aw (v:=AK (s.drop l)) rfl ?_ h;have e:(⟨s.toArray⟩:ByteArray).size=s.length:=by simp[ByteArray.size]
 simp only[execOp,T,M,Option.map_some,Option.map_none,Instr.sliceAt,Sem.run_bind,run_underlying hT.out,Result.andThen_ok,Instr.slice,Instr.sliceBounds,Instr.sliceBound,asIntOf,Sem.run_pure,e];simp[bytes_extract,X]
theorem W_sslice_h{a:TypeId}{x H:Operand}{k:IntKind}{s:LU}{l:Nat}[hT:StrT P a](T:ev f x=AK s)(M:ev f H=.int k (l:Int))(X:l<=s.length)
  (h:AT P all Z K rest (upd f d (AK (s.take l))) ds w):AT P all Z K (⟨some d,.slice a x none (some H) none,ty,pos,af,none⟩::rest) f ds w:=by
 refine Aw (v:=AK (s.take l)) rfl ?_ h;have e:(⟨s.toArray⟩:ByteArray).size=s.length:=by simp[ByteArray.size]
 simp only[execOp,T,M,Option.map_some,Option.map_none,Instr.sliceAt,Sem.run_bind,run_underlying hT.out,Result.andThen_ok,Instr.slice,Instr.sliceBounds,Instr.sliceBound,asIntOf,Sem.run_pure,e];simp[bytes_extract,X]
theorem W_vidx1{T l e:Nat}{x i:Operand}{k:IntKind}{L:LV}{j:Nat}{v:Value}[hT:ArrT P T l e 1][he:Ck P e](m:ev f x=.agg L.toArray)(H:ev f i=.int k (j:Int))(z:j<l)(g:L[j]?=some v)
  (h:AT P all Z K rest (upd f d v) ds w):AT P all Z K (⟨some d,.index T x i,ty,pos,af,none⟩::rest) f ds w:=by
 refine Aw rfl ?_ h;obtain⟨q,b,D⟩:=hT.out;obtain⟨Q,X,W⟩:=he.out
 have I:(isAgg e).run P w=.ok false w:=by
  simp only[isAgg,Sem.run_bind,run_underlying X,Result.andThen_ok];cases Q<;>simp_all [aggD]
 have a:(part e L.toArray j).run P w=.ok v w:=by
  simp only[part,Sem.run_bind,I,Result.andThen_ok];simp[g]
 simp only[execOp,m,H,Instr.index,asIntOf,Sem.run_bind,Sem.run_pure,Result.andThen_ok,run_underlying hT.und];have c:(0:Int)<=(j:Int)/\(j:Int)<(l:Int):=by omega
 simp[z,sizeOf,typeInfo,b,D,a]
theorem W_vidx{T l e size:Nat}{x i:Operand}{k:IntKind}{L cs:LV}{j:Nat}[hT:ArrT P T l e size][he:AggT P e size](c:ev f x=.agg L.toArray)(H:ev f i=.int k (j:Int))(z:j<l)(b:(L.drop (j*size)).take size=cs)
  (h:AT P all Z K rest (upd f d (.agg cs.toArray)) ds w):AT P all Z K (⟨some d,.index T x i,ty,pos,af,none⟩::rest) f ds w:=by
 refine Aw rfl ?_ h;obtain⟨q,a,D⟩:=hT.out;obtain⟨⟨Q,X,W⟩,g,n,V⟩:=he.out
 have I:(isAgg e).run P w=.ok true w:=by
  simp only[isAgg,Sem.run_bind,run_underlying X,Result.andThen_ok];cases Q<;>simp_all [aggD]
 have v:(part e L.toArray (j*size)).run P w=.ok (.agg cs.toArray) w:=by
  simp only[part,Sem.run_bind,I,Result.andThen_ok,sizeOf,typeInfo];simp[a,D,<-b]
 simp only[execOp,c,H,Instr.index,asIntOf,Sem.run_bind,Sem.run_pure,Result.andThen_ok,run_underlying hT.und];simp[z,sizeOf,typeInfo,a,D,v]
class ConcT (P:Program) (T:TypeId):Prop where
 out:∃d,P.underlying T=some d/\(match d with| .interface _=>false|_=>true)=true
theorem DZ{T:TypeId}{x:Operand}[hT:ConcT P T](h:AT P all Z K rest (upd f d (.iface T (ev f x))) ds w):AT P all Z K (⟨some d,.makeInterface T x,ty,pos,af,none⟩::rest) f ds w:=by
 obtain⟨Q,X,W⟩:=hT.out;refine Aw rfl ?_ h;simp only[execOp,Instr.makeInterface,Sem.run_bind,run_underlying X,Result.andThen_ok];cases Q<;>simp_all
theorem Dj{x:Operand}{T:TypeId}{v:Value}{q:Option Nat}(b:ev f x=.iface T v)(h:Z f ds [{v:=.iface T v,recovered:=false}] w):AT P all Z K (⟨q,.panic x,ty,pos,af,none⟩::rest) f ds w:=by
 unfold AT
 have a:(execOp (ev f) ⟨q,.panic x,ty,pos,af,none⟩).run P w=.halt (.panic (.iface T v)) w:=by
  simp only[execOp,b,Instr.panic];rfl
 simp only[BH,if_true,Be,a];exact h
end
section
variable {P:Program}{fn:Func}{R:Value->World->Prop}{Y:List PanicEntry->World->Prop}{f:Fr}{w:World}{ch:List PanicEntry}
theorem Aj(h:Y ch w):Cw P fn R Y (.panic ch) f [] w:=⟨rfl,h⟩
end
end
instance :BoolT Zp 4:=⟨Tryz.underlying4⟩
instance :ConcT Zp 133:=⟨_,Tryz.underlying133,rfl⟩
instance :ConcT Zp 163:=⟨_,Tryz.underlying163,rfl⟩
instance :ConcT Zp 209:=⟨_,Tryz.underlying209,rfl⟩
instance :Ar Zp 106 1 1 43:=AZ (s:=0) Tryz.underlying106 rfl rfl rfl Dv
instance :Ar Zp 112 0 0 110:=AZ (s:=0) Tryz.underlying112 rfl rfl rfl Dv
instance :Ar Zp 125 0 0 9:=AZ (s:=0) Tryz.underlying125 rfl rfl rfl Dv
instance :Ar Zp 125 1 1 4:=AZ (s:=0) Tryz.underlying125 rfl rfl rfl Dv
instance :Ar Zp 125 2 2 3:=AZ (s:=0) Tryz.underlying125 rfl rfl rfl Dv
instance :Ar Zp 133 0 0 9:=AZ (s:=0) Tryz.underlying133 rfl rfl rfl Dv
instance :Ar Zp 146 0 0 3:=AZ (s:=0) Tryz.underlying146 rfl rfl rfl Dv
instance :Ar Zp 146 1 1 4:=AZ (s:=0) Tryz.underlying146 rfl rfl rfl Dv
instance :Ar Zp 163 0 0 43:=AZ (s:=0) Tryz.underlying163 rfl rfl rfl Dv
instance :Ar Zp 163 1 1 3:=AZ (s:=0) Tryz.underlying163 rfl rfl rfl Dv
instance :Ar Zp 168 0 0 159:=AZ (s:=0) Tryz.underlying168 rfl rfl rfl Dv
instance :Ar Zp 168 1 1 3:=AZ (s:=0) Tryz.underlying168 rfl rfl rfl Dv
instance :Ar Zp 168 2 2 165:=AZ (s:=0) Tryz.underlying168 rfl rfl rfl Dv
instance :Ar Zp 168 3 3 165:=AZ (s:=0) Tryz.underlying168 rfl rfl rfl Dv
instance :Ar Zp 182 0 0 22:=AZ (s:=0) Tryz.underlying182 rfl rfl rfl Dv
instance :Ar Zp 182 1 1 180:=AZ (s:=0) Tryz.underlying182 rfl rfl rfl Dv
instance :Ar Zp 182 2 2 3:=AZ (s:=0) Tryz.underlying182 rfl rfl rfl Dv
instance :Ar Zp 182 3 3 3:=AZ (s:=0) Tryz.underlying182 rfl rfl rfl Dv
instance :Ar Zp 182 4 4 3:=AZ (s:=0) Tryz.underlying182 rfl rfl rfl Dv
instance :Ar Zp 190 0 0 3:=AZ (s:=0) Tryz.underlying190 rfl rfl rfl Dv
instance :Ar Zp 190 1 1 3:=AZ (s:=0) Tryz.underlying190 rfl rfl rfl Dv
instance :Ar Zp 190 2 2 3:=AZ (s:=0) Tryz.underlying190 rfl rfl rfl Dv
instance :Ar Zp 190 3 3 3:=AZ (s:=0) Tryz.underlying190 rfl rfl rfl Dv
instance :Ar Zp 190 4 4 4:=AZ (s:=0) Tryz.underlying190 rfl rfl rfl Dv
instance :Ar Zp 190 5 5 4:=AZ (s:=0) Tryz.underlying190 rfl rfl rfl Dv
instance :Ar Zp 190 6 6 4:=AZ (s:=0) Tryz.underlying190 rfl rfl rfl Dv
instance :Ar Zp 190 7 7 4:=AZ (s:=0) Tryz.underlying190 rfl rfl rfl Dv
instance :Ar Zp 206 0 0 22:=AZ (s:=0) Tryz.underlying206 rfl rfl rfl Dv
instance :Ar Zp 206 1 1 24:=AZ (s:=0) Tryz.underlying206 rfl rfl rfl Dv
instance :Ar Zp 206 2 2 203:=AZ (s:=0) Tryz.underlying206 rfl rfl rfl Dv
instance :Ar Zp 206 3 3 204:=AZ (s:=0) Tryz.underlying206 rfl rfl rfl Dv
instance :Ar Zp 209 0 0 43:=AZ (s:=0) Tryz.underlying209 rfl rfl rfl Dv
instance :Ar Zp 209 1 1 3:=AZ (s:=0) Tryz.underlying209 rfl rfl rfl Dv
instance :Ar Zp 213 0 0 9:=AZ (s:=0) Tryz.underlying213 rfl rfl rfl Dv
instance :Ar Zp 213 1 1 3:=AZ (s:=0) Tryz.underlying213 rfl rfl rfl Dv
instance :Ar Zp 213 2 2 159:=AZ (s:=0) Tryz.underlying213 rfl rfl rfl Dv
instance :Ar Zp 215 0 0 3:=AZ (s:=0) Tryz.underlying215 rfl rfl rfl Dv
instance :Ar Zp 215 1 1 3:=AZ (s:=0) Tryz.underlying215 rfl rfl rfl Dv
instance :Ar Zp 215 2 2 3:=AZ (s:=0) Tryz.underlying215 rfl rfl rfl Dv
instance :Ar Zp 217 0 0 3:=AZ (s:=0) Tryz.underlying217 rfl rfl rfl Dv
instance :Ar Zp 217 1 1 9:=AZ (s:=0) Tryz.underlying217 rfl rfl rfl Dv
instance :Ar Zp 217 2 2 3:=AZ (s:=0) Tryz.underlying217 rfl rfl rfl Dv
instance :Ar Zp 233 0 0 96:=AZ (s:=0) Tryz.underlying233 rfl rfl rfl Dv
instance :Ar Zp 233 1 1 4:=AZ (s:=0) Tryz.underlying233 rfl rfl rfl Dv
instance :Ar Zp 248 0 0 5:=AZ (s:=0) Tryz.underlying248 rfl rfl rfl Dv
instance :Ar Zp 248 1 1 5:=AZ (s:=0) Tryz.underlying248 rfl rfl rfl Dv
instance :Ar Zp 248 2 2 3:=AZ (s:=0) Tryz.underlying248 rfl rfl rfl Dv
instance :Ar Zp 26 0 0 24:=AZ (s:=0) Tryz.underlying26 rfl rfl rfl Dv
instance :Ar Zp 26 1 1 24:=AZ (s:=0) Tryz.underlying26 rfl rfl rfl Dv
instance :Ar Zp 36 0 0 3:=AZ (s:=0) Tryz.underlying36 rfl rfl rfl Dv
instance :Ar Zp 36 1 1 9:=AZ (s:=0) Tryz.underlying36 rfl rfl rfl Dv
instance :Ar Zp 36 2 2 3:=AZ (s:=0) Tryz.underlying36 rfl rfl rfl Dv
instance :Ar Zp 36 3 3 3:=AZ (s:=0) Tryz.underlying36 rfl rfl rfl Dv
instance :Ar Zp 36 4 4 34:=AZ (s:=0) Tryz.underlying36 rfl rfl rfl Dv
instance :Ar Zp 38 0 0 9:=AZ (s:=0) Tryz.underlying38 rfl rfl rfl Dv
instance :Ar Zp 38 1 1 9:=AZ (s:=0) Tryz.underlying38 rfl rfl rfl Dv
instance :Ar Zp 38 2 2 3:=AZ (s:=0) Tryz.underlying38 rfl rfl rfl Dv
instance :Ar Zp 38 3 3 36:=AZ (s:=4) Tryz.underlying38 rfl rfl rfl Dv
instance :Ar Zp 40 0 0 38:=AZ (s:=7) Tryz.underlying40 rfl rfl rfl Dv
instance :Ar Zp 40 2 9 36:=AZ (s:=4) Tryz.underlying40 rfl rfl rfl Dv
instance :Ar Zp 40 3 14 36:=AZ (s:=4) Tryz.underlying40 rfl rfl rfl Dv
instance :Ar Zp 42 0 0 3:=AZ (s:=0) Tryz.underlying42 rfl rfl rfl Dv
instance :Ar Zp 42 1 1 38:=AZ (s:=7) Tryz.underlying42 rfl rfl rfl Dv
instance :Ar Zp 54 0 0 22:=AZ (s:=0) Tryz.underlying54 rfl rfl rfl Dv
instance :Ar Zp 54 1 1 52:=AZ (s:=0) Tryz.underlying54 rfl rfl rfl Dv
instance :Ar Zp 72 0 0 22:=AZ (s:=0) Tryz.underlying72 rfl rfl rfl Dv
instance :Ar Zp 72 1 1 23:=AZ (s:=0) Tryz.underlying72 rfl rfl rfl Dv
instance :Ar Zp 72 2 2 3:=AZ (s:=0) Tryz.underlying72 rfl rfl rfl Dv
instance :Ar Zp 84 0 0 40:=AZ (s:=18) Tryz.underlying84 rfl rfl rfl Dv
instance :Ar Zp 84 1 19 36:=AZ (s:=4) Tryz.underlying84 rfl rfl rfl Dv
instance :Ar Zp 98 0 0 34:=AZ (s:=0) Tryz.underlying98 rfl rfl rfl Dv
instance :Ar Zp 98 1 1 34:=AZ (s:=0) Tryz.underlying98 rfl rfl rfl Dv
instance :IntT Zp 267 .u64:=⟨Tryz.underlying267⟩
instance :SlT Zp 289 5 1 1 (.int .u8 0):=Cx Tryz.underlying289 Dv
instance :IntT Zp 3 .i64:=⟨Tryz.underlying3⟩
instance :IntT Zp 5 .u8:=⟨Tryz.underlying5⟩
instance :StrT Zp 9:=⟨Tryz.underlying9⟩
instance :Ck Zp 1:=⟨_,Tryz.underlying1,rfl⟩
instance :Ck Zp 102:=⟨_,Tryz.underlying102,rfl⟩
instance :Ck Zp 109:=⟨_,Tryz.underlying109,rfl⟩
instance :Ck Zp 110:=⟨_,Tryz.underlying110,rfl⟩
instance :AggT Zp 112 1:=Ci Tryz.underlying112 rfl Dv
instance :Ck Zp 121:=⟨_,Tryz.underlying121,rfl⟩
instance :AggT Zp 125 3:=Ci Tryz.underlying125 rfl Dv
instance :Ck Zp 139:=⟨_,Tryz.underlying139,rfl⟩
instance :Ck Zp 140:=⟨_,Tryz.underlying140,rfl⟩
instance :Ck Zp 153:=⟨_,Tryz.underlying153,rfl⟩
instance :Ck Zp 159:=⟨_,Tryz.underlying159,rfl⟩
instance :Ck Zp 165:=⟨_,Tryz.underlying165,rfl⟩
instance :Ck Zp 179:=⟨_,Tryz.underlying179,rfl⟩
instance :Ck Zp 180:=⟨_,Tryz.underlying180,rfl⟩
instance :Ck Zp 185:=⟨_,Tryz.underlying185,rfl⟩
instance :AggT Zp 190 8:=Ci Tryz.underlying190 rfl Dv
instance :AggT Zp 196 10:=Ci Tryz.underlying196 rfl Dv
instance :Ck Zp 202:=⟨_,Tryz.underlying202,rfl⟩
instance :Ck Zp 203:=⟨_,Tryz.underlying203,rfl⟩
instance :Ck Zp 204:=⟨_,Tryz.underlying204,rfl⟩
instance :AggT Zp 215 3:=Ci Tryz.underlying215 rfl Dv
instance :Ck Zp 22:=⟨_,Tryz.underlying22,rfl⟩
instance :Ck Zp 226:=⟨_,Tryz.underlying226,rfl⟩
instance :Ck Zp 228:=⟨_,Tryz.underlying228,rfl⟩
instance :Ck Zp 23:=⟨_,Tryz.underlying23,rfl⟩
instance :Ck Zp 231:=⟨_,Tryz.underlying231,rfl⟩
instance :AggT Zp 233 2:=Ci Tryz.underlying233 rfl Dv
instance :Ck Zp 234:=⟨_,Tryz.underlying234,rfl⟩
instance :Ck Zp 235:=⟨_,Tryz.underlying235,rfl⟩
instance :Ck Zp 24:=⟨_,Tryz.underlying24,rfl⟩
instance :AggT Zp 248 3:=Ci Tryz.underlying248 rfl Dv
instance :AggT Zp 249 48:=Ci Tryz.underlying249 rfl Dv
instance :AggT Zp 26 2:=Ci Tryz.underlying26 rfl Dv
instance :Ck Zp 260:=⟨_,Tryz.underlying260,rfl⟩
instance :AggT Zp 272 15:=Ci Tryz.underlying272 rfl Dv
instance :Ck Zp 3:=⟨_,Tryz.underlying3,rfl⟩
instance :Ck Zp 34:=⟨_,Tryz.underlying34,rfl⟩
instance :AggT Zp 36 5:=Ci Tryz.underlying36 rfl Dv
instance :AggT Zp 38 8:=Ci Tryz.underlying38 rfl Dv
instance :Ck Zp 4:=⟨_,Tryz.underlying4,rfl⟩
instance :AggT Zp 40 19:=Ci Tryz.underlying40 rfl Dv
instance :AggT Zp 42 9:=Ci Tryz.underlying42 rfl Dv
instance :Ck Zp 43:=⟨_,Tryz.underlying43,rfl⟩
instance :Ck Zp 49:=⟨_,Tryz.underlying49,rfl⟩
instance :Ck Zp 5:=⟨_,Tryz.underlying5,rfl⟩
instance :Ck Zp 50:=⟨_,Tryz.underlying50,rfl⟩
instance :Ck Zp 52:=⟨_,Tryz.underlying52,rfl⟩
instance :AggT Zp 54 2:=Ci Tryz.underlying54 rfl Dv
instance :Ck Zp 69:=⟨_,Tryz.underlying69,rfl⟩
instance :AggT Zp 72 3:=Ci Tryz.underlying72 rfl Dv
instance :Ck Zp 74:=⟨_,Tryz.underlying74,rfl⟩
instance :AggT Zp 84 24:=Ci Tryz.underlying84 rfl Dv
instance :Ck Zp 9:=⟨_,Tryz.underlying9,rfl⟩
instance :Ck Zp 96:=⟨_,Tryz.underlying96,rfl⟩
instance :BU Zp 102 1:=Ax Dv
instance :BU Zp 112 1:=Ax Dv
instance :BU Zp 125 3:=Ax Dv
instance :BU Zp 140 1:=Ax Dv
instance :BU Zp 153 1:=Ax Dv
instance :BU Zp 159 1:=Ax Dv
instance :BU Zp 163 2:=Ax Dv
instance :BU Zp 179 1:=Ax Dv
instance :BU Zp 180 1:=Ax Dv
instance :BU Zp 185 1:=Ax Dv
instance :BU Zp 190 8:=Ax Dv
instance :BU Zp 203 1:=Ax Dv
instance :BU Zp 204 1:=Ax Dv
instance :BU Zp 209 2:=Ax Dv
instance :BU Zp 215 3:=Ax Dv
instance :BU Zp 226 1:=Ax Dv
instance :BU Zp 233 2:=Ax Dv
instance :BU Zp 234 1:=Ax Dv
instance :BU Zp 235 1:=Ax Dv
instance :BU Zp 24 1:=Ax Dv
instance :BU Zp 246 5:=Ax Dv
instance :BU Zp 248 3:=Ax Dv
instance :BU Zp 26 2:=Ax Dv
instance :BU Zp 260 1:=Ax Dv
instance :BU Zp 3 1:=Ax Dv
instance :BU Zp 34 1:=Ax Dv
instance :BU Zp 36 5:=Ax Dv
instance :BU Zp 38 8:=Ax Dv
instance :BU Zp 4 1:=Ax Dv
instance :BU Zp 40 19:=Ax Dv
instance :BU Zp 42 9:=Ax Dv
instance :BU Zp 43 1:=Ax Dv
instance :BU Zp 50 1:=Ax Dv
instance :BU Zp 52 1:=Ax Dv
instance :BU Zp 54 2:=Ax Dv
instance :BU Zp 69 1:=Ax Dv
instance :BU Zp 72 3:=Ax Dv
instance :BU Zp 84 24:=Ax Dv
instance :BU Zp 9 1:=Ax Dv
instance :SlT Zp 100 98 2 48 (.agg #[(.slice none 0 0),(.slice none 0 0)]):=Cx Tryz.underlying100 Dv
instance :SlT Zp 107 112 1 8 (.agg #[.nilFunc]):=Cx Tryz.underlying107 Dv
instance :SlT Zp 136 96 1 8 (.pointer none):=Cx Tryz.underlying136 Dv
instance :SlT Zp 140 4 1 1 (.bool false):=Cx Tryz.underlying140 Dv
instance :SlT Zp 159 217 3 32 (.agg #[(iV 0),(AK []),(iV 0)]):=Cx Tryz.underlying159 Dv
instance :SlT Zp 171 52 1 24 (.slice none 0 0):=Cx Tryz.underlying171 Dv
instance :SlT Zp 175 9 1 16 (AK []):=Cx Tryz.underlying175 Dv
instance :SlT Zp 180 24 1 24 (.slice none 0 0):=Cx Tryz.underlying180 Dv
instance :ArrT Zp 196 10 9 1:=arrT_of Tryz.underlying196 Dv
instance :SlT Zp 22 125 3 32 (.agg #[(AK []),(.bool false),(iV 0)]):=Cx Tryz.underlying22 Dv
instance :SlT Zp 228 140 1 24 (.slice none 0 0):=Cx Tryz.underlying228 Dv
instance :SlT Zp 23 40 19 240 (.agg #[(AK []),(AK []),(iV 0),(iV 0),(AK []),(iV 0),(iV 0),(.slice none 0 0),(iV 0),(iV 0),(AK []),(iV 0),(iV 0),(.slice none 0 0),(iV 0),(AK []),(iV 0),(iV 0),(.slice none 0 0)]):=Cx Tryz.underlying23 Dv
instance :SlT Zp 234 233 2 16 (.agg #[(.pointer none),(.bool false)]):=Cx Tryz.underlying234 Dv
instance :ArrT Zp 236 20 190 8:=arrT_of Tryz.underlying236 Dv
instance :SlT Zp 24 3 1 8 (iV 0):=Cx Tryz.underlying24 Dv
instance :ArrT Zp 246 5 1 1:=arrT_of Tryz.underlying246 Dv
instance :ArrT Zp 249 16 248 3:=arrT_of Tryz.underlying249 Dv
instance :ArrT Zp 272 15 9 1:=arrT_of Tryz.underlying272 Dv
instance :SlT Zp 34 36 5 64 (.agg #[(iV 0),(AK []),(iV 0),(iV 0),(.slice none 0 0)]):=Cx Tryz.underlying34 Dv
instance :SlT Zp 52 38 8 104 (.agg #[(AK []),(AK []),(iV 0),(iV 0),(AK []),(iV 0),(iV 0),(.slice none 0 0)]):=Cx Tryz.underlying52 Dv
instance :SlT Zp 56 106 2 16 (.agg #[(iV 0),(iV 0)]):=Cx Tryz.underlying56 Dv
instance :SlT Zp 78 74 1 8 .nilFunc:=Cx Tryz.underlying78 Dv
instance :SlT Zp 81 84 24 304 (.agg #[(AK []),(AK []),(iV 0),(iV 0),(AK []),(iV 0),(iV 0),(.slice none 0 0),(iV 0),(iV 0),(AK []),(iV 0),(iV 0),(.slice none 0 0),(iV 0),(AK []),(iV 0),(iV 0),(.slice none 0 0),(iV 0),(AK []),(iV 0),(iV 0),(.slice none 0 0)]):=Cx Tryz.underlying81 Dv
instance :ArrT Zp 93 4 34 1:=arrT_of Tryz.underlying93 Dv
instance :ArrT Zp 99 8 98 2:=arrT_of Tryz.underlying99 Dv
instance :SMapT Zp 165 (.agg #[(iV 0),(iV 0),(iV 0)]):=smapT_of Tryz.underlying165 Tryz.underlying9 Dv
instance :StT Zp 106 [(0,1),(1,1)] [(iV 0),(iV 0)]:=CN (z:=(.agg #[(iV 0),(iV 0)])) Tryz.underlying106 Dv rfl Dv
instance :StT Zp 112 [(0,1)] [.nilFunc]:=CN (z:=(.agg #[.nilFunc])) Tryz.underlying112 Dv rfl Dv
instance :StT Zp 125 [(0,1),(1,1),(2,1)] [(AK []),(.bool false),(iV 0)]:=CN (z:=(.agg #[(AK []),(.bool false),(iV 0)])) Tryz.underlying125 Dv rfl Dv
instance :StT Zp 133 [(0,1)] [(AK [])]:=CN (z:=(.agg #[(AK [])])) Tryz.underlying133 Dv rfl Dv
instance :StT Zp 146 [(0,1),(1,1)] [(iV 0),(.bool false)]:=CN (z:=(.agg #[(iV 0),(.bool false)])) Tryz.underlying146 Dv rfl Dv
instance :StT Zp 163 [(0,1),(1,1)] [(iV 0),(iV 0)]:=CN (z:=(.agg #[(iV 0),(iV 0)])) Tryz.underlying163 Dv rfl Dv
instance :StT Zp 168 [(0,1),(1,1),(2,1),(3,1)] [(.slice none 0 0),(iV 0),(.map none),(.map none)]:=CN (z:=(.agg #[(.slice none 0 0),(iV 0),(.map none),(.map none)])) Tryz.underlying168 Dv rfl Dv
instance :StT Zp 182 [(0,1),(1,1),(2,1),(3,1),(4,1)] [(.slice none 0 0),(.slice none 0 0),(iV 0),(iV 0),(iV 0)]:=CN (z:=(.agg #[(.slice none 0 0),(.slice none 0 0),(iV 0),(iV 0),(iV 0)])) Tryz.underlying182 Dv rfl Dv
instance :StT Zp 190 [(0,1),(1,1),(2,1),(3,1),(4,1),(5,1),(6,1),(7,1)] [(iV 0),(iV 0),(iV 0),(iV 0),(.bool false),(.bool false),(.bool false),(.bool false)]:=CN (z:=(.agg #[(iV 0),(iV 0),(iV 0),(iV 0),(.bool false),(.bool false),(.bool false),(.bool false)])) Tryz.underlying190 Dv rfl Dv
instance :StT Zp 206 [(0,1),(1,1),(2,1),(3,1)] [(.slice none 0 0),(.slice none 0 0),(.map none),(.map none)]:=CN (z:=(.agg #[(.slice none 0 0),(.slice none 0 0),(.map none),(.map none)])) Tryz.underlying206 Dv rfl Dv
instance :StT Zp 209 [(0,1),(1,1)] [(iV 0),(iV 0)]:=CN (z:=(.agg #[(iV 0),(iV 0)])) Tryz.underlying209 Dv rfl Dv
instance :StT Zp 213 [(0,1),(1,1),(2,1)] [(AK []),(iV 0),(.slice none 0 0)]:=CN (z:=(.agg #[(AK []),(iV 0),(.slice none 0 0)])) Tryz.underlying213 Dv rfl Dv
instance :StT Zp 215 [(0,1),(1,1),(2,1)] [(iV 0),(iV 0),(iV 0)]:=CN (z:=(.agg #[(iV 0),(iV 0),(iV 0)])) Tryz.underlying215 Dv rfl Dv
instance :StT Zp 217 [(0,1),(1,1),(2,1)] [(iV 0),(AK []),(iV 0)]:=CN (z:=(.agg #[(iV 0),(AK []),(iV 0)])) Tryz.underlying217 Dv rfl Dv
instance :StT Zp 233 [(0,1),(1,1)] [(.pointer none),(.bool false)]:=CN (z:=(.agg #[(.pointer none),(.bool false)])) Tryz.underlying233 Dv rfl Dv
instance :Bf Zp 246 [.nilFunc,.nilFunc,.nilFunc,.nilFunc,.nilFunc]:=A4 (z:=(.agg #[.nilFunc,.nilFunc,.nilFunc,.nilFunc,.nilFunc])) Dv rfl
instance :StT Zp 26 [(0,1),(1,1)] [(.slice none 0 0),(.slice none 0 0)]:=CN (z:=(.agg #[(.slice none 0 0),(.slice none 0 0)])) Tryz.underlying26 Dv rfl Dv
instance :StT Zp 36 [(0,1),(1,1),(2,1),(3,1),(4,1)] [(iV 0),(AK []),(iV 0),(iV 0),(.slice none 0 0)]:=CN (z:=(.agg #[(iV 0),(AK []),(iV 0),(iV 0),(.slice none 0 0)])) Tryz.underlying36 Dv rfl Dv
instance :StT Zp 38 [(0,1),(1,1),(2,1),(3,5)] [(AK []),(AK []),(iV 0),(iV 0),(AK []),(iV 0),(iV 0),(.slice none 0 0)]:=CN (z:=(.agg #[(AK []),(AK []),(iV 0),(iV 0),(AK []),(iV 0),(iV 0),(.slice none 0 0)])) Tryz.underlying38 Dv rfl Dv
instance :StT Zp 40 [(0,8),(8,1),(9,5),(14,5)] [(AK []),(AK []),(iV 0),(iV 0),(AK []),(iV 0),(iV 0),(.slice none 0 0),(iV 0),(iV 0),(AK []),(iV 0),(iV 0),(.slice none 0 0),(iV 0),(AK []),(iV 0),(iV 0),(.slice none 0 0)]:=CN (z:=(.agg #[(AK []),(AK []),(iV 0),(iV 0),(AK []),(iV 0),(iV 0),(.slice none 0 0),(iV 0),(iV 0),(AK []),(iV 0),(iV 0),(.slice none 0 0),(iV 0),(AK []),(iV 0),(iV 0),(.slice none 0 0)])) Tryz.underlying40 Dv rfl Dv
instance :StT Zp 42 [(0,1),(1,8)] [(iV 0),(AK []),(AK []),(iV 0),(iV 0),(AK []),(iV 0),(iV 0),(.slice none 0 0)]:=CN (z:=(.agg #[(iV 0),(AK []),(AK []),(iV 0),(iV 0),(AK []),(iV 0),(iV 0),(.slice none 0 0)])) Tryz.underlying42 Dv rfl Dv
instance :StT Zp 54 [(0,1),(1,1)] [(.slice none 0 0),(.slice none 0 0)]:=CN (z:=(.agg #[(.slice none 0 0),(.slice none 0 0)])) Tryz.underlying54 Dv rfl Dv
instance :StT Zp 72 [(0,1),(1,1),(2,1)] [(.slice none 0 0),(.slice none 0 0),(iV 0)]:=CN (z:=(.agg #[(.slice none 0 0),(.slice none 0 0),(iV 0)])) Tryz.underlying72 Dv rfl Dv
instance :StT Zp 84 [(0,19),(19,5)] [(AK []),(AK []),(iV 0),(iV 0),(AK []),(iV 0),(iV 0),(.slice none 0 0),(iV 0),(iV 0),(AK []),(iV 0),(iV 0),(.slice none 0 0),(iV 0),(AK []),(iV 0),(iV 0),(.slice none 0 0),(iV 0),(AK []),(iV 0),(iV 0),(.slice none 0 0)]:=CN (z:=(.agg #[(AK []),(AK []),(iV 0),(iV 0),(AK []),(iV 0),(iV 0),(.slice none 0 0),(iV 0),(iV 0),(AK []),(iV 0),(iV 0),(.slice none 0 0),(iV 0),(AK []),(iV 0),(iV 0),(.slice none 0 0),(iV 0),(AK []),(iV 0),(iV 0),(.slice none 0 0)])) Tryz.underlying84 Dv rfl Dv
instance :StT Zp 98 [(0,1),(1,1)] [(.slice none 0 0),(.slice none 0 0)]:=CN (z:=(.agg #[(.slice none 0 0),(.slice none 0 0)])) Tryz.underlying98 Dv rfl Dv
instance :Bf Zp 102 [.nilFunc]:=A4 (z:=.nilFunc) Dv rfl
instance :Bf Zp 112 [.nilFunc]:=A4 (z:=(.agg #[.nilFunc])) Dv rfl
instance :Bf Zp 125 [(AK []),(.bool false),(iV 0)]:=A4 (z:=(.agg #[(AK []),(.bool false),(iV 0)])) Dv rfl
instance :Bf Zp 153 [(.map none)]:=A4 (z:=(.map none)) Dv rfl
instance :Bf Zp 159 [(.slice none 0 0)]:=A4 (z:=(.slice none 0 0)) Dv rfl
instance :Bf Zp 163 [(iV 0),(iV 0)]:=A4 (z:=(.agg #[(iV 0),(iV 0)])) Dv rfl
instance :Bf Zp 179 [.nilFunc]:=A4 (z:=.nilFunc) Dv rfl
instance :Bf Zp 185 [.nilFunc]:=A4 (z:=.nilFunc) Dv rfl
instance :Bf Zp 190 [(iV 0),(iV 0),(iV 0),(iV 0),(.bool false),(.bool false),(.bool false),(.bool false)]:=A4 (z:=(.agg #[(iV 0),(iV 0),(iV 0),(iV 0),(.bool false),(.bool false),(.bool false),(.bool false)])) Dv rfl
instance :Bf Zp 209 [(iV 0),(iV 0)]:=A4 (z:=(.agg #[(iV 0),(iV 0)])) Dv rfl
instance :Bf Zp 215 [(iV 0),(iV 0),(iV 0)]:=A4 (z:=(.agg #[(iV 0),(iV 0),(iV 0)])) Dv rfl
instance :Bf Zp 226 [(.map none)]:=A4 (z:=(.map none)) Dv rfl
instance :Bf Zp 233 [(.pointer none),(.bool false)]:=A4 (z:=(.agg #[(.pointer none),(.bool false)])) Dv rfl
instance :Bf Zp 234 [(.slice none 0 0)]:=A4 (z:=(.slice none 0 0)) Dv rfl
instance :Bf Zp 235 [.nilFunc]:=A4 (z:=.nilFunc) Dv rfl
instance :Bf Zp 24 [(.slice none 0 0)]:=A4 (z:=(.slice none 0 0)) Dv rfl
instance :Bf Zp 248 [(.int .u8 0),(.int .u8 0),(iV 0)]:=A4 (z:=(.agg #[(.int .u8 0),(.int .u8 0),(iV 0)])) Dv rfl
instance :Bf Zp 26 [(.slice none 0 0),(.slice none 0 0)]:=A4 (z:=(.agg #[(.slice none 0 0),(.slice none 0 0)])) Dv rfl
instance :Bf Zp 260 [.nilFunc]:=A4 (z:=.nilFunc) Dv rfl
instance :Bf Zp 3 [(iV 0)]:=A4 (z:=(iV 0)) Dv rfl
instance :Bf Zp 34 [(.slice none 0 0)]:=A4 (z:=(.slice none 0 0)) Dv rfl
instance :Bf Zp 36 [(iV 0),(AK []),(iV 0),(iV 0),(.slice none 0 0)]:=A4 (z:=(.agg #[(iV 0),(AK []),(iV 0),(iV 0),(.slice none 0 0)])) Dv rfl
instance :Bf Zp 38 [(AK []),(AK []),(iV 0),(iV 0),(AK []),(iV 0),(iV 0),(.slice none 0 0)]:=A4 (z:=(.agg #[(AK []),(AK []),(iV 0),(iV 0),(AK []),(iV 0),(iV 0),(.slice none 0 0)])) Dv rfl
instance :Bf Zp 4 [(.bool false)]:=A4 (z:=(.bool false)) Dv rfl
instance :Bf Zp 40 [(AK []),(AK []),(iV 0),(iV 0),(AK []),(iV 0),(iV 0),(.slice none 0 0),(iV 0),(iV 0),(AK []),(iV 0),(iV 0),(.slice none 0 0),(iV 0),(AK []),(iV 0),(iV 0),(.slice none 0 0)]:=A4 (z:=(.agg #[(AK []),(AK []),(iV 0),(iV 0),(AK []),(iV 0),(iV 0),(.slice none 0 0),(iV 0),(iV 0),(AK []),(iV 0),(iV 0),(.slice none 0 0),(iV 0),(AK []),(iV 0),(iV 0),(.slice none 0 0)])) Dv rfl
instance :Bf Zp 42 [(iV 0),(AK []),(AK []),(iV 0),(iV 0),(AK []),(iV 0),(iV 0),(.slice none 0 0)]:=A4 (z:=(.agg #[(iV 0),(AK []),(AK []),(iV 0),(iV 0),(AK []),(iV 0),(iV 0),(.slice none 0 0)])) Dv rfl
instance :Bf Zp 43 [(iV 0)]:=A4 (z:=(iV 0)) Dv rfl
instance :Bf Zp 50 [.nilFunc]:=A4 (z:=.nilFunc) Dv rfl
instance :Bf Zp 54 [(.slice none 0 0),(.slice none 0 0)]:=A4 (z:=(.agg #[(.slice none 0 0),(.slice none 0 0)])) Dv rfl
instance :Bf Zp 69 [.nilIface]:=A4 (z:=.nilIface) Dv rfl
instance :Bf Zp 72 [(.slice none 0 0),(.slice none 0 0),(iV 0)]:=A4 (z:=(.agg #[(.slice none 0 0),(.slice none 0 0),(iV 0)])) Dv rfl
instance :Bf Zp 84 [(AK []),(AK []),(iV 0),(iV 0),(AK []),(iV 0),(iV 0),(.slice none 0 0),(iV 0),(iV 0),(AK []),(iV 0),(iV 0),(.slice none 0 0),(iV 0),(AK []),(iV 0),(iV 0),(.slice none 0 0),(iV 0),(AK []),(iV 0),(iV 0),(.slice none 0 0)]:=A4 (z:=(.agg #[(AK []),(AK []),(iV 0),(iV 0),(AK []),(iV 0),(iV 0),(.slice none 0 0),(iV 0),(iV 0),(AK []),(iV 0),(iV 0),(.slice none 0 0),(iV 0),(AK []),(iV 0),(iV 0),(.slice none 0 0),(iV 0),(AK []),(iV 0),(iV 0),(.slice none 0 0)])) Dv rfl
instance :Bf Zp 93 [(.slice none 0 0),(.slice none 0 0),(.slice none 0 0),(.slice none 0 0)]:=A4 (z:=(.agg #[(.slice none 0 0),(.slice none 0 0),(.slice none 0 0),(.slice none 0 0)])) Dv rfl
instance :Bf Zp 99 [(.slice none 0 0),(.slice none 0 0),(.slice none 0 0),(.slice none 0 0),(.slice none 0 0),(.slice none 0 0),(.slice none 0 0),(.slice none 0 0),(.slice none 0 0),(.slice none 0 0),(.slice none 0 0),(.slice none 0 0),(.slice none 0 0),(.slice none 0 0),(.slice none 0 0),(.slice none 0 0)]:=A4 (z:=(.agg #[(.slice none 0 0),(.slice none 0 0),(.slice none 0 0),(.slice none 0 0),(.slice none 0 0),(.slice none 0 0),(.slice none 0 0),(.slice none 0 0),(.slice none 0 0),(.slice none 0 0),(.slice none 0 0),(.slice none 0 0),(.slice none 0 0),(.slice none 0 0),(.slice none 0 0),(.slice none 0 0)])) Dv rfl
instance :AF Zp 5:=AC Tryz.func5
instance :AF Zp 6:=AC Tryz.func6
instance :AF Zp 7:=AC Tryz.func7
instance :AF Zp 8:=AC Tryz.func8
instance :AF Zp 9:=AC Tryz.func9
instance :AF Zp 10:=AC Tryz.func10
instance :AF Zp 11:=AC Tryz.func11
instance :AF Zp 12:=AC Tryz.func12
instance :AF Zp 13:=AC Tryz.func13
instance :AF Zp 14:=AC Tryz.func14
instance :AF Zp 15:=AC Tryz.func15
instance :AF Zp 16:=AC Tryz.func16
instance :AF Zp 17:=AC Tryz.func17
instance :AF Zp 19:=AC Tryz.func19
instance :AF Zp 21:=AC Tryz.func21
instance :AF Zp 22:=AC Tryz.func22
instance :AF Zp 23:=AC Tryz.func23
instance :AF Zp 24:=AC Tryz.func24
instance :AF Zp 25:=AC Tryz.func25
instance :AF Zp 26:=AC Tryz.func26
instance :AF Zp 27:=AC Tryz.func27
instance :AF Zp 28:=AC Tryz.func28
instance :AF Zp 29:=AC Tryz.func29
instance :AF Zp 30:=AC Tryz.func30
instance :AF Zp 31:=AC Tryz.func31
instance :AF Zp 32:=AC Tryz.func32
instance :AF Zp 33:=AC Tryz.func33
instance :AF Zp 34:=AC Tryz.func34
instance :AF Zp 35:=AC Tryz.func35
instance :AF Zp 36:=AC Tryz.func36
instance :AF Zp 37:=AC Tryz.func37
instance :AF Zp 38:=AC Tryz.func38
instance :AF Zp 39:=AC Tryz.func39
instance :AF Zp 40:=AC Tryz.func40
instance :AF Zp 41:=AC Tryz.func41
instance :AF Zp 42:=AC Tryz.func42
instance :AF Zp 43:=AC Tryz.func43
instance :AF Zp 44:=AC Tryz.func44
instance :AF Zp 45:=AC Tryz.func45
instance :AF Zp 46:=AC Tryz.func46
instance :AF Zp 47:=AC Tryz.func47
instance :AF Zp 48:=AC Tryz.func48
instance :AF Zp 49:=AC Tryz.func49
instance :AF Zp 50:=AC Tryz.func50
instance :AF Zp 51:=AC Tryz.func51
instance :AF Zp 52:=AC Tryz.func52
instance :AF Zp 54:=AC Tryz.func54
instance :AF Zp 55:=AC Tryz.func55
instance :AF Zp 56:=AC Tryz.func56
instance :AF Zp 57:=AC Tryz.func57
instance :AF Zp 58:=AC Tryz.func58
instance :AF Zp 59:=AC Tryz.func59
instance :AF Zp 60:=AC Tryz.func60
instance :AF Zp 61:=AC Tryz.func61
instance :AF Zp 62:=AC Tryz.func62
instance :AF Zp 63:=AC Tryz.func63
instance :AF Zp 64:=AC Tryz.func64
instance :AF Zp 65:=AC Tryz.func65
instance :AF Zp 66:=AC Tryz.func66
instance :AF Zp 67:=AC Tryz.func67
instance :AF Zp 68:=AC Tryz.func68
instance :AF Zp 69:=AC Tryz.func69
instance :AF Zp 70:=AC Tryz.func70
instance :AF Zp 71:=AC Tryz.func71
instance :AF Zp 72:=AC Tryz.func72
instance :AF Zp 73:=AC Tryz.func73
instance :AF Zp 74:=AC Tryz.func74
instance :AF Zp 75:=AC Tryz.func75
instance :AF Zp 76:=AC Tryz.func76
instance :AF Zp 77:=AC Tryz.func77
instance :AF Zp 78:=AC Tryz.func78
instance :AF Zp 79:=AC Tryz.func79
instance :AF Zp 80:=AC Tryz.func80
instance :AF Zp 81:=AC Tryz.func81
instance :AF Zp 82:=AC Tryz.func82
instance :AF Zp 83:=AC Tryz.func83
instance :AF Zp 84:=AC Tryz.func84
instance :AF Zp 85:=AC Tryz.func85
instance :AF Zp 86:=AC Tryz.func86
instance :AF Zp 87:=AC Tryz.func87
instance :AF Zp 88:=AC Tryz.func88
instance :AF Zp 89:=AC Tryz.func89
instance :AF Zp 90:=AC Tryz.func90
instance :AF Zp 91:=AC Tryz.func91
instance :AF Zp 92:=AC Tryz.func92
instance :AF Zp 93:=AC Tryz.func93
instance :AF Zp 94:=AC Tryz.func94
instance :AF Zp 95:=AC Tryz.func95
instance :AF Zp 96:=AC Tryz.func96
instance :AF Zp 97:=AC Tryz.func97
instance :AF Zp 98:=AC Tryz.func98
instance :AF Zp 99:=AC Tryz.func99
instance :AF Zp 100:=AC Tryz.func100
instance :AF Zp 101:=AC Tryz.func101
instance :AF Zp 102:=AC Tryz.func102
instance :AF Zp 103:=AC Tryz.func103
instance :AF Zp 104:=AC Tryz.func104
instance :AF Zp 105:=AC Tryz.func105
instance :AF Zp 106:=AC Tryz.func106
instance :AF Zp 107:=AC Tryz.func107
instance :AF Zp 108:=AC Tryz.func108
instance :AF Zp 109:=AC Tryz.func109
instance :AF Zp 110:=AC Tryz.func110
instance :AF Zp 111:=AC Tryz.func111
instance :AF Zp 112:=AC Tryz.func112
instance :AF Zp 113:=AC Tryz.func113
instance :AF Zp 114:=AC Tryz.func114
instance :AF Zp 115:=AC Tryz.func115
instance :AF Zp 116:=AC Tryz.func116
instance :AF Zp 117:=AC Tryz.func117
instance :AF Zp 118:=AC Tryz.func118
instance :AF Zp 119:=AC Tryz.func119
instance :AF Zp 120:=AC Tryz.func120
instance :AF Zp 121:=AC Tryz.func121
instance :AF Zp 122:=AC Tryz.func122
instance :AF Zp 123:=AC Tryz.func123
instance :AF Zp 124:=AC Tryz.func124
instance :AF Zp 125:=AC Tryz.func125
instance :AF Zp 126:=AC Tryz.func126
instance :AF Zp 127:=AC Tryz.func127
instance :AF Zp 130:=AC Tryz.func130
instance :AF Zp 131:=AC Tryz.func131
instance :AF Zp 132:=AC Tryz.func132
instance :AF Zp 133:=AC Tryz.func133
instance :AF Zp 134:=AC Tryz.func134
instance :AF Zp 135:=AC Tryz.func135
instance :AF Zp 136:=AC Tryz.func136
instance :AF Zp 137:=AC Tryz.func137
instance :AF Zp 138:=AC Tryz.func138
instance :AF Zp 139:=AC Tryz.func139
instance :AF Zp 140:=AC Tryz.func140
instance :AF Zp 141:=AC Tryz.func141
instance :AF Zp 142:=AC Tryz.func142
instance :AF Zp 143:=AC Tryz.func143
instance :AF Zp 144:=AC Tryz.func144
instance :AF Zp 145:=AC Tryz.func145
instance :AF Zp 146:=AC Tryz.func146
instance :AF Zp 147:=AC Tryz.func147
instance :AF Zp 148:=AC Tryz.func148
instance :AF Zp 149:=AC Tryz.func149
instance :AF Zp 150:=AC Tryz.func150
instance :AF Zp 151:=AC Tryz.func151
instance :AF Zp 152:=AC Tryz.func152
instance :AF Zp 153:=AC Tryz.func153
instance :AF Zp 154:=AC Tryz.func154
instance :AF Zp 155:=AC Tryz.func155
instance :AF Zp 156:=AC Tryz.func156
instance :AF Zp 157:=AC Tryz.func157
instance :AF Zp 158:=AC Tryz.func158
instance :AF Zp 159:=AC Tryz.func159
instance :AF Zp 160:=AC Tryz.func160
instance :AF Zp 161:=AC Tryz.func161
instance :AF Zp 162:=AC Tryz.func162
instance :AF Zp 163:=AC Tryz.func163
instance :AF Zp 164:=AC Tryz.func164
instance :AF Zp 165:=AC Tryz.func165
instance :AF Zp 166:=AC Tryz.func166
instance :AF Zp 167:=AC Tryz.func167
instance :AF Zp 168:=AC Tryz.func168
instance :AF Zp 169:=AC Tryz.func169
instance :AF Zp 170:=AC Tryz.func170
instance :AF Zp 171:=AC Tryz.func171
instance :AF Zp 172:=AC Tryz.func172
instance :AF Zp 173:=AC Tryz.func173
instance :AF Zp 174:=AC Tryz.func174
instance :AF Zp 175:=AC Tryz.func175
instance :AF Zp 176:=AC Tryz.func176
instance :AF Zp 178:=AC Tryz.func178
instance :AF Zp 179:=AC Tryz.func179
instance :AF Zp 180:=AC Tryz.func180
instance :AF Zp 181:=AC Tryz.func181
instance :AF Zp 182:=AC Tryz.func182
instance :AF Zp 183:=AC Tryz.func183
instance :AF Zp 184:=AC Tryz.func184
instance :AF Zp 185:=AC Tryz.func185
instance :AF Zp 186:=AC Tryz.func186
instance :AF Zp 187:=AC Tryz.func187
instance :AF Zp 188:=AC Tryz.func188
instance :AF Zp 189:=AC Tryz.func189
instance :AF Zp 190:=AC Tryz.func190
instance :AF Zp 191:=AC Tryz.func191
instance :AF Zp 192:=AC Tryz.func192
instance :AF Zp 193:=AC Tryz.func193
instance :AF Zp 194:=AC Tryz.func194
instance :AF Zp 195:=AC Tryz.func195
instance :AF Zp 196:=AC Tryz.func196
instance :AF Zp 197:=AC Tryz.func197
instance :AF Zp 198:=AC Tryz.func198
instance :AF Zp 199:=AC Tryz.func199
instance :AF Zp 200:=AC Tryz.func200
instance :AF Zp 201:=AC Tryz.func201
instance :AF Zp 202:=AC Tryz.func202
instance :AF Zp 203:=AC Tryz.func203
instance :AF Zp 204:=AC Tryz.func204
instance :AF Zp 205:=AC Tryz.func205
instance :AF Zp 206:=AC Tryz.func206
instance :AF Zp 207:=AC Tryz.func207
instance :AF Zp 208:=AC Tryz.func208
instance :AF Zp 209:=AC Tryz.func209
instance :AF Zp 210:=AC Tryz.func210
instance :AF Zp 211:=AC Tryz.func211
instance :AF Zp 212:=AC Tryz.func212
instance :AF Zp 213:=AC Tryz.func213
instance :AF Zp 214:=AC Tryz.func214
instance :AF Zp 215:=AC Tryz.func215
instance :AF Zp 216:=AC Tryz.func216
instance :AF Zp 219:=AC Tryz.func219
instance :AF Zp 220:=AC Tryz.func220
instance :AF Zp 221:=AC Tryz.func221
instance :AF Zp 222:=AC Tryz.func222
instance :AF Zp 223:=AC Tryz.func223
instance :AF Zp 224:=AC Tryz.func224
instance :AF Zp 232:=AC Tryz.func232
instance :AF Zp 233:=AC Tryz.func233
instance :AF Zp 234:=AC Tryz.func234
instance :AF Zp 235:=AC Tryz.func235
instance :AF Zp 236:=AC Tryz.func236
instance :AF Zp 237:=AC Tryz.func237
instance :AF Zp 242:=AC Tryz.func242
instance :AF Zp 243:=AC Tryz.func243
instance :AF Zp 244:=AC Tryz.func244
instance :AF Zp 245:=AC Tryz.func245
instance :AF Zp 246:=AC Tryz.func246
instance :AF Zp 247:=AC Tryz.func247
instance :AF Zp 248:=AC Tryz.func248
instance :AF Zp 249:=AC Tryz.func249
instance :AF Zp 250:=AC Tryz.func250
instance :AF Zp 251:=AC Tryz.func251
instance :AF Zp 253:=AC Tryz.func253
instance :AF Zp 254:=AC Tryz.func254
instance :AF Zp 255:=AC Tryz.func255
instance :AF Zp 256:=AC Tryz.func256
instance :AF Zp 257:=AC Tryz.func257
instance :AF Zp 258:=AC Tryz.func258
instance :AF Zp 259:=AC Tryz.func259
instance :AF Zp 270:=AC Tryz.func270
instance :AF Zp 276:=AC Tryz.func276
instance :AF Zp 277:=AC Tryz.func277
instance :AF Zp 278:=AC Tryz.func278
instance :AF Zp 288:=AC Tryz.func288
instance :AF Zp 289:=AC Tryz.func289
instance :AF Zp 290:=AC Tryz.func290
instance :AF Zp 295:=AC Tryz.func295
instance :AF Zp 297:=AC Tryz.func297
instance :AF Zp 298:=AC Tryz.func298
instance :AF Zp 299:=AC Tryz.func299
instance :AF Zp 304:=AC Tryz.func304
instance :AF Zp 332:=AC Tryz.func332
instance :AF Zp 333:=AC Tryz.func333
instance :AF Zp 334:=AC Tryz.func334
instance :AF Zp 335:=AC Tryz.func335
instance :AF Zp 336:=AC Tryz.func336
instance :AF Zp 337:=AC Tryz.func337
instance :AF Zp 338:=AC Tryz.func338
instance :AF Zp 339:=AC Tryz.func339
instance :AF Zp 340:=AC Tryz.func340
instance :AF Zp 341:=AC Tryz.func341
instance :AF Zp 342:=AC Tryz.func342
instance :AF Zp 343:=AC Tryz.func343
instance :AF Zp 344:=AC Tryz.func344
instance :AF Zp 345:=AC Tryz.func345
theorem An:Tryz.prog.follows .mixedOrders=true:=by kernel_rfl
section
variable {mk:Prop}[MK mk]
attribute [local semireducible] WC AT Bo BI Bj Cw DV Be
section
variable {P:Program}{all:Array Oper}{Z:Fr->DS->List PanicEntry->World->Prop}{K:Fr->DS->World->Prop}{rest:List Oper}{f:Fr}{ds:DS}{w:World}
 {d:Nat}{ty:TypeId}{pos:String}{af:Array Edge}
theorem W_defer{g:FuncId}{t:Nat}{xs:List Operand}{B:Array TypeId}{vs v1 v2:LV}(e:f t=.func (.func g) v1.toArray v2.toArray)(I:evL f xs=vs)
  (h:AT P all Z K rest f ({target:=.fn (.func g) v2.toArray,args:=(v1++vs).toArray}::ds) w):AT P all Z K (⟨none,.defer ⟨.value (.tmp t),xs.toArray,B⟩,ty,pos,af,none⟩::rest) f ds w:=by
 have x:(execOp (ev f) ⟨none,.defer ⟨.value (.tmp t),xs.toArray,B⟩,ty,pos,af,none⟩).run P w=.ok (.defer {target:=.fn (.func g) v2.toArray,args:=(v1++vs).toArray}) w:=by
  rw[evL_map]at I;simp only[execOp,resolve,ev,e,Deferred.ofValue,Sem.run_bind,Sem.run_pure,Result.andThen_ok];simp[<-I]
 unfold AT;simp only[BH,if_true,Be,x];exact h
theorem W_assert_yes{x:Operand}{m T:TypeId}{v:Value}[hT:ConcT P T](g:ev f x=.iface T v)(h:AT P all Z K rest (upd f d (.tuple #[v,.bool true])) ds w):
  AT P all Z K (⟨some d,.typeAssert x m T true,ty,pos,af,none⟩::rest) f ds w:=by
 obtain⟨e,X,W⟩:=hT.out;refine Aw rfl ?_ h;simp only[execOp,g,Instr.typeAssert,Sem.run_bind,run_underlying X,Result.andThen_ok];cases e<;>simp_all
theorem W_assert_nil{x:Operand}{p T:TypeId}{z:Value}[hT:ConcT P T](g:ev f x=.nilIface)(m:(P.info? T).map (·.zero)=some (some z))(h:AT P all Z K rest (upd f d (.tuple #[z,.bool false])) ds w):
  AT P all Z K (⟨some d,.typeAssert x p T true,ty,pos,af,none⟩::rest) f ds w:=by
 obtain⟨e,X,W⟩:=hT.out;obtain⟨i,H,D⟩:=Option.map_eq_some_iff.1 m;refine Aw rfl ?_ h;simp only[execOp,g,Instr.typeAssert,Sem.run_bind,run_underlying X,Result.andThen_ok];cases e<;>simp_all [zeroValue,typeInfo]
end
def plainOp:Op->Bool
 | .move _| .assign _| .alloc _| .store _ _ _| .load _ _| .extract _ _| .typeAssert _ _ _ _| .fieldAddr _ _ _| .binOp _ _ _ _ _=>true
 |_=>false
theorem run_v{P:Program}{w:World}(s:Sem Value):(∃v w',(do pure (Next.value (<-s)):Sem Next).run P w=.ok (.value v) w')\/∃x w',(do pure (Next.value (<-s)):Sem Next).run P w=.halt x w':=by
 simp only[Sem.run_bind];cases s.run P w with
 |ok v w'=>exact .inl ⟨v,w',rfl⟩
 |halt x w'=>exact .inr ⟨x,w',rfl⟩
theorem plain_cases{P:Program}{w:World}{ρ:Operand->Value}{o:Oper}(h:plainOp o.op=true):
  (∃v w',(execOp ρ o).run P w=.ok (.value v) w')\/(∃w',(execOp ρ o).run P w=.ok .skip w')\/∃x w',(execOp ρ o).run P w=.halt x w':=by
 obtain⟨q,N,ty,pos,af,g⟩:=o;cases N<;>simp only[plainOp]at h<;>try (cases h;done)
 case store t a x=>
  simp only[execOp,Sem.run_bind];cases(Instr.storeAt t (ρ a) (ρ x)).run P w with
  |ok v w'=>exact .inr (.inl ⟨w',rfl⟩)
  |halt x w'=>exact .inr (.inr ⟨x,w',rfl⟩)
 case move=>exact .inl ⟨_,_,rfl⟩
 case assign=>exact .inl ⟨_,_,rfl⟩
 all_goals
  simp only[execOp];rcases run_v (P:=P) (w:=w) _ with⟨v,w',h⟩|⟨x,w',h⟩
  ·exact .inl ⟨v,w',h⟩
  ·exact .inr (.inr ⟨x,w',h⟩)
theorem S_of_WOps{P:Program}{ops:Array Oper}{F:Fence}{n N:Nat}{Q:Exit->Act->List Frame->World->Prop}{cs:List Frame}{K:Fr->DS->World->Prop}(q:∀g,F.fn g)
  (s:∀X w',X.tmps.size=N->K (CV X) X.defers w'->Q .normal X cs w'):∀(l:List Nat)(e:List Oper)(a:Act)(w:World),l.map (fun i=>ops[i]?)=e.map some->(e.all fun o=>plainOp o.op&&dOk N o.dst)=true->
   a.tmps.size=N->AT P ops (fun _ _ _ _=>False) K e (CV a) a.defers w->wpOpsSIn F n P ops Q l a cs w
 | [],[],a,w,_,_,hn,h=>s a w hn h
 | [],_::_,_,_,h,_,_,_=>by simp at h
 |_::_,[],_,_,h,_,_,_=>by simp at h
 |i::l,o::e,a,w,hl,p,hn,h=>by
  simp only[List.map_cons,List.cons.injEq]at hl;simp only[List.all_cons,Bool.and_eq_true]at p;obtain⟨⟨M,z⟩,p⟩:=p;unfold wpOpsSIn;simp only[hl.1];refine⟨fun g _=>q g,?_⟩;have L:∀v,CV (a.put o.dst v)=putF (CV a) o.dst v:=fun v=>toFr_putF v (by rw[hn];exact z)
  have go:∀v w',AT P ops (fun _ _ _ _=>False) K e (putF (CV a) o.dst v) a.defers w'->wpOpsSIn F n P ops Q l (a.put o.dst v) cs w':=fun v w' r=>
   S_of_WOps q s l e (a.put o.dst v) w' hl.2 p (by rw[size_put];exact hn) (by rw[L,defers_put];exact r)
  unfold AT at h;rw[wanted_toFr];by_cases D:BH ops (CV a) o.guard=true
  ·rw[if_pos D]at h⊢;unfold Be at h;rw[ev_toFr];rcases plain_cases (P:=P) (w:=w) (ρ:=ev (CV a)) M with⟨v,w',m⟩|⟨w',m⟩|⟨x,w',m⟩
   ·rw[m]at h⊢;exact go _ _ h
   ·rw[m]at h⊢;exact go _ _ h
   ·rw[m]at h;cases x<;>exact h.elim
  ·rw[if_neg D]at h⊢;exact go _ _ h
theorem callsD_rec{P:Program}{g:FuncId}{fn:Func}{id d N:Nat}{B:Array TypeId}{ty:TypeId}{pos:String}{af:Array Edge}{m:List Oper}{y:Code}{args:LV}{w:World}{u u1:FrameMode}{v0:Value}{G:Value->World->Prop}
  (L:P.funcs[g]?=some fn)(S:fn.body=some (.seq (.region id (⟨some d,.call ⟨.builtin .recover,#[],B⟩,ty,pos,af,none⟩::m).toArray false) y))(M:fn.ntmps=N)(hl:args.length<=N)(C:d<N)
  (a0:(m.all fun o=>plainOp o.op&&dOk N o.dst)=true)(hy:CW N false y=true)
  (hu:(u=.returning/\u1=.returning/\v0=.nilIface)\/∃p,u=.panicking [{v:=p,recovered:=false}]/\u1=.panicking [{v:=p,recovered:=true}]/\v0=p)
  (h:AT P (⟨some d,.call ⟨.builtin .recover,#[],B⟩,ty,pos,af,none⟩::m).toArray (fun _ _ _ _=>False) (WC P ⟨N,none⟩ y (Cw P fn G fun _ _=>False)) m (upd (argF args) d v0) [] w):
  CallsDIn Fence.wide 0 P g args.toArray u w (fun e s w'=>match e with| .returned v=>s=u1/\G v w'|_=>False):=by
 have D:(args.toArray++Array.replicate (fn.ntmps-args.toArray.size) undef).size=N:=by simp[M];omega
 refine callsDIn_of_wpSIn L S trivial fun q r V=>?_;refine wpSIn_seq (wpSIn_region ?_)
 have a1:List.range (⟨some d,.call ⟨.builtin .recover,#[],B⟩,ty,pos,af,none⟩::m:List Oper).toArray.size=0::(List.range m.length).map (·+1):=by
  rw[List.size_toArray,List.length_cons,List.range_succ_eq_map]
 rw[a1];unfold wpOpsSIn;simp only[List.getElem?_toArray,List.getElem?_cons_zero];refine⟨fun _ _=>trivial,?_⟩;simp only[Region.wanted,if_true]
 have hr:∀ρ:Operand->Value,(execOp ρ ⟨some d,.call ⟨.builtin .recover,#[],B⟩,ty,pos,af,none⟩).run P w=.ok .recover w:=fun ρ=>by
  simp[execOp,resolve,invoke,builtin]
 rw[hr]
 have A:∀t:Frame,t={q with mode:=u1}->wpOpsSIn Fence.wide 0 P (⟨some d,.call ⟨.builtin .recover,#[],B⟩,ty,pos,af,none⟩::m:List Oper).toArray
   (Exit.thenS (y.wpSIn Fence.wide 0 P (bodyPostS P fn q r fun e s w'=>match e with| .returned v=>s=u1/\G v w'|_=>False)) (bodyPostS P fn q r fun e s w'=>match e with| .returned v=>s=u1/\G v w'|_=>False))
   ((List.range m.length).map (·+1)) (({tmps:=args.toArray++Array.replicate (fn.ntmps-args.toArray.size) undef,defers:=[]}:Act).put (some d) v0) (t::r) w:=by
  rintro t rfl;refine S_of_WOps (N:=N) (K:=WC P ⟨N,none⟩ y (Cw P fn G fun _ _=>False)) (fun _=>trivial) ?_ _ m _ w ?_ a0 (by rw[size_put];exact D) ?_
  ·intro E w' I hwc;have hp:=CE (P:=P) (n:=⟨N,none⟩) y (Cw P fn G fun _ _=>False) E w' I hy hwc;refine wpSIn_of_wpIn rfl (wpIn_mono hp ?_);rintro e a2 w2⟨_,T⟩;cases e with
   |normal=>obtain⟨X,W⟩:=T;obtain⟨l,x,z⟩:=run_results W;exact⟨X,_,rfl,_,z,rfl,x⟩
   |ret=>obtain⟨X,W⟩:=T;obtain⟨l,x,z⟩:=run_results W;exact⟨X,_,rfl,_,z,rfl,x⟩
   |panic ch=>exact T.2.elim
   |exit _=>exact T.elim
   |goto _=>exact T.elim
   |outgrown=>exact T.elim
  ·refine List.ext_getElem? fun i=>?_;rw[List.map_map,List.getElem?_map,List.getElem?_map];by_cases H:i<m.length
   ·rw[List.getElem?_range H];simp[H]
   ·rw[List.getElem?_eq_none (by simpa using H),List.getElem?_eq_none (by simpa using H)];rfl
  ·rw[defers_put,toFr_put v0 (by rw[D];exact C),toFr_args];exact h
 rcases hu with⟨rfl,rfl,rfl⟩|⟨p,rfl,rfl,rfl⟩
 ·have F:recoverD (q::r)=none:=by simp[recoverD,V]
  rw[F];exact A q (by cases q;simp_all)
 ·have F:recoverD (q::r)=some (v0,{q with mode:=.panicking [{v:=v0,recovered:=true}]}::r):=by simp[recoverD,V]
  rw[F];exact A _ rfl
section
variable {P:Program}{fn:Func}{R:Value->World->Prop}{Y:List PanicEntry->World->Prop}{f:Fr}{w:World}{ds:DS}
theorem run_loadVar_one{T b o:Nat}{v:Value}(u:Ck P T)(V:w.cell? ⟨b,o,none⟩=some v):(loadVar T ⟨b,o,none⟩).run P w=.ok v w:=by
 obtain⟨g,X,W⟩:=u.out
 have e:(isAgg T).run P w=.ok false w:=by
  simp only[isAgg,Sem.run_bind,run_underlying X,Result.andThen_ok];cases g<;>simp_all [aggD]
 simp only[loadVar,Sem.run_bind,e,Result.andThen_ok];simp[V]
theorem A9{T b o t:Nat}{v:Value}{l:List ResultVar}{k:LV->Prop}[hT:Ck P T](I:f t=.pointer (some ⟨b,o,none⟩))(V:w.cell? ⟨b,o,none⟩=some v)(h:DG P l f w fun r=>k (v::r)):DG P (.cell t T::l) f w k:=
 ⟨_,v,I,run_loadVar_one hT V,h⟩
theorem BB(h:DG P fn.results.toList f w fun l=>R (tupleOf l) w):DV P fn R Y .ret f [] w:=h
theorem finD_ret_def{g:FuncId}{a c:LV}[hg:AF P g]{G:World->Prop}(V:CallsDIn Fence.wide 0 P g (a++c).toArray .returning w (fun e p w'=>match e with| .returned _=>p=.returning/\G w'|_=>False))
  (h:∀w',G w'->DG P fn.results.toList f w' fun l=>R (tupleOf l) w'):DV P fn R Y .ret f [{target:=.fn (.func g) c.toArray,args:=a.toArray}] w:=by
 obtain⟨m,X,W,q⟩:=hg.out;refine⟨by simp,.inr ⟨_,_,g,(a++c).toArray,rfl,?_,V.mono ?_⟩⟩
 ·simp only[invoke,callFunc,program];simp[Sem.run,X,W,q]
 ·intro e p w' F;cases e with
  |returned v=>obtain⟨rfl,C⟩:=F;exact h w' C
  |panicked _=>exact F.elim
  |outgrown=>exact F.elim
theorem finD_pan_def{g:FuncId}{a c:LV}{p:Value}[hg:AF P g]{G:World->Prop}(V:CallsDIn Fence.wide 0 P g (a++c).toArray (.panicking [{v:=p,recovered:=false}]) w (fun e q w'=>match e with| .returned _=>q=.panicking [{v:=p,recovered:=true}]/\G w'|_=>False))
  (h:∀w',G w'->DG P fn.results.toList f w' fun l=>R (tupleOf l) w'):DV P fn R Y (.panic [{v:=p,recovered:=false}]) f [{target:=.fn (.func g) c.toArray,args:=a.toArray}] w:=by
 obtain⟨m,X,W,r⟩:=hg.out;refine⟨by simp,.inr ⟨_,_,g,(a++c).toArray,rfl,?_,V.mono ?_⟩⟩
 ·simp only[invoke,callFunc,program];simp[Sem.run,X,W,r]
 ·intro e q w' F;cases e with
  |returned v=>obtain⟨rfl,C⟩:=F;exact h w' C
  |panicked _=>exact F.elim
  |outgrown=>exact F.elim
end
class Nx (g:Prop) (c s:outParam Prop):Prop where
 imp:c->s->g
theorem nx{g c s:Prop}[h:Nx g c s](y:c)(x:s):g:=h.imp y x
section
variable {P:Program}{n:Cf}{Q:DY}{f:Fr}{ds:DS}{w:World}{a b:Code}{k:Fr->DS->World->Prop}{i j l:Nat}{o:Operand}{c:List PanicEntry}{all:Array Oper}{Z:Fr->DS->List PanicEntry->World->Prop}
instance :Nx (WC P n (.seq a b) Q f ds w) (0=0) (WC P n a (Bo (WC P n b Q) Q) f ds w):=⟨fun _=>C_seq⟩
instance :Nx (WC P n (.block i a) Q f ds w) (0=0) (WC P n a (BI i Q) f ds w):=⟨fun _=>C_block⟩
instance :Nx (WC P n (.scope a) Q f ds w) (0=0) (WC P n a (Bj Q) f ds w):=⟨fun _=>C_scope⟩
instance :Nx (WC P n .skip Q f ds w) (0=0) (Q .normal f ds w):=⟨fun _=>C_skip⟩
instance :Nx (WC P n (.label l) Q f ds w) (0=0) (Q .normal f ds w):=⟨fun _=>C_label⟩
instance :Nx (WC P n .ret Q f ds w) (0=0) (Q .ret f ds w):=⟨fun _=>C_ret⟩
instance :Nx (WC P n (.exit i) Q f ds w) (0=0) (Q (.exit i) f ds w):=⟨fun _=>C_exit⟩
instance :Nx (Bo k Q .normal f ds w) (0=0) (k f ds w):=⟨fun _=>Q_then⟩
instance :Nx (Bo k Q .ret f ds w) (0=0) (Q .ret f ds w):=⟨fun _=>Q_then_ret⟩
instance :Nx (Bo k Q (.exit i) f ds w) (0=0) (Q (.exit i) f ds w):=⟨fun _=>Q_then_exit⟩
instance :Nx (Bo k Q (.panic c) f ds w) (0=0) (Q (.panic c) f ds w):=⟨fun _=>Q_then_panic⟩
instance :Nx (BI i Q .normal f ds w) (0=0) (Q .normal f ds w):=⟨fun _=>Q_block⟩
instance :Nx (BI i Q .ret f ds w) (0=0) (Q .ret f ds w):=⟨fun _=>Q_block_ret⟩
instance :Nx (BI i Q (.panic c) f ds w) (0=0) (Q (.panic c) f ds w):=⟨fun _=>Q_block_panic⟩
instance :Nx (BI i Q (.exit i) f ds w) (0=0) (Q .normal f ds w):=⟨fun _=>Q_block_here⟩
instance :Nx (asnQ k .normal f ds w) (0=0) (k f ds w):=⟨fun _=>Q_asn⟩
instance :Nx (Bj Q .normal f ds w) (0=0) (Q .normal f ds w):=⟨fun _=>fun h=>h⟩
instance :Nx (Bj Q .ret f ds w) (0=0) (Q .ret f ds w):=⟨fun _=>fun h=>h⟩
instance :Nx (Bj Q (.exit i) f ds w) (0=0) (Q (.exit i) f ds w):=⟨fun _=>fun h=>h⟩
instance :Nx (Bj Q (.panic c) f ds w) (0=0) (Q (.panic c) f ds w):=⟨fun _=>fun h=>h⟩
instance :Nx (AT P all Z k [] f ds w) (0=0) (k f ds w):=⟨fun _=>AA⟩
instance (priority:=low):Nx (BI j Q (.exit i) f ds w) (Nat.beq i j=false) (Q (.exit i) f ds w):=⟨Q_block_on⟩
instance :Nx (WC P n (.cond o a b) Q f ds w) (ev f o=.bool true) (WC P n a Q f ds w):=⟨C_cond_t⟩
theorem nf(V:ev f o=.bool false)(h:WC P n b Q f ds w):WC P n (.cond o a b) Q f ds w:=C_cond_f V h
end
end
theorem mSx{p:Prop}(h:p:=by first|(simp;done)|(simp;omega)|(intros;simp at*;omega)):p:=h
theorem mSy{p:Prop}(h:p:=by first|(simp;done)|(intro x hx hlt;simp at hx;omega)|(intro x hx hlt;simp at hx⊢;omega)|(intro x hx hlt;simp at hx;rcases hx with rfl|rfl<;>first|omega|(simp;done)|(simp;omega))):p:=h
theorem mKk{p:Prop}(h:p:=by first|assumption|(apply New.E;assumption)|(apply Put.E;assumption)):p:=h
section
variable {mk:Prop}[MK mk]{X:List Nat}{w w':World}{ok:Nat->Prop}
theorem kB{b:Nat}{T:TypeId}{L:LV}(k:Keep X w w')(h:Blk w b T L)(hb:b∉X):Blk w' b T L:=h.E k hb
theorem kC{b off:Nat}{cs:LV}(k:Keep X w w')(h:Cells w b off cs)(hb:b∉X):Cells w' b off cs:=h.E k hb
theorem kS{v:Value}{n:Nat}{cs:LV}(k:Keep X w w')(h:Sl ok w v n cs)(hX:∀b,ok b->b∉X):Sl ok w' v n cs:=h.E k hX
theorem kT{Y:List Nat}{a:World}(k:Keep Y w w')(h:Keep X a w)(hY:∀x∈Y,x<a.heap.size->x∈X):Keep X a w':=h.trans k hY
end
theorem mKp{p:Prop}(h:p:=by
  first
  |assumption|apply Keep.refl|(apply New.E;assumption)|(apply Put.E;assumption)|(apply New.D;assumption)|(apply Put.D;assumption)
  |(apply Blk.cell;assumption;rfl)|(apply Blk.cell;apply New.D;assumption;rfl)|(apply Blk.cell;apply Put.D;assumption;rfl)
  |(apply kB;exact mKk;exact mKp;exact mSx)|(apply Keep.cell;exact mKk;exact mKp;exact mSx)|(apply kC;exact mKk;exact mKp;exact mSx)|(apply kS;exact mKk;exact mKp;exact mSx)
  |(apply FAt.keep';exact mKk;exact mKp;exact mSx)|(apply FsAt.keep';exact mKk;exact mKp;exact mSx)|(apply RsAt.keep';exact mKk;exact mKp;exact mSx)|(apply SlAt.keep';exact mKk;exact mKp;exact mSx)|(apply PF.keep';exact mKk;exact mKp;exact mSx)
  |(apply kT;exact mKk;exact mKp;exact mSy)):p:=h
theorem mFa{S:World->Prop}{W:World}{a:Addr}{v:Value}(h:∀V,S V->V.cell? a=some v)(hW:S W):W.cell? a=some v:=h W hW
theorem mFs{S:World->Prop}{W:World}{b o:Nat}{cs:LV}(h:∀V,S V->Cells V b o cs)(hW:S W):Cells W b o cs:=h W hW
theorem mLk{p:Prop}(h:p:=by
  first
  |assumption
  |(apply Blk.cell;assumption;rfl)
  |(apply mFa;assumption;exact hW)
  |(apply hW.cell;assumption;simp;done)
  |(apply hW.cell;apply Blk.cell;assumption;rfl;simp;done)
  |exact mKp):p:=h
theorem mLs{p:Prop}(h:p:=by
  first
  |assumption
  |(apply Blk.cells;assumption)
  |(apply mFs;assumption;exact hW)
  |(apply hW.cells;assumption;simp;done)
  |exact mKp):p:=h
theorem mOo{p:Prop}(h:p:=by omega):p:=h
theorem mRr{p:Prop}(h:p:=by first|exact CD mOo mOo|exact Cl mOo mOo|exact CB mOo mOo):p:=h
structure Bx(p:Prop):Prop where
  x:p
section
variable {P:Program}{all:Array Oper}{Z:Fr->DS->List PanicEntry->World->Prop}{K:Fr->DS->World->Prop}{rest:List Oper}{f:Fr}{ds:DS}{w:World}{d:Nat}{ty:TypeId}{pos:String}{af:Array Edge}{T U:TypeId}{x y:Operand}
abbrev W1(P:Program)(all:Array Oper)(Z:Fr->DS->List PanicEntry->World->Prop)(K:Fr->DS->World->Prop)(rest:List Oper)(f:Fr)(ds:DS)(w:World)(d:Nat)(ty:TypeId)(pos:String)(af:Array Edge)(o:Op):Prop:=AT P all Z K (⟨some d,o,ty,pos,af,none⟩::rest) f ds w
theorem g_move(h:W1 P all Z K rest f ds w d ty pos af (.move x)):AT P all Z K (⟨some d,.move x,ty,pos,af,none⟩::rest) f ds w:=h
theorem g_load(h:W1 P all Z K rest f ds w d ty pos af (.load T x)):AT P all Z K (⟨some d,.load T x,ty,pos,af,none⟩::rest) f ds w:=h
theorem g_bin{o:BinOp}(h:W1 P all Z K rest f ds w d ty pos af (.binOp o T x y U)):AT P all Z K (⟨some d,.binOp o T x y U,ty,pos,af,none⟩::rest) f ds w:=h
theorem g_idx(h:W1 P all Z K rest f ds w d ty pos af (.indexAddr T x y)):AT P all Z K (⟨some d,.indexAddr T x y,ty,pos,af,none⟩::rest) f ds w:=h
theorem g_slice{a b c:Option Operand}(h:W1 P all Z K rest f ds w d ty pos af (.slice T x a b c)):AT P all Z K (⟨some d,.slice T x a b c,ty,pos,af,none⟩::rest) f ds w:=h
end
theorem mO1{G N:Prop}(k:N)(h:Bx N->G:=by
  intro k
  first
  |(apply g_move
    first
    |(apply AY;rfl;exact k.x)
    |(apply Af;rfl;exact k.x)
    |(apply Av;rfl;exact k.x)
    |(apply AI;rfl;exact k.x)
    |(apply Cb;rfl;exact k.x)
    |(apply M_agg;rfl;exact k.x)
    |(apply M_tuple;rfl;exact k.x)
    |(apply M_func;rfl;exact k.x)
    |(apply M_map;rfl;exact k.x)
    |(apply W_move;exact k.x))
  |(apply AD;rfl;exact k.x)
  |(apply g_load
    first
    |(apply AL;rfl;exact mLk;exact k.x)
    |(apply Bp;rfl;exact mKp;rfl;exact k.x)
    |(refine AQ rfl (by rfl) mLs ?_;exact k.x))
  |(apply AM;rfl;exact k.x)
  |(apply g_bin
    first
    |(apply Dh;rfl;rfl;exact fun _=>k.x;exact fun hc=>absurd hc mOo)
    |(apply Dh;rfl;rfl;exact fun hc=>absurd hc mOo;exact fun _=>k.x)
    |(apply Bm;rfl;rfl;exact fun _=>k.x;exact fun hc=>absurd mOo hc)
    |(apply Bm;rfl;rfl;exact fun hc=>absurd hc mOo;exact fun _=>k.x)
    |(apply W_add;rfl;rfl;exact mRr;exact k.x)
    |(apply W_neq;rfl;rfl;exact fun _=>k.x;exact fun hc=>absurd hc mOo)
    |(apply W_neq;rfl;rfl;exact fun hc=>absurd mOo hc;exact fun _=>k.x)
    |(apply W_sub;rfl;rfl;exact mRr;exact k.x)
    |(apply W_mul;rfl;rfl;exact mRr;exact k.x)
    |(apply Cr;rfl;rfl;exact fun _=>k.x;exact fun hc=>absurd hc mOo)
    |(apply Cr;rfl;rfl;exact fun hc=>absurd hc mOo;exact fun _=>k.x)
    |(apply W_gtr;rfl;rfl;exact fun _=>k.x;exact fun hc=>absurd hc mOo)
    |(apply W_gtr;rfl;rfl;exact fun hc=>absurd hc mOo;exact fun _=>k.x)
    |(apply W_geq;rfl;rfl;exact fun _=>k.x;exact fun hc=>absurd hc mOo)
    |(apply W_geq;rfl;rfl;exact fun hc=>absurd hc mOo;exact fun _=>k.x)
    |(apply W_beql;rfl;rfl;exact k.x)
    |(apply W_bneq;rfl;rfl;exact k.x)
    |(apply W_quo;rfl;rfl;exact mOo;exact mOo;exact mRr;exact k.x)
    |(apply W_rem;rfl;rfl;exact mOo;exact mOo;exact k.x))
  |(apply AO;exact k.x)
  |(apply g_idx
    first
    |(apply W_idx1;rfl;rfl;assumption;exact mOo;exact k.x)
    |(apply W_idx1;rfl;rfl;rfl;exact mOo;exact k.x)
    |(apply Cd;rfl;rfl;assumption;exact mOo;exact k.x)
    |(apply Cd;rfl;rfl;rfl;exact mOo;exact k.x)
    |(apply Dp;rfl;rfl;exact mOo;exact mOo;exact k.x)
    |(apply Bd;rfl;rfl;exact mOo;exact mOo;exact k.x))
  |(apply Am;rfl;exact k.x)
  |(apply Al;rfl;exact k.x)
  |(apply Bt;rfl;exact k.x)
  |(apply W_slen;rfl;exact k.x)
  |(apply Du;rfl;rfl;exact k.x)
  |(apply W_not;rfl;exact k.x)
  |(apply Dl;rfl;rfl;exact k.x)
  |(apply Bv;rfl;rfl;exact k.x)
  |(apply W_buildArr;rfl;rfl;exact k.x)
  |(apply W_conv;rfl;exact mRr;exact k.x)
  |(apply DZ;exact k.x)
  |(apply g_slice
    first
    |(apply W_slice_arr;rfl;exact k.x)
    |(apply W_slice_lh;rfl;rfl;rfl;exact mOo;exact mOo;exact mOo;exact k.x)
    |(apply W_slice_l;rfl;rfl;exact mOo;exact mOo;exact k.x)
    |(apply W_slice_h;rfl;rfl;exact mOo;exact mOo;exact k.x)
    |(apply W_sslice_lh;rfl;rfl;rfl;exact mOo;exact mOo;exact k.x)
    |(apply W_sslice_l;rfl;rfl;exact mOo;exact k.x)
    |(apply W_sslice_h;rfl;rfl;exact mOo;exact k.x))
  |(apply W_sidx;rfl;rfl;assumption;exact k.x)
  |(refine W_sidx (j:=0) rfl rfl (by assumption) ?_;exact k.x)):G:=h ⟨k⟩
theorem go{G N:Prop}(k:N)(h:Bx N->G:=by
  intro k
  repeat' first
    |(apply nx;rfl)
    |(apply nf;rfl)
    |apply AJ
    |(apply D_R;rfl;rfl
      ·intro W hW
       try subst hW
       repeat' first|(apply AN;rfl)|(apply Ak;rfl)|exact AA ⟨rfl,rfl,rfl⟩|refine mO1 ?_)
    |apply Bq
    |(apply AN;rfl)
    |(apply Ak;rfl)
    |refine mO1 ?_
    |(apply C8;rfl;rfl;rfl;rfl;intro _;rotate_left;exact fun hc=>absurd hc mOo)
    |(apply C8;rfl;rfl;rfl;rfl;exact fun hc=>absurd hc mOo;intro _)
    |(apply D_leq;rfl;rfl;rfl;rfl;intro _;rotate_left;exact fun hc=>absurd hc mOo)
    |(apply D_leq;rfl;rfl;rfl;rfl;exact fun hc=>absurd hc mOo;intro _)
    |(apply D_gtr;rfl;rfl;rfl;rfl;intro _;rotate_left;exact fun hc=>absurd hc mOo)
    |(apply D_gtr;rfl;rfl;rfl;rfl;exact fun hc=>absurd hc mOo;intro _)
    |(apply D_geq;rfl;rfl;rfl;rfl;intro _;rotate_left;exact fun hc=>absurd hc mOo)
    |(apply D_geq;rfl;rfl;rfl;rfl;exact fun hc=>absurd hc mOo;intro _)
    |(apply D_eql;rfl;rfl;rfl;rfl;intro _;rotate_left;exact fun hc=>absurd mOo hc)
    |(apply D_eql;rfl;rfl;rfl;rfl;exact fun hc=>absurd hc mOo;intro _)
    |(apply D_neq;rfl;rfl;rfl;rfl;intro _;rotate_left;exact fun hc=>absurd hc mOo)
    |(apply D_neq;rfl;rfl;rfl;rfl;exact fun hc=>absurd mOo hc;intro _)
  exact k.x):G:=h ⟨k⟩
section
variable {mk:Prop}[MK mk]
def BM(c:UInt8):Bool:=decide (97<=c.toNat)&&decide (c.toNat<=122)
def isUp(c:UInt8):Bool:=decide (65<=c.toNat)&&decide (c.toNat<=90)
def A6(c:UInt8):Bool:=decide (48<=c.toNat)&&decide (c.toNat<=57)
def isLet(c:UInt8):Bool:=BM c||isUp c
def inName(c:UInt8):Bool:=BM c||A6 c||decide (c.toNat=95)
def inComm(c:UInt8):Bool:= !decide (c.toNat=10)
inductive Fml where
 |mk (op:Int) (name:LU) (val bound:Int) (args:List Fml)
def Fml.op:Fml->Int| .mk o _ _ _ _=>o
def Fml.name:Fml->LU| .mk _ n _ _ _=>n
def Fml.val:Fml->Int| .mk _ _ v _ _=>v
def Fml.bound:Fml->Int| .mk _ _ _ b _=>b
def Fml.args:Fml->List Fml| .mk _ _ _ _ a=>a
def Ag:Fml:=⟨0,[],0,0,[]⟩
structure Sgn where
 name:LU
 input:Bool
 size:Int
structure Rqm where
 part:LU
 name:LU
 kind:Int
 formula:Fml
structure Spc where
 sigs:List Sgn
 reqs:List Rqm
structure Edt where
 kind:Int
 req:Rqm
def keysL:List (LU):=[[105,110,112,117,116],[111,117,116,112,117,116],[112,97,114,116],[97,115,115,117,109,101],[103,117,97,114,97,110,116,101,101],[116,114,117,101],[102,97,108,115,101],[97,100,100],[100,114,111,112],[114,101,112,108,97,99,101]]
def restB(c:UInt8):Bool:=BM c||A6 c||decide (c.toNat=95)
def CH(s:LU):Bool:=
 decide (1<=s.length)&&decide (s.length<=12)&&BM (s.getD 0 0)&&s.all restB&& !decide (s∈keysL)
def nodeF(N:Int)(l:List Fml):Fml:=match l with
 | [a]=>a
 |l=>⟨N,[],0,0,l⟩
def isF(s:LU)(n:Int):Fml:=⟨3,s,n,0,[]⟩
def notF(f:Fml):Fml:=⟨4,[],0,0,[f]⟩
abbrev LF:=List Fml
def Test(g:FuncId)(p:UInt8->Bool):Prop:=∀(c:UInt8)(w:World),Fn Zp g [enc8 c] w fun v Z=>v=.bool (p c)/\Z=w
theorem small_ok:Test 246 BM:=by
 intro c w;refine AG Tryz.func246 rfl Tryz.ntmps246 ?_;repeat refine nx rfl ?_
 refine AJ (AO (AI rfl ?_));repeat refine nx rfl ?_
 (refine AJ (AY rfl ?_)<;>(refine Cr rfl rfl (fun V=>?_) (fun V=>?_)<;>try omega)<;>refine AI rfl ?_<;>(first|refine Ak rfl ?_|(refine AN rfl ?_;refine AY rfl ?_))<;>(first|refine Ak rfl ?_|(refine AN rfl ?_;(refine Cr rfl rfl (fun V=>?_) (fun V=>?_)<;>try omega)))<;>((first|refine Am rfl ?_|refine Al rfl ?_);refine AI rfl ?_)<;>refine AO (AI rfl (AA ?_)))
 all_goals
  repeat refine nx rfl ?_
  exact AB rfl ⟨by simp[BM,upd,Nat.beq];omega,rfl⟩
theorem dig_ok:Test 247 A6:=by
 intro c w;refine AG Tryz.func247 rfl Tryz.ntmps247 ?_;repeat refine nx rfl ?_
 refine AJ (AO (AI rfl ?_));repeat refine nx rfl ?_
 (refine AJ (AY rfl ?_)<;>(refine Cr rfl rfl (fun V=>?_) (fun V=>?_)<;>try omega)<;>refine AI rfl ?_<;>(first|refine Ak rfl ?_|(refine AN rfl ?_;refine AY rfl ?_))<;>(first|refine Ak rfl ?_|(refine AN rfl ?_;(refine Cr rfl rfl (fun V=>?_) (fun V=>?_)<;>try omega)))<;>((first|refine Am rfl ?_|refine Al rfl ?_);refine AI rfl ?_)<;>refine AO (AI rfl (AA ?_)))
 all_goals
  repeat refine nx rfl ?_
  exact AB rfl ⟨by simp[A6,upd,Nat.beq];omega,rfl⟩
theorem comm_ok:Test 244 inComm:=by
 intro c w;refine AG Tryz.func244 rfl Tryz.ntmps244 ?_;repeat refine nx rfl ?_
 refine AJ (AO (AI rfl ?_));repeat refine nx rfl ?_
 (refine AJ (AY rfl ?_)<;>(refine W_neq rfl rfl (fun V=>?_) (fun V=>?_)<;>try omega)<;>refine AO (AI rfl (AA ?_)))
 all_goals
  repeat refine nx rfl ?_
  exact AB rfl ⟨by simp[inComm,upd,Nat.beq];omega,rfl⟩
theorem let_ok:Test 249 isLet:=by
 intro c w;refine AG Tryz.func249 rfl Tryz.ntmps249 (go ?_);refine AE (small_ok c w) rfl ?_;rintro v Z⟨rfl,rfl⟩;cases hs:BM c with
 |true=>
  refine go ?_
  all_goals
   refine go ?_;exact AB rfl ⟨by simp[isLet,hs,upd,Nat.beq],rfl⟩
 |false=>
  (refine AI rfl (AN rfl (AY rfl ?_))<;>(refine AN rfl ?_;(refine Cr rfl rfl (fun V=>?_) (fun V=>?_)<;>try omega))<;>refine AN rfl (AI rfl ?_)<;>(first|refine Ak rfl ?_|(refine AN rfl ?_;refine AY rfl ?_))<;>(first|refine Ak rfl ?_|(refine AN rfl ?_;(refine Cr rfl rfl (fun V=>?_) (fun V=>?_)<;>try omega)))<;>(refine AN rfl ?_;((first|refine Am rfl ?_|refine Al rfl ?_);refine AI rfl ?_))<;>refine Al rfl (AI rfl (AO (AI rfl (AA ?_)))))
  all_goals
   repeat refine nx rfl ?_
   exact AB rfl ⟨by simp[isLet,hs,isUp,upd,Nat.beq];omega,rfl⟩
theorem name_ok:Test 245 inName:=by
 intro c w;refine AG Tryz.func245 rfl Tryz.ntmps245 (go ?_);refine AE (small_ok c w) rfl ?_;rintro v Z⟨rfl,rfl⟩;cases hs:BM c with
 |true=>
  refine go ?_
  all_goals
   refine go ?_;exact AB rfl ⟨by simp[inName,hs,upd,Nat.beq],rfl⟩
 |false=>
  refine go ?_;refine AE (dig_ok c _) rfl ?_;rintro v Z⟨rfl,rfl⟩;cases hd:A6 c with
  |true=>
   refine go ?_
   all_goals
    refine go ?_;exact AB rfl ⟨by simp[inName,hs,hd,upd,Nat.beq],rfl⟩
  |false=>
   (refine Al rfl (AI rfl (AI rfl (AN rfl (AY rfl ?_))))<;>(refine AN rfl ?_;(refine Bm rfl rfl (fun V=>?_) (fun V=>?_)<;>try omega))<;>refine Al rfl (AI rfl (AO (AI rfl (AA ?_)))))
   all_goals
    repeat refine nx rfl ?_
    exact AB rfl ⟨by simp[inName,hs,hd,upd,Nat.beq];omega,rfl⟩
def hasPre(t s:LU):Bool:=decide (s.length<=t.length)&&decide (t.take s.length=s)
theorem hasPre_iff(t s:LU):hasPre t s=true↔s<+:t:=by
 simp only[hasPre,Bool.and_eq_true,decide_eq_true_eq,List.prefix_iff_eq_take];constructor
 ·rintro⟨_,h⟩;exact h.symm
 ·intro h;exact⟨by have:=congrArg List.length h;simp at this;omega,h.symm⟩
theorem pre2_ok(t s:LU)(w:World):Fn Zp 270 [AK t,AK s] w fun v w'=>v=.bool (hasPre t s)/\w'=w:=by
 refine AG Tryz.func270 rfl Tryz.ntmps270 ?_;repeat refine nx rfl ?_
 refine AJ (AO (AI rfl ?_));repeat refine nx rfl ?_
 (refine AJ (Cb rfl (W_slen rfl (Cb rfl (W_slen rfl ?_))))<;>(refine W_geq rfl rfl (fun V=>?_) (fun V=>?_)<;>try omega)<;>refine AI rfl ?_<;>(first|refine Ak rfl ?_|(refine AN rfl ?_;refine Cb rfl ?_))<;>(first|refine Ak rfl ?_|(refine AN rfl ?_;refine Cb rfl ?_))<;>(first|refine Ak rfl ?_|(refine AN rfl ?_;refine W_slen rfl ?_))<;>(first|refine Ak rfl ?_|(refine AN rfl ?_;refine W_sslice_h rfl rfl U ?_))<;>(first|refine Ak rfl ?_|(refine AN rfl ?_;refine Cb rfl ?_))<;>(first|refine Ak rfl ?_|(refine AN rfl ?_;refine Bn rfl rfl (fun V=>?_) (fun V=>?_)))<;>((first|refine Am rfl ?_|refine Al rfl ?_);refine AI rfl ?_)<;>refine AO (AI rfl (AA ?_)))
 all_goals
  refine go ?_;exact AB rfl ⟨by simp[hasPre,upd,Nat.beq];first|omega|(intro;omega)|(intro h;exact absurd h Dz)|exact⟨by omega,by assumption⟩|skip,rfl⟩
theorem pre_ok(t s:LU)(w:World):Fn Zp 250 [AK t,AK s] w fun v w'=>v=.bool (hasPre t s)/\w'=w:=by
 refine AG Tryz.func250 rfl Tryz.ntmps250 (go ?_);refine AE (pre2_ok t s w) rfl ?_;rintro v w'⟨rfl,rfl⟩;exact El
abbrev pt(s:Nat):Value:=.pointer (sm s)
theorem Ad{w:World}{B e size n g:Nat}{v:Value}{xs:LV}(h:w.ownsRow B e size v n xs)(t:v.ownBlock=some g):B<=g/\g<w.heap.size:=by
 rcases h.2 with⟨rfl,_⟩|⟨b,a,c,rfl,X,W,_⟩
 ·cases t
 ·cases t;exact⟨X,(Array.getElem?_eq_some_iff.1 W).1⟩
inductive FAt(ok:Nat->Prop)(w:World):Value->Fml->Prop where
 |mk (op:Int) (name:LU) (val bound:Int) (args:LF) (av:Value) (L:List (LV)) (hS:Sl ok w av args.length L.flatten) (hL:L.length=args.length) (h5:∀c∈L,c.length=5)
  (hA:∀(i:Nat)(c:LV)(g:Fml),L[i]?=some c->args[i]?=some g->FAt ok w (.agg c.toArray) g):FAt ok w (.agg #[iV op,AK name,iV val,iV bound,av]) ⟨op,name,val,bound,args⟩
theorem FAt.E{ok:Nat->Prop}{X:List Nat}{w w':World}{v:Value}{f:Fml}(h:FAt ok w v f)(k:Keep X w w')(W:∀b,ok b->b∉X):FAt ok w' v f:=by
 induction h with
 |mk op name val bound args av L hS hL h5 hA ih=>exact .mk op name val bound args av L (hS.E k W) hL h5 ih
theorem FAt.ext{ok:Nat->Prop}{w w':World}{v:Value}{f:Fml}(h:FAt ok w v f)(k:Ext w w'):FAt ok w' v f:=h.E k fun _ _=>by simp
theorem FAt.mono{ok ok':Nat->Prop}{w:World}{v:Value}{f:Fml}(h:FAt ok w v f)(P:∀b,ok b->ok' b):FAt ok' w v f:=by
 induction h with
 |mk op name val bound args av L hS hL h5 hA ih=>exact .mk op name val bound args av L (hS.mono P) hL h5 ih
theorem Sl.lt{ok:Nat->Prop}{w:World}{v:Value}{n:Nat}{cs:LV}(h:Sl ok w v n cs)(V:n≠0->cs≠[]):Sl (fun b=>ok b/\b<w.heap.size) w v n cs:=by
 obtain⟨a,c,q,X,W,Q,z⟩:=h;refine⟨a,c,q,X,W,Q,?_⟩;by_cases s:n=0
 ·exact .inl s
 ·obtain⟨b,p,I,S,i⟩:=z.resolve_left s;refine .inr ⟨b,p,I,⟨S,?_⟩,i⟩
  match cs,V s with
  |u::cs,_=>exact World.block_lt_of_cell? w _ (i 0 u rfl)
theorem flatten_ne{L:List (LV)}{n:Nat}(A:L.length=n)(S:∀c∈L,c.length=5):n≠0->L.flatten≠[]:=by
 intro s e
 match L,A with
 | [],A=>exact s A.symm
 |c::L,_=>
  have:=S c O;simp at e;simp[e.1]at this
theorem FAt.lt{ok:Nat->Prop}{w:World}{v:Value}{f:Fml}(h:FAt ok w v f):FAt (fun b=>ok b/\b<w.heap.size) w v f:=by
 induction h with
 |mk op name val bound args av L hS hL h5 hA ih=>exact .mk op name val bound args av L (hS.lt (flatten_ne hL h5)) hL h5 ih
theorem FAt.form{ok:Nat->Prop}{w:World}{v:Value}{f:Fml}(h:FAt ok w v f):∃p,v=.agg #[iV f.op,AK f.name,iV f.val,iV f.bound,p]/\
  ∃L:List (LV),Sl ok w p f.args.length L.flatten/\L.length=f.args.length/\(∀c∈L,c.length=5)/\∀(i:Nat)(c:LV)(g:Fml),L[i]?=some c->f.args[i]?=some g->FAt ok w (.agg c.toArray) g:=by
 cases h with
 |mk op name val bound args p L hS hL h5 hA=>exact⟨p,rfl,L,hS,hL,h5,hA⟩
theorem FAt.leaf(ok:Nat->Prop)(w:World)(N:Int)(name:LU)(M A:Int):FAt ok w (.agg #[iV N,AK name,iV M,iV A,.slice none 0 0]) ⟨N,name,M,A,[]⟩:=
 .mk N name M A [] _ [] ⟨none,0,rfl,by simp,by omega,fun _=>rfl,.inl rfl⟩ rfl (fun c V=>by cases V) (fun i c g h=>by simp at h)
def FsAt(ok:Nat->Prop)(w:World)(L:List (LV))(l:LF):Prop:=
 L.length=l.length/\(∀c∈L,c.length=5)/\∀(i:Nat)(c:LV)(g:Fml),L[i]?=some c->l[i]?=some g->FAt ok w (.agg c.toArray) g
theorem FsAt.nil(ok:Nat->Prop)(w:World):FsAt ok w [] []:=⟨rfl,(fun c V=>by cases V),fun i c g h=>by simp at h⟩
theorem FsAt.cons{ok:Nat->Prop}{w:World}{c:LV}{f:Fml}{L:List (LV)}{l:LF}(h:FAt ok w (.agg c.toArray) f)(V:c.length=5)(M:FsAt ok w L l):FsAt ok w (c::L) (f::l):=by
 refine⟨by simp[M.1],fun d C=>?_,fun i d g H t=>?_⟩
 ·rcases List.mem_cons.1 C with rfl|C
  ·exact V
  ·exact M.2.1 d C
 ·cases i with
  |zero=>simp at H t;subst H t;exact h
  |succ i=>exact M.2.2 i d g (by simpa using H) EP
theorem FsAt.snoc{ok:Nat->Prop}{w:World}{c:LV}{f:Fml}:∀{L:List (LV)}{l:LF},FsAt ok w L l->FAt ok w (.agg c.toArray) f->c.length=5->FsAt ok w (L++[c]) (l++[f])
 | [],[],_,h,V=>FsAt.cons h V (FsAt.nil ok w)
 | [],_::_,hl,_,_=>by have:=hl.1;simp at this
 |_::_,[],hl,_,_=>by have:=hl.1;simp at this
 |d::L,g::l,hl,h,V=>FsAt.cons (hl.2.2 0 d g rfl rfl) (hl.2.1 d O) (FsAt.snoc ⟨by simpa using hl.1,fun c V=>hl.2.1 c D9,fun i c g H t=>hl.2.2 (i+1) c g (by simpa using H) EP⟩ h V)
theorem FsAt.E{ok:Nat->Prop}{X:List Nat}{w w':World}{L:List (LV)}{l:LF}(h:FsAt ok w L l)(k:Keep X w w')(W:∀b,ok b->b∉X):FsAt ok w' L l:=
 ⟨h.1,h.2.1,fun i c g H t=>(h.2.2 i c g H t).E k W⟩
theorem FsAt.mono{ok ok':Nat->Prop}{w:World}{L:List (LV)}{l:LF}(h:FsAt ok w L l)(P:∀b,ok b->ok' b):FsAt ok' w L l:=
 ⟨h.1,h.2.1,fun i c g H t=>(h.2.2 i c g H t).mono P⟩
theorem FsAt.lt{ok:Nat->Prop}{w:World}{L:List (LV)}{l:LF}(h:FsAt ok w L l):FsAt (fun b=>ok b/\b<w.heap.size) w L l:=
 ⟨h.1,h.2.1,fun i c g H t=>(h.2.2 i c g H t).lt⟩
theorem FsAt.flat{ok:Nat->Prop}{w:World}{L:List (LV)}{l:LF}(h:FsAt ok w L l):L.flatten.length=l.length*5:=by
 obtain⟨X,W,Q⟩:=h;rw[<-X];clear X Q
 induction L with
 |nil=>rfl
 |cons c L ih=>
  have:=W c O;have:=ih fun d C=>W d (by simp[C]);simp only[List.flatten_cons,List.length_append,List.length_cons];omega
theorem FAt.node{ok:Nat->Prop}{w:World}{p:Value}{L:List (LV)}{l:LF}(N:Int)(name:LU)(M A:Int)(j:Sl ok w p l.length L.flatten)(h:FsAt ok w L l):
  FAt ok w (.agg #[iV N,AK name,iV M,iV A,p]) ⟨N,name,M,A,l⟩:=.mk N name M A l p L j h.1 h.2.1 h.2.2
theorem FAt.cells{ok:Nat->Prop}{w:World}{v:Value}{f:Fml}(h:FAt ok w v f):∃c:LV,v=.agg c.toArray/\c.length=5/\oneC c:=by
 obtain⟨p,rfl,L,j,_⟩:=h.form;obtain⟨a,b,rfl,_⟩:=j;refine⟨_,rfl,rfl,?_⟩;intro u n;simp at n;rcases n with rfl|rfl|rfl|rfl|rfl<;>rfl
def zero5:LV:=[iV 0,AK [],iV 0,iV 0,.slice none 0 0]
theorem By:(madeCells (Value.agg #[iV 0,AK [],iV 0,iV 0,.slice none 0 0]).cells (1*5)).toList=zero5:=by kernel_rfl
theorem made10:(madeCells (Value.agg #[iV 0,AK [],iV 0,iV 0,.slice none 0 0]).cells (2*5)).toList=zero5++zero5:=by kernel_rfl
theorem FsAt.fresh{ok:Nat->Prop}{w w':World}{e:TypeId}{L:List (LV)}{l:LF}(n:New w w' e L.flatten)(h:FsAt ok w L l)(S:ok w.heap.size)(M:l.length<=1000000):
  Sl ok w' (.slice (sm w.heap.size) l.length l.length) l.length L.flatten/\FsAt ok w' L l:=
 ⟨⟨_,_,rfl,Nat.le_refl _,by omega,(fun h=>by cases h),.inr ⟨_,_,rfl,S,n.D.cells⟩⟩,h.E n.E fun _ _=>by simp⟩
theorem FsAt.one{ok:Nat->Prop}{w:World}{c:LV}{f:Fml}(h:FAt ok w (.agg c.toArray) f)(V:c.length=5):FsAt ok w [c] [f]:=FsAt.cons h V (FsAt.nil ok w)
theorem FsAt.two{ok:Nat->Prop}{w:World}{c d:LV}{f g:Fml}(h:FAt ok w (.agg c.toArray) f)(V:c.length=5)(a:FAt ok w (.agg d.toArray) g)(C:d.length=5):FsAt ok w [c,d] [f,g]:=FsAt.cons h V (FsAt.one a C)
theorem FsAt.ext{ok:Nat->Prop}{w w':World}{L:List (LV)}{l:LF}(h:FsAt ok w L l)(k:Ext w w'):FsAt ok w' L l:=h.E k fun _ _=>by simp
theorem flatten_at:∀(L:List (LV))(k j:Nat)(c:LV)(v:Value),(∀c∈L,c.length=5)->L[k]?=some c->c[j]?=some v->L.flatten[k*5+j]?=some v
 | [],k,j,c,v,_,h,_=>by simp at h
 |d::L,0,j,c,v,h5,h,hv=>by
  simp at h;subst h;rw[List.flatten_cons,Nat.zero_mul,Nat.zero_add,List.getElem?_append_left (List.getElem?_eq_some_iff.1 hv).1];exact hv
 |d::L,k+1,j,c,v,h5,h,hv=>by
  have C:=h5 d O;rw[List.flatten_cons,List.getElem?_append_right U,C,show(k+1)*5+j-5=k*5+j by omega];exact flatten_at L k j c v (fun c V=>h5 c D9) EC hv
theorem Sl.fml{ok:Nat->Prop}{w:World}{a:Option Addr}{n cap k:Nat}{L:List (LV)}{c:LV}(h:Sl ok w (.slice a n cap) n L.flatten)(S:∀c∈L,c.length=5)(P:L[k]?=some c)(G:k<n):
  ∃b o,a=some ⟨b,o,none⟩/\ok b/\Cells w b (o+k*5) c:=by
 obtain⟨X,e,q,f,W,Q,z⟩:=h;cases q;obtain⟨b,o,rfl,d,V⟩:=z.resolve_left U;refine⟨b,o,rfl,d,fun j v q=>?_⟩;have:=V _ _ (flatten_at L k j c v S P q)
 rwa [<-Nat.add_assoc]at this
def fresh(w:World):Nat->Prop:=fun b=>w.heap.size<=b
theorem Ab{cs:LV}(h:cs.length=5):∃d B D S f,cs=[d,B,D,S,f]:=by
 match cs,h with
 | [d,B,D,S,f],_=>exact⟨_,_,_,_,_,rfl⟩
end
end Go.Proofs.YtohodbnnhlddpaaGreatDoor
