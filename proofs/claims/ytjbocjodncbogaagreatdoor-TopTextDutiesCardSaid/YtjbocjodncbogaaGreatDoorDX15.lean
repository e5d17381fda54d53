/- TopTextDuties, part 15 of 15: lemmas. Conditions: none. -/
import Derived.Test.YtjbocjodncbogaaGreatDoorDX14
import Derived.OpenShut
import Derived.Deep.Slices
import Derived.Test.YtjbocjodncbogaaGreatDoorCards
import Derived.Test.YtjbocjodncbogaaGreatDoorTie
import Derived.Deep.DeepWitnessRowRef
namespace Go.Proofs.YtjbocjodncbogaaGreatDoor
open Go.RowKit Go.Proofs.Tryz
set_option linter.unusedVariables false
set_option linter.defProp false
def QE:=@List.mem_append_left
section
open Go.ChangeAt Go.ChangeShapes Go.WideShapes
open Go.ChangeMaps (open_string)
section
variable {H:Type}{enc:TypeId×Value->H}{P:Program}{W W':World}
theorem de(B:Ext W W'){p:MemPlace}(C:p.block<W.heap.size):W.sameAt W' p:=by
 cases p with
 |cell b off=>exact World.cell?_of_block (w:=W) (a:=⟨b,off,none⟩) (B.block b C O)
 |map b=>exact B.block b C O
theorem Tg(K:Kids P (·<P.types.size))(b:∀t e,t<P.types.size->P.underlying t=some (.slice e)->0<P.cellsOf e)(B:Ext W W'){sp:Nat->Bool}:
  ∀{ts:List TypeId}{vs:LV}{ds:List (DataW H)}{A:List MemPlace},(∀t∈ts,t<P.types.size)->DataW.TrodAll enc P W 0 (fun _=>true) true ts vs ds A->
   (∀p∈A,p.block<W.heap.size)->(∀p∈A,sp p.block=true)->DataW.TrodAll enc P W' 0 sp true ts vs ds A
 | [],[],[],_,_,h,_,_=>h
 |_::_,_::_,_::_,_,hT,⟨p,q,⟨n,h1⟩,h2,e⟩,hl,hs=>by
  subst e;refine⟨p,q,⟨n,DataW.trod_stays K (fun a o=>b _ _ a o) (fun h=>by cases h) (hT _ O) h1 (fun x V=>de B (hl x (QE _ V))) fun x V=>hs x (QE _ V)⟩,?_,rfl⟩;exact Tg K b B (fun t a=>hT t (Li _ a)) h2 (fun x V=>hl x (List.mem_append_right _ V)) fun x V=>hs x (List.mem_append_right _ V)
theorem ar(B:Ext W W')(w:MemPlace->Prop):W.keptBut W' w:=by
 refine⟨B.os,B.output,fun i F=>?_⟩;rw[B.block i F O];exact(World.keptBut_refl W w).2.2 i F
theorem bH(K:Kids P (·<P.types.size))(n:∀t e,t<P.types.size->P.underlying t=some (.slice e)->0<P.cellsOf e){f:Func}{s:ChangeSpec}{b fresh u:Bool}{args:Array Value}{v:Value}{ds X:List (DataW H)}{c:List MemPlace}{i:TypeId}
  (l:∀t∈f.params.toList,t<P.types.size)(E:s.vars=[])(I:DataW.Whole enc P f.params.toList s.vars b W args.toList ds X c)
  (o:s.fn H (ds++X)={results:=[.lit (.bool true)],args:=ds})(j:f.resultTypes= #[i])(k:P.underlying i=some .bool)(m:v=.bool true)(B:Ext W W'):
  s.post enc P f b fresh u false W args v W':=by
 subst m;have z:∀p∈c,p.block<W.heap.size:=I.lt;obtain⟨p,q,d,a,rfl,r,w⟩:=id I
 have g:X=[]/\q=[]:=by
  rw[E]at a;cases X with
  |nil=>exact⟨rfl,a⟩
  |cons _ _=>exact a.elim
 obtain⟨rfl,rfl⟩:=g;refine⟨ds,[],_,[],p,[],I,?_,?_,?_,ar B _,(fun h=>by cases h)⟩
 ·rw[o,j];exact trodAll_cons_mk (shut_bool k true) trodAll_mk0
 ·rw[o];exact Tg K n B l d (fun x V=>z x (QE _ V)) fun x V=>by simpa using z x (QE _ V)
 ·rw[o,E];exact rfl
end
theorem kids:Kids Zp (·<Tryz.prog.types.size):=kids_rows rD rD
theorem full:∀t e,t<Tryz.prog.types.size->Tryz.prog.underlying t=some (.slice e)->0<Tryz.prog.cellsOf e:=slices_full_of Zp rD
theorem own:ownKnob Tryz.prog.godebug=none:=by kernel_rfl
section
variable {H:Type}{enc:TypeId×Value->H}{P:Program}{W:World}{sp:Nat->Bool}{hd:Bool}
theorem U9{a:Addr}{v:Value}(h:W.cell? a=some v):a.spot=none:=by
 cases ha:a.spot with
 |none=>rfl
 |some _=>
  unfold World.cell? at h
  split at h
  ·simp[ha]at h
  ·cases h
theorem oQ{r:Reach}{t e:TypeId}{v u:Value}{b:Nat}(d:P.underlying t=some (.slice e))(f:Value.okWide P W r b t v)(h:v.cells.toList=[u]):v=u:=by
 obtain⟨a,l,c,rfl⟩:=okWide_slice d f;simpa[Value.cells]using h
end
end
section
variable {mk:Prop}[MK mk]
end
def Ww:=@World.cells?_some
def KZ:=@DataW.trod_struct
def JA:=@DataW.trod_int
def Nf:=@DataW.trod_string
section
open Go.ChangeAt Go.ChangeShapes Go.WideShapes
theorem lenF{cs:LV}(h:cs.length=5):∃f I D i s,cs=[f,I,D,i,s]:=by
 match cs,h with
 | [a,b,c,d,e],_=>exact⟨a,b,c,d,e,rfl⟩
theorem lenR{cs:LV}(h:cs.length=8):∃e I D d,cs=e::I::D::d/\d.length=5:=by
 match cs,h with
 |a::b::c::d,h=>exact⟨a,b,c,d,rfl,by simpa using h⟩
theorem lenG{cs:LV}(h:cs.length=3):∃e I D,cs=[e,I,D]:=by
 match cs,h with
 | [a,b,c],_=>exact⟨a,b,c,rfl⟩
theorem Y5{cs:LV}(h:cs.length=2):∃e I,cs=[e,I]:=by
 match cs,h with
 | [a,b],_=>exact⟨a,b,rfl⟩
theorem ls{w:World}{b i j:Nat}(h:i=j):w.cell? ⟨b,i,none⟩=w.cell? ⟨b,j,none⟩:=by rw[h]
section
variable {H:Type}{enc:TypeId×Value->H}{W:World}{sp:Nat->Bool}{hd:Bool}
theorem Q3{α:Type}[Inhabited α]{t e:TypeId}{c G:Nat}{cs:LV}{x:DataW H×List MemPlace}(Q:LV->α->Prop)(ht:Tryz.prog.underlying t=some (.slice e))(T:Tryz.prog.cellsOf e=c)(j:0<c)
  (N:∀(n:Nat)(cs:LV)(x:DataW H×List MemPlace),n<G->DataW.trod enc Zp W 0 sp hd n e cs=some x->∃a,Q cs a)(h:DataW.trod enc Zp W 0 sp hd G t cs=some x):
  ∃(a:Option Addr)(k:Nat)(L:List (LV))(l:List α),cs=[.slice a l.length k]/\Sl AL W (.slice a l.length k) l.length L.flatten/\L.length=l.length/\(∀d∈L,d.length=c)/\∀(i:Nat)(d:LV)(a:α),L[i]?=some d->l[i]?=some a->Q d a:=by
 rcases DataW.trod_slice ht h with⟨rfl,_⟩|⟨a,P,B,a2,a6,n,rfl,rfl,_,_,hl,X,a5,K,_,_⟩
 ·exact⟨none,0,[],[],rfl,⟨none,0,rfl,AO _,by omega,fun _=>rfl,.inl rfl⟩,rfl,(fun d hd=>by cases hd),fun i d a h=>by simp at h⟩
 ·rw[T]at K
  obtain⟨D,g⟩:=Deep.choose_lt (α:=LV×α) (n:=P) (p:=fun i q=>W.cells? 0 (a.add (i*c)) c=some q.1/\Q q.1 q.2) (fun i F=>by
   have Z:=K i F;rw[AU U]at Z;obtain⟨I,f,R⟩:=Option.bind_eq_some_iff.1 Z;obtain⟨b,S⟩:=N n I _ (Lr n) R;exact⟨(I,b),f,S⟩)
  have w:∀i,i<P->(D i).1.length=c:=fun i F=>(Ww (g i F).1).2.1
  have A:∀d∈((List.range P).map fun i=>(D i).1),d.length=c:=by
   intro d hd;obtain⟨i,F,rfl⟩:=By.1 hd;exact w i (HZ.1 F)
  have V:((List.range P).map fun i=>(D i).2).length=P:=by simp
  refine⟨some a,B,(List.range P).map fun i=>(D i).1,(List.range P).map fun i=>(D i).2,by rw[V],⟨some a,B,rfl,by omega,by simp only[maxLen]at X;omega,(fun h=>by cases h),?_⟩,by simp,A,?_⟩
  ·by_cases hz:P=0
   ·left;omega
   ·right;have y:=(Ww (g 0 U).1).2.2 0 j
    have E:a.spot=none:=by
     have a3:=w 0 U;rw[AU U]at y;have:=U9 y;simpa[Addr.add]using this
    obtain⟨b,a1,s⟩:=a;simp only at E;subst E;refine⟨b,a1,rfl,trivial,fun i u o=>?_⟩;have z:=(Ah.1 o).1;rw[EL c _ A]at z;simp only[Es,List.length_range]at z;have m:i/c<P:=(Nat.div_lt_iff_lt_mul j).2 z;have C:i%c<c:=Kx _ j
    have a0:((List.range P).map fun i=>(D i).1)[i/c]?=some (D (i/c)).1:=by
     rw[Cl,QL m];rfl
    have a4:=w _ m;have M:(D (i/c)).1[i%c]?=some (D (i/c)).1[i%c]:=AU U;have Z:=Hc c _ _ _ _ _ A a0 M;have F:i/c*c+i%c=i:=by rw[Nat.mul_comm];exact Nat.div_add_mod i c
    rw[F]at Z;have f:=(Ww (g _ m).1).2.2 (i%c) C;rw[FQ,FQ,M]at f;have e:u=(D (i/c)).1[i%c]:=Ae (o.symm.Q Z);rw[e,<-f];exact ls U
  ·intro i d b hd S;obtain⟨Z,rfl⟩:=Ah.1 hd;obtain⟨_,rfl⟩:=Ah.1 S;simp at Z;simp only[List.getElem_map,List.getElem_range];exact(g i U).2
theorem Sq:Tryz.prog.cellsOf 37=5:=by kernel_rfl
theorem Yt:Tryz.prog.cellsOf 57=8:=by kernel_rfl
theorem qV:Tryz.prog.cellsOf 25=2:=by kernel_rfl
theorem YJ:Tryz.prog.cellsOf 129=3:=by kernel_rfl
theorem Pd:Tryz.prog.cellsOf 3=1:=by kernel_rfl
theorem qT:Tryz.prog.cellsOf 4=1:=by kernel_rfl
theorem SU:Tryz.prog.cellsOf 9=1:=by kernel_rfl
theorem pH:Tryz.prog.cellsOf 35=1:=by kernel_rfl
theorem lm:Tryz.prog.cellsOf 22=1:=by kernel_rfl
theorem pJ:Tryz.prog.cellsOf 23=1:=by kernel_rfl
theorem Nj(s:ByteArray):Value.string s=AA s.data.toList:=by simp[AA]
theorem FR{β:Type}{xs:List β}{n i:Nat}(h:xs.length=n)(F:i<n):∃y,xs[i]?=some y:=⟨_,AU U⟩
theorem jl:∀(q:Nat)(cs:LV)(x:DataW H×List MemPlace),DataW.trod enc Zp W 0 sp hd q 37 cs=some x->∃f:Fml,fmlR.fits AL W cs f:=by
 intro q
 induction q using Nat.strongRecOn with
 |ind q ih=>
 intro cs x h;obtain⟨M,n,rfl,_,N,a0,K⟩:=KZ underlying37 h;rw[Sq]at N;obtain⟨e,I,D,j,o,rfl⟩:=lenF N;have B:M.length=5:=a0;have w:DataW.trod enc Zp W 0 sp hd n 3 ((List.drop 0 [e,I,D,j,o]).take (Tryz.prog.cellsOf 3))=M[0]?:=K 0 _ rfl;have z:DataW.trod enc Zp W 0 sp hd n 9 ((List.drop 1 [e,I,D,j,o]).take (Tryz.prog.cellsOf 9))=M[1]?:=K 1 _ rfl;have y:DataW.trod enc Zp W 0 sp hd n 3 ((List.drop 2 [e,I,D,j,o]).take (Tryz.prog.cellsOf 3))=M[2]?:=K 2 _ rfl;have A:DataW.trod enc Zp W 0 sp hd n 3 ((List.drop 3 [e,I,D,j,o]).take (Tryz.prog.cellsOf 3))=M[3]?:=K 3 _ rfl;have C:DataW.trod enc Zp W 0 sp hd n 35 ((List.drop 4 [e,I,D,j,o]).take (Tryz.prog.cellsOf 35))=M[4]?:=K 4 _ rfl;rw[Pd]at w y A;rw[SU]at z;rw[pH]at C;obtain⟨y0,Z⟩:=FR (i:=0) B U;obtain⟨y1,X⟩:=FR (i:=1) B U;obtain⟨y2,P⟩:=FR (i:=2) B U;obtain⟨y3,g3⟩:=FR (i:=3) B U;obtain⟨y4,g4⟩:=FR (i:=4) B U;obtain⟨t,E,_,_⟩:=JA underlying3 (w.Q Z);obtain⟨s,G,_,_⟩:=Nf underlying9 (z.Q X);obtain⟨v,u,_,_⟩:=JA underlying3 (y.Q P);obtain⟨b,S,_,_⟩:=JA underlying3 (A.Q g3);have:Inhabited Fml:=⟨Ad⟩;obtain⟨a,k,L,l,T,hS,hL,h5,hA⟩:=Q3 (fun d g=>fmlR.fits AL W d g) underlying35 Sq U (fun m cs x hm hx=>ih m U cs x hx) (C.Q g4);have F:e=iV t:=by simpa using E
 have R:I=AA s.data.toList:=by rw[<-Nj];simpa using G
 have Q:D=iV v:=by simpa using u
 have p:j=iV b:=by simpa using S
 have V:o=.slice a l.length k:=by simpa using T
 subst F R Q p V;exact⟨⟨t,s.data.toList,v,b,l⟩,rfl,.mk t _ v b l _ L hS hL h5 fun i c g hc hg=>(hA i c g hc hg).2⟩
theorem jm{A:Nat}{cs:LV}{x:DataW H×List MemPlace}(h:DataW.trod enc Zp W 0 sp hd A 57 cs=some x):∃r:Rqm,reqR.fits AL W cs r:=by
 obtain⟨M,n,rfl,_,N,C,K⟩:=KZ underlying57 h;rw[Yt]at N;obtain⟨e,I,D,d,rfl,o⟩:=lenR N;have g:M.length=4:=C;have l:DataW.trod enc Zp W 0 sp hd n 9 ((List.drop 0 (e::I::D::d)).take (Tryz.prog.cellsOf 9))=M[0]?:=K 0 _ rfl;have z:DataW.trod enc Zp W 0 sp hd n 9 ((List.drop 1 (e::I::D::d)).take (Tryz.prog.cellsOf 9))=M[1]?:=K 1 _ rfl;have m:DataW.trod enc Zp W 0 sp hd n 3 ((List.drop 2 (e::I::D::d)).take (Tryz.prog.cellsOf 3))=M[2]?:=K 2 _ rfl;have a:DataW.trod enc Zp W 0 sp hd n 37 ((List.drop 3 (e::I::D::d)).take (Tryz.prog.cellsOf 37))=M[3]?:=K 3 _ rfl;rw[Pd]at m;rw[SU]at l z;rw[Sq]at a;obtain⟨Q,B⟩:=FR (i:=0) g U;obtain⟨E,X⟩:=FR (i:=1) g U;obtain⟨F,P⟩:=FR (i:=2) g U;obtain⟨T,L⟩:=FR (i:=3) g U;obtain⟨s,c,_,_⟩:=Nf underlying9 (l.Q B);obtain⟨t,q,_,_⟩:=Nf underlying9 (z.Q X);obtain⟨k,u,_,_⟩:=JA underlying3 (m.Q P);obtain⟨f,j⟩:=jl _ _ _ (a.Q L);have p:e=AA s.data.toList:=by rw[<-Nj];simpa using c
 have R:I=AA t.data.toList:=by rw[<-Nj];simpa using q
 have w:D=iV k:=by simpa using u
 have y:(List.drop 3 (e::I::D::d)).take 5=d:=by simp[<-o]
 rw[y]at j;subst p R w;exact⟨⟨s.data.toList,t.data.toList,k,f⟩,d,rfl,o,j.2⟩
theorem jn{m:Nat}{cs:LV}{x:DataW H×List MemPlace}(h:DataW.trod enc Zp W 0 sp hd m 129 cs=some x):∃r:Sgn,sgnR.fits AL W cs r:=by
 obtain⟨M,n,rfl,_,N,p,K⟩:=KZ underlying129 h;rw[YJ]at N;obtain⟨e,I,D,rfl⟩:=lenG N;have a:M.length=3:=p;have f:DataW.trod enc Zp W 0 sp hd n 9 ((List.drop 0 [e,I,D]).take (Tryz.prog.cellsOf 9))=M[0]?:=K 0 _ rfl;have z:DataW.trod enc Zp W 0 sp hd n 4 ((List.drop 1 [e,I,D]).take (Tryz.prog.cellsOf 4))=M[1]?:=K 1 _ rfl;have d:DataW.trod enc Zp W 0 sp hd n 3 ((List.drop 2 [e,I,D]).take (Tryz.prog.cellsOf 3))=M[2]?:=K 2 _ rfl;rw[Pd]at d;rw[SU]at f;rw[qT]at z;obtain⟨Q,o⟩:=FR (i:=0) a U;obtain⟨q,X⟩:=FR (i:=1) a U;obtain⟨w,P⟩:=FR (i:=2) a U;obtain⟨s,c,_,_⟩:=Nf underlying9 (f.Q o);obtain⟨t,j,_,_⟩:=DataW.trod_bool underlying4 (z.Q X);obtain⟨k,u,_,_⟩:=JA underlying3 (d.Q P);have g:e=AA s.data.toList:=by rw[<-Nj];simpa using c
 have R:I=.bool t:=by simpa using j
 have l:D=iV k:=by simpa using u
 subst g R l;exact⟨⟨s.data.toList,t,k⟩,rfl⟩
theorem fy{D:Nat}{cs:LV}{x:DataW H×List MemPlace}(h:DataW.trod enc Zp W 0 sp hd D 22 cs=some x):∃(v:Value)(l:List Sgn),cs=[v]/\SlAt sgnR AL W v l:=by
 have:Inhabited Sgn:=⟨⟨[],false,0⟩⟩;obtain⟨a,k,L,l,e,i,S,_,t⟩:=Q3 (fun d g=>sgnR.fits AL W d g) underlying22 YJ U (fun m cs x _ V=>jn V) h;exact⟨_,l,e,a,k,L,rfl,i,S,t⟩
theorem fw{D:Nat}{cs:LV}{x:DataW H×List MemPlace}(h:DataW.trod enc Zp W 0 sp hd D 23 cs=some x):∃(v:Value)(l:List Rqm),cs=[v]/\SlAt reqR AL W v l:=by
 have:Inhabited Rqm:=⟨⟨[],[],0,Ad⟩⟩;obtain⟨a,k,L,l,e,i,S,_,t⟩:=Q3 (fun d g=>reqR.fits AL W d g) underlying23 Yt U (fun m cs x _ V=>jm V) h;exact⟨_,l,e,a,k,L,rfl,i,S,t⟩
theorem jo{D:Nat}{cs:LV}{x:DataW H×List MemPlace}(h:DataW.trod enc Zp W 0 sp hd D 25 cs=some x):∃s:Spc,spcR.fits AL W cs s:=by
 obtain⟨M,n,rfl,_,N,k,K⟩:=KZ underlying25 h;rw[qV]at N;obtain⟨e,I,rfl⟩:=Y5 N;have T:M.length=2:=k;have f:DataW.trod enc Zp W 0 sp hd n 22 ((List.drop 0 [e,I]).take (Tryz.prog.cellsOf 22))=M[0]?:=K 0 _ rfl;have z:DataW.trod enc Zp W 0 sp hd n 23 ((List.drop 1 [e,I]).take (Tryz.prog.cellsOf 23))=M[1]?:=K 1 _ rfl;rw[lm]at f;rw[pJ]at z;obtain⟨Q,g⟩:=FR (i:=0) T U;obtain⟨p,X⟩:=FR (i:=1) T U;obtain⟨m,l,c,j⟩:=fy (f.Q g);obtain⟨o,C,d,Z⟩:=fw (z.Q X);have a:e=m:=by simpa using c
 have R:I=o:=by simpa using d
 subst a R;exact⟨⟨l,C⟩,e,I,rfl,j,Z⟩
end
set_option maxRecDepth 100000 in
theorem UH{W:World}{r:Reach}{t:TypeId}{q:Array Field}{v:Value}{b:Nat}(P:Tryz.prog.underlying t=some (.struct q))(a:Value.okWide Zp W r b t v):v=.agg v.cells:=by
 obtain⟨k,rfl,_⟩:=okWide_struct P a;rfl
section
variable {H:Type}{enc:TypeId×Value->H}{W:World}{sp:Nat->Bool}{hd:Bool}{r:Reach}{b:Nat}{v:Value}{x:DataW H×List MemPlace}
set_option maxRecDepth 100000 in
theorem lf(a:Value.okWide Zp W r b 25 v)(h:∃n,DataW.trod enc Zp W 0 sp hd n 25 v.cells.toList=some x):∃(c:LV)(s:Spc),v=.agg c.toArray/\spcR.fits AL W c s:=by
 obtain⟨n,h⟩:=h;obtain⟨s,E⟩:=jo h;exact⟨_,s,by rw[UK];exact UH underlying25 a,E⟩
end
end
def RI:=@World.var?_cell
section
open Go.ChangeAt Go.ChangeShapes Go.WideShapes
section
variable {H:Type}{enc:TypeId×Value->H}{P:Program}{w:World}{base:Nat}{sp:Nat->Bool}{held:Bool}
theorem On{D:Nat}{t e:TypeId}{n c:Nat}{cs:LV}{ds:List (DataW H)}{p:List MemPlace}(a:P.underlying t=some (.array n e))(L:P.cellsOf e=c)(A:P.cellsOf t=n*c)
  (h:DataW.trod enc P w base sp held D t cs=some (.agg ds,p)):cs.length=n*c/\∃m,∀i,i<n->∃d q,ds[i]?=some d/\DataW.trod enc P w base sp held m e ((cs.drop (i*c)).take c)=some (d,q):=by
 cases D with
 |zero=>simp[DataW.trod]at h
 |succ D=>
  simp only[DataW.trod,a,L,A]at h
  split at h
  ·rename_i hl;obtain⟨M,r,V⟩:=Dd.1 h
   have f:M.map (·.1)=ds:=by
    have:=congrArg Prod.fst V;simpa using this
   refine⟨hl,D,fun i F=>?_⟩;obtain⟨b,S,K⟩:=Lib.mapM_at r i i (by simp[F]);exact⟨b.1,b.2,by rw[<-f,Cl,S];rfl,K⟩
  ·cases h
end
def Sy(p:Nat×Nat×Nat):DataW Unit:=.agg [.lit (.int .u8 (p.1:Int)),.lit (.int .u8 (p.2.1:Int)),.lit (.int .i64 (p.2.2:Int))]
theorem Lo{cs out:LV}{c i r:Nat}{v:Value}(h:(cs.drop (i*c)).take c=out)(s:out[r]?=some v):cs[i*c+r]?=some v:=by
 subst h;rw[Ed]at s
 split at s
 ·rwa [KX]at s
 ·cases s
theorem len3{cs:LV}(h:cs.length=3):∃e I D,cs=[e,I,D]:=by
 match cs,h with
 | [a,b,c],_=>exact⟨a,b,c,rfl⟩
theorem dj{w:World}{o:Nat}{cs:LV}{p:Nat×Nat×Nat}{q:List MemPlace}(h:DataW.trod (fun _=>()) Zp w 0 (fun _=>true) false o 250 cs=some (Sy p,q)):cs=Gm p:=by
 have T:Tryz.prog.cellsOf 250=3:=by kernel_rfl
 have s:Tryz.prog.cellsOf 5=1:=by kernel_rfl
 have F:Tryz.prog.cellsOf 3=1:=by kernel_rfl
 obtain⟨M,n,_,V,i,t,K⟩:=KZ underlying250 h;rw[T]at i;obtain⟨e,I,D,rfl⟩:=len3 i;have g:DataW.trod (fun _=>()) Zp w 0 (fun _=>true) false n 5 ((List.drop 0 [e,I,D]).take (Tryz.prog.cellsOf 5))=M[0]?:=K 0 _ rfl;have z:DataW.trod (fun _=>()) Zp w 0 (fun _=>true) false n 5 ((List.drop 1 [e,I,D]).take (Tryz.prog.cellsOf 5))=M[1]?:=K 1 _ rfl;have l:DataW.trod (fun _=>()) Zp w 0 (fun _=>true) false n 3 ((List.drop 2 [e,I,D]).take (Tryz.prog.cellsOf 3))=M[2]?:=K 2 _ rfl;have v:M.length=3:=t;rw[s]at g z;rw[F]at l;have W:M[0]?=some M[0]:=AU U;have X:M[1]?=some M[1]:=AU U;have m:M[2]?=some M[2]:=AU U;obtain⟨a,G,r,_⟩:=JA underlying5 (g.Q W);obtain⟨b,S,k,_⟩:=JA underlying5 (z.Q X);obtain⟨c,L,j,_⟩:=JA underlying3 (l.Q m)
 have x:M.map (·.1)=[.lit (.int .u8 (p.1:Int)),.lit (.int .u8 (p.2.1:Int)),.lit (.int .i64 (p.2.2:Int))]:=by
  have:=congrArg Prod.fst V;simpa[Sy]using this.symm
 have d:=congrArg (·[0]?) x;have f:=congrArg (·[1]?) x;have u:=congrArg (·[2]?) x;simp[W,r]at d;simp[X,k]at f;simp[m,j]at u;simp at G S L;rw[G,S,L,d,f,u];try rfl
theorem VB{w:World}{D:Nat}{cs:LV}{l:LU}{q:List MemPlace}(h:DataW.trod (fun _=>()) Zp w 0 (fun _=>true) false D 9 cs=some (.lit (.string l),q)):cs=[AA l]:=by
 obtain⟨s,rfl,V,_⟩:=Nf underlying9 h;have:=congrArg Prod.fst V;simp at this;rw[this]
theorem PO{w:World}{D i:Nat}{cs:LV}{xs:List (DataW Unit×List MemPlace)}{ds:List (DataW Unit)}{z:Int}(K:DataW.trod (fun _=>()) Zp w 0 (fun _=>true) false D 3 ((cs.drop i).take 1)=xs[i]?)(a:xs.map (·.1)=ds)(F:ds[i]?=some (.lit (.int .i64 z))):cs[i]?=some (iV z):=by
 rw[<-a,Cl]at F;obtain⟨x,V,p⟩:=Dd.1 F;obtain⟨n,b,rfl,_⟩:=JA underlying3 (K.Q V);simp at p;subst p;have:=congrArg (·[0]?) b;simpa[Ed,KX]using this
theorem Oy{w:World}{D i:Nat}{cs:LV}{xs:List (DataW Unit×List MemPlace)}{ds:List (DataW Unit)}{z:Bool}(K:DataW.trod (fun _=>()) Zp w 0 (fun _=>true) false D 4 ((cs.drop i).take 1)=xs[i]?)(a:xs.map (·.1)=ds)(F:ds[i]?=some (.lit (.bool z))):cs[i]?=some (.bool z):=by
 rw[<-a,Cl]at F;obtain⟨x,V,p⟩:=Dd.1 F;obtain⟨n,b,rfl⟩:=DataW.trod_bool underlying4 (K.Q V);simp at p;subst p;have:=congrArg (·[0]?) b;simpa[Ed,KX]using this
def Su(x:IR):DataW Unit:=.agg [.lit (.int .i64 x.least),.lit (.int .i64 x.most),.lit (.int .i64 x.val),.lit (.int .i64 x.bound),.lit (.bool x.named),.lit (.bool x.past),.lit (.bool x.future),.lit (.bool x.loose)]
theorem cg{w:World}{e:Nat}{cs:LV}{p:IR}{q:List MemPlace}(h:DataW.trod (fun _=>()) Zp w 0 (fun _=>true) false e 221 cs=some (Su p,q)):cs=DO p:=by
 have T:Tryz.prog.cellsOf 221=8:=by kernel_rfl
 have g:Tryz.prog.cellsOf 4=1:=by kernel_rfl
 have F:Tryz.prog.cellsOf 3=1:=by kernel_rfl
 obtain⟨M,n,_,V,j,r,K⟩:=KZ underlying221 h;rw[T]at j
 have x:M.map (·.1)=[.lit (.int .i64 p.least),.lit (.int .i64 p.most),.lit (.int .i64 p.val),.lit (.int .i64 p.bound),.lit (.bool p.named),.lit (.bool p.past),.lit (.bool p.future),.lit (.bool p.loose)]:=by
  have:=congrArg Prod.fst V;simpa[Su]using this.symm
 have f:DataW.trod (fun _=>()) Zp w 0 (fun _=>true) false n 3 ((cs.drop 0).take (Tryz.prog.cellsOf 3))=M[0]?:=K 0 _ rfl;have z:DataW.trod (fun _=>()) Zp w 0 (fun _=>true) false n 3 ((cs.drop 1).take (Tryz.prog.cellsOf 3))=M[1]?:=K 1 _ rfl;have D:DataW.trod (fun _=>()) Zp w 0 (fun _=>true) false n 3 ((cs.drop 2).take (Tryz.prog.cellsOf 3))=M[2]?:=K 2 _ rfl;have a:DataW.trod (fun _=>()) Zp w 0 (fun _=>true) false n 3 ((cs.drop 3).take (Tryz.prog.cellsOf 3))=M[3]?:=K 3 _ rfl;have b:DataW.trod (fun _=>()) Zp w 0 (fun _=>true) false n 4 ((cs.drop 4).take (Tryz.prog.cellsOf 4))=M[4]?:=K 4 _ rfl;have c:DataW.trod (fun _=>()) Zp w 0 (fun _=>true) false n 4 ((cs.drop 5).take (Tryz.prog.cellsOf 4))=M[5]?:=K 5 _ rfl;have W:DataW.trod (fun _=>()) Zp w 0 (fun _=>true) false n 4 ((cs.drop 6).take (Tryz.prog.cellsOf 4))=M[6]?:=K 6 _ rfl;have d:DataW.trod (fun _=>()) Zp w 0 (fun _=>true) false n 4 ((cs.drop 7).take (Tryz.prog.cellsOf 4))=M[7]?:=K 7 _ rfl;rw[F]at f z D a;rw[g]at b c W d;apply H1;intro i
 match i with
 |0=>exact PO f x rfl
 |1=>exact PO z x rfl
 |2=>exact PO D x rfl
 |3=>exact PO a x rfl
 |4=>exact Oy b x rfl
 |5=>exact Oy c x rfl
 |6=>exact Oy W x rfl
 |7=>exact Oy d x rfl
 |i+8=>rw[EF U,EF (by simp[DO])]
def NE:List (String×DataW Unit):=[("math/bits.deBruijn32tab",Rows.laid_math_bits_deBruijn32tab),("math/bits.deBruijn64tab",Rows.laid_math_bits_deBruijn64tab),("internal/strconv.uint64pow10",Rows.laid_internal_strconv_uint64pow10),("strconv.ErrRange",Rows.laid_strconv_ErrRange),("strconv.ErrSyntax",Rows.laid_strconv_ErrSyntax),("foresight/signal.keys",Rows.laid_foresight_signal_keys),("foresight/formula.forms",Rows.laid_foresight_formula_forms),("foresight/lexer.spans",Rows.laid_foresight_lexer_spans),("foresight/lexer.symbols",Rows.laid_foresight_lexer_symbols)]
theorem dC{W:World}(h:laidMetH Zp NE W):GP W/\GF W:=by
 have Q:laidMet Zp NE W:=h;obtain⟨ps,⟨g1,t1,a8,b7,p1,q1,c7,d1,d5,hd1,⟨g2,t2,a9,b8,p2,q2,c8,d2,a2,hd2,⟨g3,t3,b0,b9,p3,q3,L,X,a3,hd3,⟨g4,t4,b1,c0,p4,q4,c9,d3,d6,hd4,⟨g5,t5,b2,c1,p5,q5,d0,d4,d7,c6,⟨g6,t6,b3,c2,p6,q6,i,c,a4,G,⟨g9,t9,b6,c5,p9,q9,V,a1,a7,Z,⟨g7,t7,b4,c3,p7,q7,M,R,a5,t,⟨g8,t8,b5,c4,p8,q8,S,a0,a6,K,_,_⟩,_⟩,_⟩,_⟩,_⟩,_⟩,_⟩,_⟩,_⟩,_⟩:=Q;have n2:Tryz.prog.globalNamed "math/bits.deBruijn64tab" =some 9:=by kernel_rfl
 have y:Tryz.prog.globalNamed "foresight/signal.keys" =some 0:=by kernel_rfl
 have a:Tryz.prog.globalNamed "foresight/lexer.spans" =some 1:=by kernel_rfl
 have E:Tryz.prog.globalNamed "foresight/lexer.symbols" =some 3:=by kernel_rfl
 have z:Tryz.prog.globalNamed "foresight/formula.forms" =some 2:=by kernel_rfl
 have n3:Tryz.prog.globalNamed "internal/strconv.uint64pow10" =some 6:=by kernel_rfl
 have y9:(Tryz.prog.globals[2]?).map (·.type)=some 258:=by kernel_rfl
 have y3:(Tryz.prog.globals[6]?).map (·.type)=some 347:=by kernel_rfl
 have y6:(Tryz.prog.globals[0]?).map (·.type)=some 211:=by kernel_rfl
 have y7:(Tryz.prog.globals[1]?).map (·.type)=some 251:=by kernel_rfl
 have y8:(Tryz.prog.globals[3]?).map (·.type)=some 283:=by kernel_rfl
 obtain rfl:=Ae (z.symm.Q V);obtain rfl:=Ae (n3.symm.Q L);obtain rfl:=Ae (y9.symm.Q a1);obtain rfl:=Ae (y3.symm.Q X);obtain rfl:=Ae (y.symm.Q i);obtain rfl:=Ae (a.symm.Q M);obtain rfl:=Ae (E.symm.Q S);obtain rfl:=Ae (y6.symm.Q c);obtain rfl:=Ae (y7.symm.Q R);obtain rfl:=Ae (y8.symm.Q a0);refine⟨⟨⟨⟨?_,?_,?_⟩,?_⟩,?_⟩,?_⟩
 ·obtain⟨N,m,g⟩:=On (ds:=spansL.map Sy) underlying251 (by kernel_rfl:Tryz.prog.cellsOf 250=3) rD t;intro j u o;have C:j<48:=(Ah.1 o).1;obtain⟨p,A⟩:∃p,spansL[j/3]?=some p:=⟨_,AU (by show j/3<16;omega)⟩;obtain⟨d,q,x,n⟩:=g (j/3) U;rw[Cl,A]at x;cases x;have f:=dj n;have F:=Rf spansL (j/3) p A;obtain⟨v,B⟩:∃v,(Gm p)[j%3]?=some v:=⟨_,AU (by show j%3<3;omega)⟩;have I:=Lo f B;have D:=Lo F B;rw[show j/3*3+j%3=j by omega]at I D;have b:(spansL.flatMap Gm)[j]?=some u:=o;rw[D]at b;rw[Bs,RI a a5 j];rw[<-b,<-I];simp
 ·obtain⟨N,m,g⟩:=On (ds:=symsL.map fun l=>.lit (.string l)) underlying283 (by kernel_rfl:Tryz.prog.cellsOf 9=1) rD K;intro j u o;have C:j<15:=(Ah.1 o).1;obtain⟨p,A⟩:∃p,symsL[j]?=some p:=⟨_,AU C⟩;obtain⟨d,q,x,n⟩:=g j C;rw[Cl,A]at x;cases x;have I:=Lo (r:=0) (VB n) rfl;have b:(symsL.map AA)[j]?=some u:=o;rw[Cl,A]at b;cases b;rw[Bs,RI E a6 j];simpa using I
 ·have s:=a2;simp only[World.var?,n2,Qm]at s
  split at s
  ·rename_i e;have:=(FM.1 e).1;omega
  ·cases s
 ·obtain⟨N,m,g⟩:=On (ds:=keysL.map fun l=>.lit (.string l)) underlying211 (by kernel_rfl:Tryz.prog.cellsOf 9=1) rD G;intro j u o;have C:j<10:=(Ah.1 o).1;obtain⟨p,A⟩:∃p,keysL[j]?=some p:=⟨_,AU C⟩;obtain⟨d,q,x,n⟩:=g j C;rw[Cl,A]at x;cases x;have I:=Lo (r:=0) (VB n) rfl;have b:(keysL.map AA)[j]?=some u:=o;rw[Cl,A]at b;cases b;rw[Bs,RI y a4 j];simpa using I
 ·have T:=Lib.cells_of_tab (zs:=Lib.pow10Tab) (k:=.u64) underlying347 underlying322 rD rD hd3;unfold Lib.TabIs;rw[a3,<-T]
 ·obtain⟨N,m,g⟩:=On (ds:=formsL.map Su) underlying258 (by kernel_rfl:Tryz.prog.cellsOf 221=8) rD Z;intro j u o;have C:j<160:=(Ah.1 o).1;obtain⟨p,A⟩:∃p,formsL[j/8]?=some p:=⟨_,AU (by show j/8<20;omega)⟩;obtain⟨d,q,x,n⟩:=g (j/8) U;rw[Cl,A]at x;cases x;have f:=cg n;obtain⟨v,B⟩:∃v,(DO p)[j%8]?=some v:=⟨_,AU (by show j%8<8;omega)⟩;have I:=Lo f B;have D:=RU formsL (j/8) (j%8) p v A B;rw[show j/8*8+j%8=j by omega]at I D;have b:(formsL.flatMap DO)[j]?=some u:=o;rw[D]at b;rw[Bs,RI z a7 j];rw[<-b,<-I];simp
set_option maxRecDepth 100000 in
theorem aw{l:Os}(T:l.Started){k:FuncId}{fn:Func}{s:ChangeSpec}{m:List PathCond}{fresh:Bool}{H:Type}{enc:TypeId×Value->H}(F:Stop.Interp)(R:Tryz.prog.inits.idxOf? k=none)(o:Tryz.prog.funcs[k]?=some fn)
  (a0:∃(w:World)(c:Tape)(i:Input),w.os=l/\(w.forCall c i).Shaped Zp/\i.vars=[]/\Input.okWide Zp (w.forCall c i) .any w.heap.size k i/\
   (OpenSpec.ofChange s).preRow enc Zp fn m false NE (w.forCall c i).memory i.args/\({}:Assume).holds Zp (lone (Frame.enter Zp k i.args .normal) [] (w.forCall c i)))
  (E:s.vars=[])(f:(fn.params.toList.all fun t=>decide (t<Tryz.prog.types.size))=true)(V:fn.resultTypes= #[4])
  (D:∀ds:List (DataW H),ds.length=fn.params.toList.length->s.fn H ds={results:=[.lit (.bool true)],args:=ds})
  (Q:∀(W:World)(base:Nat)(args:LV)(ds:List (DataW H))(p:List MemPlace),(∀(j:Nat)t v,fn.params.toList[j]?=some t->args[j]?=some v->Value.okWide Zp W .any base t v)->
   DataW.TrodAll enc Zp W 0 (fun _=>true) true fn.params.toList args ds p->GP W/\GF W->Fn Zp k args W fun v w'=>v=.bool true/\Ext W w'):
  ReturnsInHanded {} Tryz.checked l k .any ((OpenSpec.ofChange s).preRow enc Zp fn m false NE) (((OpenSpec.ofChange s).at F).post enc Zp fn false fresh false false):=by
 refine returnsInHanded_of_row (C:=Tryz.checked) (s:=OpenSpec.ofChange s) own T R o a0 ?_;intro W base args ds X x N I _ _ _ S _ _;have K:DataW.Whole enc Zp fn.params.toList s.vars false W args.toList ds X x:=I;obtain⟨p,q,r,z,rfl,hf,hn⟩:=I
 have y:X=[]:=by
  have u:DataW.TrodVars enc Zp W (fun _=>true) s.vars X q:=z;rw[E]at u;cases X with
  |nil=>rfl
  |cons _ _=>exact u.elim
 subst y
 have L:∀{n:List TypeId}{G:LV}{ds:List (DataW H)}{A:List MemPlace},DataW.TrodAll enc Zp W 0 (fun _=>true) true n G ds A->ds.length=n.length:=by
  intro n
  induction n with
  |nil=>intro G ds A h;obtain⟨rfl,rfl,rfl⟩:=trodAll_nil h;rfl
  |cons t n ih=>intro G ds A h;obtain⟨v,a2,d,a1,a,b,rfl,rfl,rfl,Z,g⟩:=trodAll_cons h;simp[ih g]
 refine Gg (Q W base args.toList ds p (fun j t v Z g=>N j t v (KV.symm.Q Z) (KV.symm.Q g)) r (dC S)) fun e W' B=>?_;cases e with
 |returned v=>
  refine⟨v,rfl,bH kids full (fun t M=>FO (Bu.1 f t M)) E K ?_ V underlying4 B.1 B.2⟩;rw[Ch];exact D ds (L r)
 |panicked ch=>exact B.elim
 |outgrown=>exact B.elim
def Iz(cs:LV):Obj->Obj
 | .cells _ t frozen=>.cells cs.toArray t frozen
 |o=>o
def TF:DataW Unit->LV
 | .agg l=>l.map fun d=>match d with| .lit (.int k z)=>.int k z|_=>.bool false
 |_=>[]
noncomputable def laidWorld (s:Os):World:=
 let w:=World.holding Zp s ⟨#[.cells #[AA [118,97,108,117,101,32,111,117,116,32,111,102,32,114,97,110,103,101]] 345,.cells #[AA [105,110,118,97,108,105,100,32,115,121,110,116,97,120]] 345],#[],[]⟩
 {w with heap:=(((((((((w.heap.modify 2 (Iz Yv)).modify 1 (Iz spanC)).modify 3 (Iz symC)).modify 0 (Iz keyC)).modify 5 (Iz [.iface 343 (.pointer (sm 15))])).modify 4 (Iz [.iface 343 (.pointer (sm 16))])).modify 6 (Iz (TF Rows.laid_internal_strconv_uint64pow10))).modify 8 (Iz (TF Rows.laid_math_bits_deBruijn32tab))).modify 9 (Iz (TF Rows.laid_math_bits_deBruijn64tab)))}
end
section
open Go.ChangeAt Go.ChangeShapes Go.WideShapes
section
variable {H:Type}{enc:TypeId×Value->H}{W:World}{sp:Nat->Bool}{hd:Bool}{r:Reach}{b:Nat}{v:Value}{x:DataW H×List MemPlace}
theorem Q2{D:Nat}{cs:LV}(h:DataW.trod enc Zp W 0 sp hd D 45 cs=some x):∃(a:Option Addr)(c:Nat)(l:List Int),cs=[.slice a l.length c]/\Sl AL W (.slice a l.length c) l.length (l.map (.int .i64)):=by
 rcases open_ints underlying45 underlying3 Pd h with⟨rfl,_⟩|⟨a,P,e,d,rfl,_,N,j,p,_,z,S⟩
 ·exact⟨none,0,[],rfl,⟨none,0,rfl,AO _,by omega,fun _=>rfl,.inl rfl⟩⟩
 ·have m:P<=d.length:=by rw[p];split<;>omega
  have g:(d.take P).length=P:=by simp;omega
  refine⟨some a,e,d.take P,by rw[g],some a,e,rfl,by omega,by simp only[maxLen]at j;omega,(fun h=>by cases h),?_⟩;by_cases k:P=0
  ·left;omega
  ·right;have f:a.spot=none:=U9 (a:=a.add 0) (z 0 U);obtain⟨b,X,s⟩:=a;simp only at f;subst f;refine⟨b,X,rfl,trivial,fun i u o=>?_⟩
   have F:i<P:=by
    have:=(Ah.1 o).1;rw[Es]at this;omega
   rw[Cl,Ed,AJ F,AU U]at o;cases o;have Z:=z i U;rw[FQ]at Z;rw[Z]
   congr 2
   simp[show i<d.length by omega]
set_option maxRecDepth 100000 in
theorem iX(d:Value.okWide Zp W r b 45 v)(h:∃n,DataW.trod enc Zp W 0 sp hd n 45 v.cells.toList=some x):∃(a:Option Addr)(c:Nat)(l:List Int),v=.slice a l.length c/\Sl AL W (.slice a l.length c) l.length (l.map (.int .i64)):=by
 obtain⟨n,h⟩:=h;obtain⟨a,c,l,e,N⟩:=Q2 h;exact⟨a,c,l,oQ underlying45 d e,N⟩
theorem qU:Tryz.prog.cellsOf 47=2:=by kernel_rfl
theorem pI:Tryz.prog.cellsOf 45=1:=by kernel_rfl
set_option maxRecDepth 100000 in
theorem ld(q:Value.okWide Zp W r b 47 v)(h:∃n,DataW.trod enc Zp W 0 sp hd n 47 v.cells.toList=some x):∃(c:LV)(y w:List Int),v=.agg c.toArray/\LasG W c y w:=by
 obtain⟨n,h⟩:=h;have s:=UH underlying47 q;obtain⟨M,m,_,_,a,t,K⟩:=KZ underlying47 h;rw[qU]at a;obtain⟨e,I,T⟩:=Y5 a;rw[T]at K;have g:M.length=2:=t;have f:DataW.trod enc Zp W 0 sp hd m 45 ((List.drop 0 [e,I]).take (Tryz.prog.cellsOf 45))=M[0]?:=K 0 _ rfl;have z:DataW.trod enc Zp W 0 sp hd m 45 ((List.drop 1 [e,I]).take (Tryz.prog.cellsOf 45))=M[1]?:=K 1 _ rfl;rw[pI]at f z;obtain⟨Q,o⟩:=FR (i:=0) g U;obtain⟨A,X⟩:=FR (i:=1) g U;obtain⟨D,u,N,j,p⟩:=Q2 (f.Q o);obtain⟨B,d,C,l,Z⟩:=Q2 (z.Q X);have k:e=.slice D N.length u:=by simpa using j
 have R:I=.slice B C.length d:=by simpa using l
 subst k R;exact⟨[.slice D N.length u,.slice B C.length d],N,C,by rw[s,<-T,UK],D,u,B,d,rfl,p,Z⟩
end
end
def fQ{P:Program}{f:FuncId}{fn:Func}{s:ChangeSpec}{c:OpenClaim}(v:(c.wf (OpenSpec.ofChange s))=true)(Z:(laidOutB P)=true)(W:(mapsRowed P)=true)(h:(fn.params.all (P.readableRec ·))=true)(i:(namedTie P c.named s.vars)=true)(j:(c.stops==[])=true)(l:(P.stops==[])=true)(m:(c.knobs==[])=true)(M:(P.stopKnobs==[])=true)(n:(c.inPlace==P.inPlace f)=true)(I:(c.unfollowed==P.unfollowed f)=true)(x:(c.recurses==P.recurses f)=true)(B:(c.named==P.varsNamed f)=true)(S:(c.maps==(fn.params.toList++s.plain.varTypes P).any (P.mapsRec ·))=true)(R:(c.ifaces==(fn.params.toList++s.plain.varTypes P).any (P.ifacesRec ·))=true)(E:(c.mapsOut==P.mapsAmong fn.resultTypes.toList)=true)(L:(c.loops==(fn.params.toList++s.plain.varTypes P).any (P.loopsFrom ·))=true)(p:(c.wideKeys==(fn.params.toList++s.plain.varTypes P++fn.resultTypes.toList).any (P.wideKeysFrom ·))=true)(V:(s.vars.all (P.varReadable ·))=true)(T:(fn.resultTypes.all (fun t=>P.readableRec t&&decide (t<P.types.size)))=true)(A:(c.ifacesOut==fn.resultTypes.toList.any (P.ifacesRec ·))=true)(w:(c.loopsOut==fn.resultTypes.toList.any (P.loopsFrom ·))=true)(a:(c.plainKeys==P.plainKeys)=true)(H:(c.shortTexts.isNone)=true)(G:(P.stopsHeard)=true)(b:(P.mayEnter)=true)(d:(c.lifted==P.liftsFinal)=true)(u:(P.make==some c.make)=true)(e:(c.kinds==(if c.domain.isEmpty then[]else fn.params.toList.map fun t=>match P.underlying t with|some (.int k)=>some k|_=>none))=true)(g:(c.pinned==c.pinnedBy)=true)(r:(c.veiled==(fn.params.toList++s.plain.varTypes P++fn.resultTypes.toList).any (P.veiledRec ·))=true)(q:(c.veiledFits P fn.params.toList (fn.params.toList++s.plain.varTypes P++fn.resultTypes.toList))=true):joinedFacts P f fn s c=true:=by
 unfold joinedFacts;simp only[AZ];exact⟨⟨⟨⟨⟨⟨⟨⟨⟨⟨⟨⟨⟨⟨⟨⟨⟨⟨⟨⟨⟨⟨⟨⟨⟨⟨⟨⟨⟨⟨⟨v,Z⟩,W⟩,h⟩,i⟩,j⟩,l⟩,m⟩,M⟩,n⟩,I⟩,x⟩,B⟩,S⟩,R⟩,E⟩,L⟩,p⟩,V⟩,T⟩,A⟩,w⟩,a⟩,H⟩,G⟩,b⟩,d⟩,u⟩,e⟩,g⟩,r⟩,q⟩
def Zh:(Rows.topTextDutiesRow.wf (OpenSpec.ofChange (OpenSpec.ofChange Rows.topTextDutiesSpec).bare))=true:=by kernel_rfl
def Zi:(laidOutB Zp)=true:=by kernel_rfl
def Zj:(mapsRowed Zp)=true:=by kernel_rfl
def Zk:(Tryz.f4.params.all (Tryz.prog.readableRec ·))=true:=by kernel_rfl
def Zl:(namedTie Zp Rows.topTextDutiesRow.named (OpenSpec.ofChange Rows.topTextDutiesSpec).bare.vars)=true:=by kernel_rfl
def Zm:((Rows.topTextDutiesRow.stops==[]))=true:=by kernel_rfl
def Zn:((Tryz.prog.stops==[]))=true:=by kernel_rfl
def Zo:((Rows.topTextDutiesRow.knobs==[]))=true:=by kernel_rfl
def Zq:((Tryz.prog.stopKnobs==[]))=true:=by kernel_rfl
def Zr:((Rows.topTextDutiesRow.inPlace==Tryz.prog.inPlace 4))=true:=by kernel_rfl
def ZL:((Rows.topTextDutiesRow.unfollowed==Tryz.prog.unfollowed 4))=true:=by kernel_rfl
def ZM:((Rows.topTextDutiesRow.recurses==Tryz.prog.recurses 4))=true:=by kernel_rfl
def ZN:((Rows.topTextDutiesRow.named==Tryz.prog.varsNamed 4))=true:=by kernel_rfl
def ZO:((Rows.topTextDutiesRow.maps==(Tryz.f4.params.toList++(OpenSpec.ofChange Rows.topTextDutiesSpec).bare.plain.varTypes Zp).any (Tryz.prog.mapsRec ·)))=true:=by kernel_rfl
def ZP:((Rows.topTextDutiesRow.ifaces==(Tryz.f4.params.toList++(OpenSpec.ofChange Rows.topTextDutiesSpec).bare.plain.varTypes Zp).any (Tryz.prog.ifacesRec ·)))=true:=by kernel_rfl
def ZQ:((Rows.topTextDutiesRow.mapsOut==Tryz.prog.mapsAmong Tryz.f4.resultTypes.toList))=true:=by kernel_rfl
def ZR:((Rows.topTextDutiesRow.loops==(Tryz.f4.params.toList++(OpenSpec.ofChange Rows.topTextDutiesSpec).bare.plain.varTypes Zp).any (Tryz.prog.loopsFrom ·)))=true:=by kernel_rfl
def ZS:((Rows.topTextDutiesRow.wideKeys==(Tryz.f4.params.toList++(OpenSpec.ofChange Rows.topTextDutiesSpec).bare.plain.varTypes Zp++Tryz.f4.resultTypes.toList).any (Tryz.prog.wideKeysFrom ·)))=true:=by kernel_rfl
def ZT:((OpenSpec.ofChange Rows.topTextDutiesSpec).bare.vars.all (Tryz.prog.varReadable ·))=true:=by kernel_rfl
def ZU:(Tryz.f4.resultTypes.all (fun t=>Tryz.prog.readableRec t&&decide (t<Tryz.prog.types.size)))=true:=by kernel_rfl
def ZV:((Rows.topTextDutiesRow.ifacesOut==Tryz.f4.resultTypes.toList.any (Tryz.prog.ifacesRec ·)))=true:=by kernel_rfl
def ZW:((Rows.topTextDutiesRow.loopsOut==Tryz.f4.resultTypes.toList.any (Tryz.prog.loopsFrom ·)))=true:=by kernel_rfl
def ZX:((Rows.topTextDutiesRow.plainKeys==Tryz.prog.plainKeys))=true:=by kernel_rfl
def ZY:(Rows.topTextDutiesRow.shortTexts.isNone)=true:=by kernel_rfl
def ZZ:(Tryz.prog.stopsHeard)=true:=by kernel_rfl
def Za:(Tryz.prog.mayEnter)=true:=by kernel_rfl
def Zb:((Rows.topTextDutiesRow.lifted==Tryz.prog.liftsFinal))=true:=by kernel_rfl
def Zc:((Tryz.prog.make==some Rows.topTextDutiesRow.make))=true:=by kernel_rfl
def Zd:((Rows.topTextDutiesRow.kinds==(if Rows.topTextDutiesRow.domain.isEmpty then[]else Tryz.f4.params.toList.map fun t=>match Tryz.prog.underlying t with|some (.int k)=>some k|_=>none)))=true:=by kernel_rfl
def Ze:((Rows.topTextDutiesRow.pinned==Rows.topTextDutiesRow.pinnedBy))=true:=by kernel_rfl
def Zf:((Rows.topTextDutiesRow.veiled==(Tryz.f4.params.toList++(OpenSpec.ofChange Rows.topTextDutiesSpec).bare.plain.varTypes Zp++Tryz.f4.resultTypes.toList).any (Tryz.prog.veiledRec ·)))=true:=by kernel_rfl
def Zg:(Rows.topTextDutiesRow.veiledFits Zp Tryz.f4.params.toList (Tryz.f4.params.toList++(OpenSpec.ofChange Rows.topTextDutiesSpec).bare.plain.varTypes Zp++Tryz.f4.resultTypes.toList))=true:=by kernel_rfl
def ZD:joinedFacts Tryz.prog 4 Tryz.f4 (OpenSpec.ofChange Rows.topTextDutiesSpec).bare Rows.topTextDutiesRow=true:=fQ Zh Zi Zj Zk Zl Zm Zn Zo Zq Zr ZL ZM ZN ZO ZP ZQ ZR ZS ZT ZU ZV ZW ZX ZY ZZ Za Zb Zc Zd Ze Zf Zg
def ZF:joinedFacts Tryz.pinned.checked.prog 4 Tryz.f4 (OpenSpec.ofChange Rows.topTextDutiesSpec).bare Rows.topTextDutiesRow=true:=by
 rw[show Tryz.pinned.checked.prog=Tryz.prog from by kernel_rfl];exact ZD
section
open Go.ChangeAt Go.ChangeShapes Go.WideShapes
set_option maxRecDepth 100000 in
theorem ZJ{H:Type}{enc:TypeId×Value->H}(W:World)(S:Nat)(args:LV)(ds:List (DataW H))(p:List MemPlace)(b:∀(j:Nat)t v,Tryz.f4.params.toList[j]?=some t->args[j]?=some v->Value.okWide Zp W .any S t v)
  (d:DataW.TrodAll enc Zp W 0 (fun _=>true) true Tryz.f4.params.toList args ds p)(z:GP W/\GF W):Fn Zp 4 args W fun v w'=>v=.bool true/\Ext W w':=by
 rw[Tryz.params4]at d b;obtain⟨R,_,w,_,l,A,rfl,rfl,rfl,e,X⟩:=trodAll_cons d;obtain⟨o,_,P,_,y,B,rfl,rfl,rfl,f,T⟩:=trodAll_cons X;obtain⟨n,_,x,_,E,D,rfl,rfl,rfl,g,K⟩:=trodAll_cons T;obtain⟨rfl,rfl,rfl⟩:=trodAll_nil K;obtain⟨k,s,rfl,u,F,rfl,i,Z⟩:=lf (b 0 _ R rfl rfl) e;obtain⟨G,h,r,rfl,V⟩:=iX (b 1 _ o rfl rfl) f;obtain⟨c,M,I,rfl,N⟩:=ld (b 2 _ n rfl rfl) g;obtain⟨m,q,rfl,_⟩:=i.len;obtain⟨C,a,rfl,_⟩:=Z.len;exact Z9 W m q C a s G h r c M I i Z V N z.1 z.2 z.1.gk.keys z.1.gk.gv.size
theorem ZE(s:Os):laidMet Zp NE ((laidWorld s).forCall (fun _ _=>0) ⟨#[],#[.agg #[nS,nS],nS,.agg #[nS,nS]],[]⟩).memory:=laidMet_of_run' 8 rD rD
theorem ZI(s:Os){H:Type}(enc:TypeId×Value->H):∃I,DataW.whole enc Zp ((laidWorld s).forCall (fun _ _=>0) ⟨#[],#[.agg #[nS,nS],nS,.agg #[nS,nS]],[]⟩).memory Tryz.f4.params.toList Rows.topTextDutiesSpec.vars false #[.agg #[nS,nS],nS,.agg #[nS,nS]].toList 8=some ([.agg [.nil,.nil],.nil,.agg [.nil,.nil]],[],I):=⟨[],by kernel_rfl⟩
set_option maxRecDepth 100000 in
theorem ZG(s:Os)(b:s.Started)(H:Type)(enc:TypeId×Value->H)(F:Stop.Interp):
  ReturnsInHanded {} Tryz.checked s 4 .any ((OpenSpec.ofChange Rows.topTextDutiesSpec).preRow enc Zp Tryz.f4 Rows.topTextDutiesRow.domain false Rows.topTextDutiesRow.laid) (((OpenSpec.ofChange Rows.topTextDutiesSpec).at F).post enc Zp Tryz.f4 false true false false):=by
 obtain⟨I,V⟩:=ZI s enc
 exact aw b F rD func4
  (witness_row_atRef (enc:=enc) (C:=Tryz.checked) false (laidWorld s) #[.agg #[nS,nS],nS,.agg #[nS,nS]] rfl rD rD rD
   (OpenSpec.preRow_of_cond 8 V rD (fun k P=>by cases P) rD (ZE s))) rfl rD rD
  (fun a h=>by
   match a,h with
   | [d1,d2,d3],_=>rfl) ZJ
theorem ZK:Rows.TopTextDutiesSaid:=
 OpenClaim.holds_of_cond 4 Tryz.f4 rfl rfl rfl rfl rfl rfl rfl ⟨rfl,rfl,rfl,rfl,rfl⟩ rfl rfl rfl rfl rfl rD func4 ZF
  (FO rD) (by unfold Func.isWrapper;first|(rw[AJ (by decide+kernel)];kernel_rfl)|(rw[AG (by decide+kernel)];exact⟨rfl,rfl⟩))
  (fun s k H a _ F=>by rw[OpenClaim.pre_eq_preRow];exact ZG s k H a F)
theorem ZH(f:FuncId)(fn:Func)(K:Tryz.pinned.checked.prog.funcNamed "foresight/foresighttop.TopTextDuties" =some f)(o:Tryz.pinned.checked.prog.funcs[f]?=some fn):
  true=Tryz.pinned.checked.prog.looks []/\∀(j:Nat)t,fn.params[j]?=some t->Tryz.pinned.checked.prog.wantsStandIn t=false:=by
 obtain rfl:f=4:=Option.some.inj ((show Tryz.prog.funcNamed "foresight/foresighttop.TopTextDuties" =some 4 by kernel_rfl).symm.Q K) |>.symm;obtain rfl:fn=Tryz.f4:=(Ae (func4.symm.Q o)).symm;refine⟨by kernel_rfl,fun j t P=>?_⟩;have b:(Tryz.f4.params.toList.all fun t=> !Tryz.prog.wantsStandIn t)=true:=by kernel_rfl
 have:=Bu.1 b t (by simpa using Lh P);exact D7 _ |>.mp this
theorem TopTextDuties_proved:Rows.TopTextDutiesCardSaid:=
 Claim7.holds_tied_plain_at .later [] _ _ _ _ ZK (fun _ h=>by cases h) rD (fun _ h=>by cases h) topTextDuties_row_tie rfl ⟨rfl,rfl⟩ rD rfl ZH rD
end
end Go.Proofs.YtjbocjodncbogaaGreatDoor
