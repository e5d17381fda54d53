/- TopTextGoals, part 16 of 16: rules, lemmas, walks. Conditions: none. -/
import Derived.Test.YtjbocjodncbogaaGreatDoorTX15
import Derived.Test.YtjbocjodncbogaaGreatDoorCards
import Derived.Test.YtjbocjodncbogaaGreatDoorTie
import Derived.Deep.DeepWitnessRowRef
import Derived.Lib.LaidTab
import Derived.JoinedOf
import Derived.KernelRfl
namespace Go.Proofs.YtjbocjodncbogaaGreatDoor
open Go.RowKit
set_option linter.unusedVariables false
section
open Go.ChangeAt Go.ChangeShapes Go.WideShapes
theorem lenF{cs:LV}(h:cs.length=5):∃n B Q S f,cs=[n,B,Q,S,f]:=by
 match cs,h with
 | [a,b,c,d,e],_=>exact⟨a,b,c,d,e,rfl⟩
theorem lenR{cs:LV}(h:cs.length=8):∃n B Q d,cs=n::B::Q::d/\d.length=5:=by
 match cs,h with
 |a::b::c::d,h=>exact⟨a,b,c,d,rfl,by simpa using h⟩
theorem lenG{cs:LV}(h:cs.length=3):∃n B Q,cs=[n,B,Q]:=by
 match cs,h with
 | [a,b,c],_=>exact⟨a,b,c,rfl⟩
theorem lenS{cs:LV}(h:cs.length=2):∃n B,cs=[n,B]:=by
 match cs,h with
 | [a,b],_=>exact⟨a,b,rfl⟩
theorem cell_eq{w:World}{b i j:Nat}(h:i=j):w.cell? ⟨b,i,none⟩=w.cell? ⟨b,j,none⟩:=by rw[h]
section
variable {H:Type}{enc:TypeId×Value->H}{W:World}{sp:Nat->Bool}{hd:Bool}
theorem open_rows{α:Type}[Inhabited α]{t e:TypeId}{c X:Nat}{cs:LV}{x:DataW H×List MemPlace}(Q:LV->α->Prop)(w:Tryz.prog.underlying t=some (.slice e))(T:Tryz.prog.cellsOf e=c)(z:0<c)
  (y:∀(n:Nat)(cs:LV)(x:DataW H×List MemPlace),n<X->DataW.trod enc Zp W 0 sp hd n e cs=some x->∃a,Q cs a)(h:DataW.trod enc Zp W 0 sp hd X t cs=some x):
  ∃(a:Option Addr)(k:Nat)(L:List (LV))(l:List α),cs=[.slice a l.length k]/\Sl Af W (.slice a l.length k) l.length L.flatten/\L.length=l.length/\(∀d∈L,d.length=c)/\∀(i:Nat)(d:LV)(a:α),L[i]?=some d->l[i]?=some a->Q d a:=by
 rcases DataW.trod_slice w h with⟨rfl,_⟩|⟨a,f,E,a1,a5,n,rfl,rfl,_,_,hl,hm,a4,P,_,_⟩
 ·exact⟨none,0,[],[],rfl,⟨none,0,rfl,Nat.le_refl _,by omega,fun _=>rfl,.inl rfl⟩,rfl,(fun d hd=>by cases hd),fun i d a h=>by simp at h⟩
 ·rw[T]at P
  obtain⟨D,o⟩:=Deep.choose_lt (α:=LV×α) (n:=f) (p:=fun i q=>W.cells? 0 (a.add (i*c)) c=some q.1/\Q q.1 q.2) (fun i j=>by
   have Z:=P i j;rw[List.getElem?_eq_getElem U]at Z;obtain⟨K,m,R⟩:=Option.bind_eq_some_iff.1 Z;obtain⟨b,S⟩:=y n K _ (Nat.lt_succ_self n) R;exact⟨(K,b),m,S⟩)
  have N:∀i,i<f->(D i).1.length=c:=fun i j=>(World.cells?_some (o i j).1).2.1
  have I:∀d∈((List.range f).map fun i=>(D i).1),d.length=c:=by
   intro d hd;obtain⟨i,j,rfl⟩:=List.mem_map.1 hd;exact N i (List.mem_range.1 j)
  have G:((List.range f).map fun i=>(D i).2).length=f:=by simp
  refine⟨some a,E,(List.range f).map fun i=>(D i).1,(List.range f).map fun i=>(D i).2,by rw[G],⟨some a,E,rfl,by omega,by simp only[maxLen]at hm;omega,(fun h=>by cases h),?_⟩,by simp,I,?_⟩
  ·by_cases hz:f=0
   ·left;omega
   ·right;have M:=(World.cells?_some (o 0 U).1).2.2 0 z
    have F:a.spot=none:=by
     have a2:=N 0 U;rw[List.getElem?_eq_getElem U]at M;have:=spot_none M;simpa[Addr.add]using this
    obtain⟨b,a0,s⟩:=a;simp only at F;subst F;refine⟨b,a0,rfl,trivial,fun i u g=>?_⟩;have C:=(List.getElem?_eq_some_iff.1 g).1;rw[Bw c _ I]at C;simp only[List.length_map,List.length_range]at C;have A:i/c<f:=(Nat.div_lt_iff_lt_mul z).2 C;have hj:i%c<c:=Nat.mod_lt _ z
    have B:((List.range f).map fun i=>(D i).1)[i/c]?=some (D (i/c)).1:=by
     rw[List.getElem?_map,List.getElem?_range A];rfl
    have a3:=N _ A;have V:(D (i/c)).1[i%c]?=some (D (i/c)).1[i%c]:=List.getElem?_eq_getElem U;have Z:=CR c _ _ _ _ _ I B V;have j:i/c*c+i%c=i:=by rw[Nat.mul_comm];exact Nat.div_add_mod i c
    rw[j]at Z;have m:=(World.cells?_some (o _ A).1).2.2 (i%c) hj;rw[Addr.add_lit,Addr.add_lit,V]at m;have e:u=(D (i/c)).1[i%c]:=Option.some.inj (g.symm.trans Z);rw[e,<-m];exact cell_eq U
  ·intro i d b hd S;obtain⟨Z,rfl⟩:=List.getElem?_eq_some_iff.1 hd;obtain⟨_,rfl⟩:=List.getElem?_eq_some_iff.1 S;simp at Z;simp only[List.getElem_map,List.getElem_range];exact(o i U).2
theorem cellF:Tryz.prog.cellsOf 37=5:=by kernel_rfl
theorem cellR:Tryz.prog.cellsOf 57=8:=by kernel_rfl
theorem cellS:Tryz.prog.cellsOf 25=2:=by kernel_rfl
theorem cellSg:Tryz.prog.cellsOf 129=3:=by kernel_rfl
theorem cellI:Tryz.prog.cellsOf 3=1:=by kernel_rfl
theorem cellB:Tryz.prog.cellsOf 4=1:=by kernel_rfl
theorem cellSt:Tryz.prog.cellsOf 9=1:=by kernel_rfl
theorem cellFs:Tryz.prog.cellsOf 35=1:=by kernel_rfl
theorem cellSgs:Tryz.prog.cellsOf 22=1:=by kernel_rfl
theorem cellRs:Tryz.prog.cellsOf 23=1:=by kernel_rfl
theorem strV_toList(s:ByteArray):Value.string s=AL s.data.toList:=by simp[AL]
theorem B9{β:Type}{xs:List β}{n i:Nat}(h:xs.length=n)(a:i<n):∃y,xs[i]?=some y:=⟨_,List.getElem?_eq_getElem U⟩
theorem open_fml:∀(X:Nat)(cs:LV)(x:DataW H×List MemPlace),DataW.trod enc Zp W 0 sp hd X 37 cs=some x->∃f:Fml,fmlR.fits Af W cs f:=by
 intro X
 induction X using Nat.strongRecOn with
 |ind X ih=>
 intro cs x h;obtain⟨o,n,rfl,_,K,a0,P⟩:=DataW.trod_struct Tryz.underlying37 h;rw[cellF]at K;obtain⟨e,B,Q,S,j,rfl⟩:=lenF K;have I:o.length=5:=a0;have y:DataW.trod enc Zp W 0 sp hd n 3 ((List.drop 0 [e,B,Q,S,j]).take (Tryz.prog.cellsOf 3))=o[0]?:=P 0 _ rfl;have p:DataW.trod enc Zp W 0 sp hd n 9 ((List.drop 1 [e,B,Q,S,j]).take (Tryz.prog.cellsOf 9))=o[1]?:=P 1 _ rfl;have N:DataW.trod enc Zp W 0 sp hd n 3 ((List.drop 2 [e,B,Q,S,j]).take (Tryz.prog.cellsOf 3))=o[2]?:=P 2 _ rfl;have t:DataW.trod enc Zp W 0 sp hd n 3 ((List.drop 3 [e,B,Q,S,j]).take (Tryz.prog.cellsOf 3))=o[3]?:=P 3 _ rfl;have u:DataW.trod enc Zp W 0 sp hd n 35 ((List.drop 4 [e,B,Q,S,j]).take (Tryz.prog.cellsOf 35))=o[4]?:=P 4 _ rfl;rw[cellI]at y N t;rw[cellSt]at p;rw[cellFs]at u;obtain⟨y0,T⟩:=B9 (i:=0) I U;obtain⟨y1,Z⟩:=B9 (i:=1) I U;obtain⟨y2,g2⟩:=B9 (i:=2) I U;obtain⟨y3,A⟩:=B9 (i:=3) I U;obtain⟨y4,g4⟩:=B9 (i:=4) I U;obtain⟨M,w,_,_⟩:=DataW.trod_int Tryz.underlying3 (y.trans T);obtain⟨s,z,_,_⟩:=DataW.trod_string Tryz.underlying9 (p.trans Z);obtain⟨v,D,_,_⟩:=DataW.trod_int Tryz.underlying3 (N.trans g2);obtain⟨b,F,_,_⟩:=DataW.trod_int Tryz.underlying3 (t.trans A);have:Inhabited Fml:=⟨Am⟩;obtain⟨a,k,L,l,R,hS,hL,h5,hA⟩:=open_rows (fun d g=>fmlR.fits Af W d g) Tryz.underlying35 cellF U (fun m cs x hm hx=>ih m U cs x hx) (u.trans g4);have q:e=iV M:=by simpa using w
 have C:B=AL s.data.toList:=by rw[<-strV_toList];simpa using z
 have E:Q=iV v:=by simpa using D
 have G:S=iV b:=by simpa using F
 have V:j=.slice a l.length k:=by simpa using R
 subst q C E G V;exact⟨⟨M,s.data.toList,v,b,l⟩,rfl,.mk M _ v b l _ L hS hL h5 fun i c g hc hg=>(hA i c g hc hg).2⟩
theorem open_req{X:Nat}{cs:LV}{x:DataW H×List MemPlace}(h:DataW.trod enc Zp W 0 sp hd X 57 cs=some x):∃r:Rqm,reqR.fits Af W cs r:=by
 obtain⟨a,n,rfl,_,K,D,P⟩:=DataW.trod_struct Tryz.underlying57 h;rw[cellR]at K;obtain⟨c,B,Q,d,rfl,m⟩:=lenR K;have T:a.length=4:=D;have y:DataW.trod enc Zp W 0 sp hd n 9 ((List.drop 0 (c::B::Q::d)).take (Tryz.prog.cellsOf 9))=a[0]?:=P 0 _ rfl;have I:DataW.trod enc Zp W 0 sp hd n 9 ((List.drop 1 (c::B::Q::d)).take (Tryz.prog.cellsOf 9))=a[1]?:=P 1 _ rfl;have N:DataW.trod enc Zp W 0 sp hd n 3 ((List.drop 2 (c::B::Q::d)).take (Tryz.prog.cellsOf 3))=a[2]?:=P 2 _ rfl;have e:DataW.trod enc Zp W 0 sp hd n 37 ((List.drop 3 (c::B::Q::d)).take (Tryz.prog.cellsOf 37))=a[3]?:=P 3 _ rfl;rw[cellI]at N;rw[cellSt]at y I;rw[cellF]at e;obtain⟨G,L⟩:=B9 (i:=0) T U;obtain⟨p,E⟩:=B9 (i:=1) T U;obtain⟨M,F⟩:=B9 (i:=2) T U;obtain⟨z,A⟩:=B9 (i:=3) T U;obtain⟨s,j,_,_⟩:=DataW.trod_string Tryz.underlying9 (y.trans L);obtain⟨t,l,_,_⟩:=DataW.trod_string Tryz.underlying9 (I.trans E);obtain⟨k,o,_,_⟩:=DataW.trod_int Tryz.underlying3 (N.trans F);obtain⟨f,g⟩:=open_fml _ _ _ (e.trans A);have q:c=AL s.data.toList:=by rw[<-strV_toList];simpa using j
 have C:B=AL t.data.toList:=by rw[<-strV_toList];simpa using l
 have u:Q=iV k:=by simpa using o
 have w:(List.drop 3 (c::B::Q::d)).take 5=d:=by simp[<-m]
 rw[w]at g;subst q C u;exact⟨⟨s.data.toList,t.data.toList,k,f⟩,d,rfl,m,g.2⟩
theorem open_sgn{X:Nat}{cs:LV}{x:DataW H×List MemPlace}(h:DataW.trod enc Zp W 0 sp hd X 129 cs=some x):∃r:Sgn,sgnR.fits Af W cs r:=by
 obtain⟨a,n,rfl,_,K,D,P⟩:=DataW.trod_struct Tryz.underlying129 h;rw[cellSg]at K;obtain⟨c,B,Q,rfl⟩:=lenG K;have e:a.length=3:=D;have y:DataW.trod enc Zp W 0 sp hd n 9 ((List.drop 0 [c,B,Q]).take (Tryz.prog.cellsOf 9))=a[0]?:=P 0 _ rfl;have I:DataW.trod enc Zp W 0 sp hd n 4 ((List.drop 1 [c,B,Q]).take (Tryz.prog.cellsOf 4))=a[1]?:=P 1 _ rfl;have N:DataW.trod enc Zp W 0 sp hd n 3 ((List.drop 2 [c,B,Q]).take (Tryz.prog.cellsOf 3))=a[2]?:=P 2 _ rfl;rw[cellI]at N;rw[cellSt]at y;rw[cellB]at I;obtain⟨m,L⟩:=B9 (i:=0) e U;obtain⟨p,l⟩:=B9 (i:=1) e U;obtain⟨u,o⟩:=B9 (i:=2) e U;obtain⟨s,d,_,_⟩:=DataW.trod_string Tryz.underlying9 (y.trans L);obtain⟨t,f,_,_⟩:=DataW.trod_bool Tryz.underlying4 (I.trans l);obtain⟨k,g,_,_⟩:=DataW.trod_int Tryz.underlying3 (N.trans o);have q:c=AL s.data.toList:=by rw[<-strV_toList];simpa using d
 have C:B=.bool t:=by simpa using f
 have j:Q=iV k:=by simpa using g
 subst q C j;exact⟨⟨s.data.toList,t,k⟩,rfl⟩
theorem open_sgns{X:Nat}{cs:LV}{x:DataW H×List MemPlace}(h:DataW.trod enc Zp W 0 sp hd X 22 cs=some x):∃(v:Value)(l:List Sgn),cs=[v]/\SlAt sgnR Af W v l:=by
 have:Inhabited Sgn:=⟨⟨[],false,0⟩⟩;obtain⟨a,k,L,l,e,c,K,_,Q⟩:=open_rows (fun d g=>sgnR.fits Af W d g) Tryz.underlying22 cellSg U (fun m cs x _ V=>open_sgn V) h;exact⟨_,l,e,a,k,L,rfl,c,K,Q⟩
theorem open_reqs{X:Nat}{cs:LV}{x:DataW H×List MemPlace}(h:DataW.trod enc Zp W 0 sp hd X 23 cs=some x):∃(v:Value)(l:List Rqm),cs=[v]/\SlAt reqR Af W v l:=by
 have:Inhabited Rqm:=⟨⟨[],[],0,Am⟩⟩;obtain⟨a,k,L,l,e,c,K,_,Q⟩:=open_rows (fun d g=>reqR.fits Af W d g) Tryz.underlying23 cellR U (fun m cs x _ V=>open_req V) h;exact⟨_,l,e,a,k,L,rfl,c,K,Q⟩
theorem open_spc{X:Nat}{cs:LV}{x:DataW H×List MemPlace}(h:DataW.trod enc Zp W 0 sp hd X 25 cs=some x):∃s:Spc,spcR.fits Af W cs s:=by
 obtain⟨a,n,rfl,_,K,D,P⟩:=DataW.trod_struct Tryz.underlying25 h;rw[cellS]at K;obtain⟨c,B,rfl⟩:=lenS K;have d:a.length=2:=D;have y:DataW.trod enc Zp W 0 sp hd n 22 ((List.drop 0 [c,B]).take (Tryz.prog.cellsOf 22))=a[0]?:=P 0 _ rfl;have I:DataW.trod enc Zp W 0 sp hd n 23 ((List.drop 1 [c,B]).take (Tryz.prog.cellsOf 23))=a[1]?:=P 1 _ rfl;rw[cellSgs]at y;rw[cellRs]at I;obtain⟨m,L⟩:=B9 (i:=0) d U;obtain⟨p,Q⟩:=B9 (i:=1) d U;obtain⟨j,A,e,t⟩:=open_sgns (y.trans L);obtain⟨u,g,f,Z⟩:=open_reqs (I.trans Q);have q:c=j:=by simpa using e
 have C:B=u:=by simpa using f
 subst q C;exact⟨⟨A,g⟩,c,B,rfl,t,Z⟩
end
set_option maxRecDepth 100000 in
theorem val_struct{W:World}{r:Reach}{t:TypeId}{Z:Array Field}{v:Value}{b:Nat}(w:Tryz.prog.underlying t=some (.struct Z))(c:Value.okWide Zp W r b t v):v=.agg v.cells:=by
 obtain⟨q,rfl,_⟩:=okWide_struct w c;rfl
section
variable {H:Type}{enc:TypeId×Value->H}{W:World}{sp:Nat->Bool}{hd:Bool}{r:Reach}{b:Nat}{v:Value}{x:DataW H×List MemPlace}
set_option maxRecDepth 100000 in
theorem arg_spc(a:Value.okWide Zp W r b 25 v)(h:∃n,DataW.trod enc Zp W 0 sp hd n 25 v.cells.toList=some x):∃(c:LV)(s:Spc),v=.agg c.toArray/\spcR.fits Af W c s:=by
 obtain⟨n,h⟩:=h;obtain⟨s,F⟩:=open_spc h;exact⟨_,s,by rw[Array.toArray_toList];exact val_struct Tryz.underlying25 a,F⟩
end
end
section
open Go.ChangeAt Go.ChangeShapes Go.WideShapes
section
variable {H:Type}{enc:TypeId×Value->H}{P:Program}{w:World}{base:Nat}{sp:Nat->Bool}{held:Bool}
theorem trod_arr{X:Nat}{t e:TypeId}{n c:Nat}{cs:LV}{ds:List (DataW H)}{p:List MemPlace}(j:P.underlying t=some (.array n e))(a:P.cellsOf e=c)(Z:P.cellsOf t=n*c)
  (h:DataW.trod enc P w base sp held X t cs=some (.agg ds,p)):cs.length=n*c/\∃m,∀i,i<n->∃d q,ds[i]?=some d/\DataW.trod enc P w base sp held m e ((cs.drop (i*c)).take c)=some (d,q):=by
 cases X with
 |zero=>simp[DataW.trod]at h
 |succ X=>
  simp only[DataW.trod,j,a,Z]at h
  split at h
  ·rename_i hl;obtain⟨l,s,V⟩:=Option.map_eq_some_iff.1 h
   have k:l.map (·.1)=ds:=by
    have:=congrArg Prod.fst V;simpa using this
   refine⟨hl,X,fun i g=>?_⟩;obtain⟨b,S,f⟩:=Lib.mapM_at s i i (by simp[g]);exact⟨b.1,b.2,by rw[<-k,List.getElem?_map,S];rfl,f⟩
  ·cases h
end
def spanD(p:Nat×Nat×Nat):DataW Unit:=.agg [.lit (.int .u8 (p.1:Int)),.lit (.int .u8 (p.2.1:Int)),.lit (.int .i64 (p.2.2:Int))]
theorem D8{cs out:LV}{c i r:Nat}{v:Value}(h:(cs.drop (i*c)).take c=out)(p:out[r]?=some v):cs[i*c+r]?=some v:=by
 subst h;rw[List.getElem?_take]at p
 split at p
 ·rwa [List.getElem?_drop]at p
 ·cases p
theorem len3{cs:LV}(h:cs.length=3):∃n B Q,cs=[n,B,Q]:=by
 match cs,h with
 | [a,b,c],_=>exact⟨a,b,c,rfl⟩
theorem span_piece{w:World}{X:Nat}{cs:LV}{p:Nat×Nat×Nat}{q:List MemPlace}(h:DataW.trod (fun _=>()) Zp w 0 (fun _=>true) false X 250 cs=some (spanD p,q)):cs=spanC1 p:=by
 have T:Tryz.prog.cellsOf 250=3:=by kernel_rfl
 have i:Tryz.prog.cellsOf 5=1:=by kernel_rfl
 have u:Tryz.prog.cellsOf 3=1:=by kernel_rfl
 obtain⟨d,n,_,V,t,v,g⟩:=DataW.trod_struct Tryz.underlying250 h;rw[T]at t;obtain⟨f,B,Q,rfl⟩:=len3 t;have y:DataW.trod (fun _=>()) Zp w 0 (fun _=>true) false n 5 ((List.drop 0 [f,B,Q]).take (Tryz.prog.cellsOf 5))=d[0]?:=g 0 _ rfl;have I:DataW.trod (fun _=>()) Zp w 0 (fun _=>true) false n 5 ((List.drop 1 [f,B,Q]).take (Tryz.prog.cellsOf 5))=d[1]?:=g 1 _ rfl;have N:DataW.trod (fun _=>()) Zp w 0 (fun _=>true) false n 3 ((List.drop 2 [f,B,Q]).take (Tryz.prog.cellsOf 3))=d[2]?:=g 2 _ rfl;have e:d.length=3:=v;rw[i]at y I;rw[u]at N;have L:d[0]?=some d[0]:=List.getElem?_eq_getElem U;have l:d[1]?=some d[1]:=List.getElem?_eq_getElem U;have m:d[2]?=some d[2]:=List.getElem?_eq_getElem U;obtain⟨a,D,o,_⟩:=DataW.trod_int Tryz.underlying5 (y.trans L);obtain⟨b,S,A,_⟩:=DataW.trod_int Tryz.underlying5 (I.trans l);obtain⟨c,W,s,_⟩:=DataW.trod_int Tryz.underlying3 (N.trans m)
 have C:d.map (·.1)=[.lit (.int .u8 (p.1:Int)),.lit (.int .u8 (p.2.1:Int)),.lit (.int .i64 (p.2.2:Int))]:=by
  have:=congrArg Prod.fst V;simpa[spanD]using this.symm
 have j:=congrArg (·[0]?) C;have k:=congrArg (·[1]?) C;have r:=congrArg (·[2]?) C;simp[L,o]at j;simp[l,A]at k;simp[m,s]at r;simp at D S W;rw[D,S,W,j,k,r];try rfl
theorem sym_piece{w:World}{X:Nat}{cs:LV}{l:LU}{q:List MemPlace}(h:DataW.trod (fun _=>()) Zp w 0 (fun _=>true) false X 9 cs=some (.lit (.string l),q)):cs=[AL l]:=by
 obtain⟨s,rfl,V,_⟩:=DataW.trod_string Tryz.underlying9 h;have:=congrArg Prod.fst V;simp at this;rw[this]
theorem int_at{w:World}{X i:Nat}{cs:LV}{xs:List (DataW Unit×List MemPlace)}{ds:List (DataW Unit)}{z:Int}(b:DataW.trod (fun _=>()) Zp w 0 (fun _=>true) false X 3 ((cs.drop i).take 1)=xs[i]?)(C:xs.map (·.1)=ds)(a:ds[i]?=some (.lit (.int .i64 z))):cs[i]?=some (iV z):=by
 rw[<-C,List.getElem?_map]at a;obtain⟨x,V,o⟩:=Option.map_eq_some_iff.1 a;obtain⟨n,I,rfl,_⟩:=DataW.trod_int Tryz.underlying3 (b.trans V);simp at o;subst o;have:=congrArg (·[0]?) I;simpa[List.getElem?_take,List.getElem?_drop]using this
theorem bool_at{w:World}{X i:Nat}{cs:LV}{xs:List (DataW Unit×List MemPlace)}{ds:List (DataW Unit)}{z:Bool}(b:DataW.trod (fun _=>()) Zp w 0 (fun _=>true) false X 4 ((cs.drop i).take 1)=xs[i]?)(C:xs.map (·.1)=ds)(a:ds[i]?=some (.lit (.bool z))):cs[i]?=some (.bool z):=by
 rw[<-C,List.getElem?_map]at a;obtain⟨x,V,o⟩:=Option.map_eq_some_iff.1 a;obtain⟨n,I,rfl⟩:=DataW.trod_bool Tryz.underlying4 (b.trans V);simp at o;subst o;have:=congrArg (·[0]?) I;simpa[List.getElem?_take,List.getElem?_drop]using this
def formD(x:Form):DataW Unit:=.agg [.lit (.int .i64 x.least),.lit (.int .i64 x.most),.lit (.int .i64 x.val),.lit (.int .i64 x.bound),.lit (.bool x.named),.lit (.bool x.past),.lit (.bool x.future),.lit (.bool x.loose)]
theorem form_piece{w:World}{X:Nat}{cs:LV}{p:Form}{q:List MemPlace}(h:DataW.trod (fun _=>()) Zp w 0 (fun _=>true) false X 221 cs=some (formD p,q)):cs=CJ p:=by
 have T:Tryz.prog.cellsOf 221=8:=by kernel_rfl
 have f:Tryz.prog.cellsOf 4=1:=by kernel_rfl
 have g:Tryz.prog.cellsOf 3=1:=by kernel_rfl
 obtain⟨a,n,_,V,t,D,b⟩:=DataW.trod_struct Tryz.underlying221 h;rw[T]at t
 have C:a.map (·.1)=[.lit (.int .i64 p.least),.lit (.int .i64 p.most),.lit (.int .i64 p.val),.lit (.int .i64 p.bound),.lit (.bool p.named),.lit (.bool p.past),.lit (.bool p.future),.lit (.bool p.loose)]:=by
  have:=congrArg Prod.fst V;simpa[formD]using this.symm
 have y:DataW.trod (fun _=>()) Zp w 0 (fun _=>true) false n 3 ((cs.drop 0).take (Tryz.prog.cellsOf 3))=a[0]?:=b 0 _ rfl;have I:DataW.trod (fun _=>()) Zp w 0 (fun _=>true) false n 3 ((cs.drop 1).take (Tryz.prog.cellsOf 3))=a[1]?:=b 1 _ rfl;have N:DataW.trod (fun _=>()) Zp w 0 (fun _=>true) false n 3 ((cs.drop 2).take (Tryz.prog.cellsOf 3))=a[2]?:=b 2 _ rfl;have c:DataW.trod (fun _=>()) Zp w 0 (fun _=>true) false n 3 ((cs.drop 3).take (Tryz.prog.cellsOf 3))=a[3]?:=b 3 _ rfl;have d:DataW.trod (fun _=>()) Zp w 0 (fun _=>true) false n 4 ((cs.drop 4).take (Tryz.prog.cellsOf 4))=a[4]?:=b 4 _ rfl;have o:DataW.trod (fun _=>()) Zp w 0 (fun _=>true) false n 4 ((cs.drop 5).take (Tryz.prog.cellsOf 4))=a[5]?:=b 5 _ rfl;have e:DataW.trod (fun _=>()) Zp w 0 (fun _=>true) false n 4 ((cs.drop 6).take (Tryz.prog.cellsOf 4))=a[6]?:=b 6 _ rfl;have F:DataW.trod (fun _=>()) Zp w 0 (fun _=>true) false n 4 ((cs.drop 7).take (Tryz.prog.cellsOf 4))=a[7]?:=b 7 _ rfl;rw[g]at y I N c;rw[f]at d o e F;apply List.ext_getElem?;intro i
 match i with
 |0=>exact int_at y C rfl
 |1=>exact int_at I C rfl
 |2=>exact int_at N C rfl
 |3=>exact int_at c C rfl
 |4=>exact bool_at d C rfl
 |5=>exact bool_at o C rfl
 |6=>exact bool_at e C rfl
 |7=>exact bool_at F C rfl
 |i+8=>rw[List.getElem?_eq_none U,List.getElem?_eq_none (by simp[CJ])]
def laidL:List (String×DataW Unit):=[("math/bits.deBruijn32tab",Rows.laid_math_bits_deBruijn32tab),("math/bits.deBruijn64tab",Rows.laid_math_bits_deBruijn64tab),("internal/strconv.uint64pow10",Rows.laid_internal_strconv_uint64pow10),("strconv.ErrRange",Rows.laid_strconv_ErrRange),("strconv.ErrSyntax",Rows.laid_strconv_ErrSyntax),("foresight/signal.keys",Rows.laid_foresight_signal_keys),("foresight/formula.forms",Rows.laid_foresight_formula_forms),("foresight/lexer.spans",Rows.laid_foresight_lexer_spans),("foresight/lexer.symbols",Rows.laid_foresight_lexer_symbols)]
theorem gp_of_laid{W:World}(h:laidMetH Zp laidL W):GP W/\GF W:=by
 have x:laidMet Zp laidL W:=h;obtain⟨ps,⟨g1,t1,a8,b7,p1,q1,c7,d1,d5,hd1,⟨g2,t2,a9,b8,p2,q2,c8,d2,a2,hd2,⟨g3,t3,b0,b9,p3,q3,I,F,a3,hd3,⟨g4,t4,b1,c0,p4,q4,c9,d3,d6,hd4,⟨g5,t5,b2,c1,p5,q5,d0,d4,d7,c6,⟨g6,t6,b3,c2,p6,q6,L,V,a4,A,⟨g9,t9,b6,c5,p9,q9,R,a1,a7,o,⟨g7,t7,b4,c3,p7,q7,M,Z,a5,D,⟨g8,t8,b5,c4,p8,q8,i,a0,a6,E,_,_⟩,_⟩,_⟩,_⟩,_⟩,_⟩,_⟩,_⟩,_⟩,_⟩:=x;have n2:Tryz.prog.globalNamed "math/bits.deBruijn64tab" =some 9:=by kernel_rfl
 have N:Tryz.prog.globalNamed "foresight/signal.keys" =some 0:=by kernel_rfl
 have n:Tryz.prog.globalNamed "foresight/lexer.spans" =some 1:=by kernel_rfl
 have X:Tryz.prog.globalNamed "foresight/lexer.symbols" =some 3:=by kernel_rfl
 have s:Tryz.prog.globalNamed "foresight/formula.forms" =some 2:=by kernel_rfl
 have n3:Tryz.prog.globalNamed "internal/strconv.uint64pow10" =some 6:=by kernel_rfl
 have y9:(Tryz.prog.globals[2]?).map (·.type)=some 258:=by kernel_rfl
 have y3:(Tryz.prog.globals[6]?).map (·.type)=some 347:=by kernel_rfl
 have y6:(Tryz.prog.globals[0]?).map (·.type)=some 211:=by kernel_rfl
 have y7:(Tryz.prog.globals[1]?).map (·.type)=some 251:=by kernel_rfl
 have y8:(Tryz.prog.globals[3]?).map (·.type)=some 283:=by kernel_rfl
 obtain rfl:=Option.some.inj (s.symm.trans R);obtain rfl:=Option.some.inj (n3.symm.trans I);obtain rfl:=Option.some.inj (y9.symm.trans a1);obtain rfl:=Option.some.inj (y3.symm.trans F);obtain rfl:=Option.some.inj (N.symm.trans L);obtain rfl:=Option.some.inj (n.symm.trans M);obtain rfl:=Option.some.inj (X.symm.trans i);obtain rfl:=Option.some.inj (y6.symm.trans V);obtain rfl:=Option.some.inj (y7.symm.trans Z);obtain rfl:=Option.some.inj (y8.symm.trans a0);refine⟨⟨⟨⟨?_,?_,?_⟩,?_⟩,?_⟩,?_⟩
 ·obtain⟨K,m,y⟩:=trod_arr (ds:=spansL.map spanD) Tryz.underlying251 (by kernel_rfl:Tryz.prog.cellsOf 250=3) EO D;intro j u g;have T:j<48:=(List.getElem?_eq_some_iff.1 g).1;obtain⟨p,S⟩:∃p,spansL[j/3]?=some p:=⟨_,List.getElem?_eq_getElem (by show j/3<16;omega)⟩;obtain⟨d,q,C,a⟩:=y (j/3) U;rw[List.getElem?_map,S]at C;cases C;have b:=span_piece a;have t:=spanC_at spansL (j/3) p S;obtain⟨v,G⟩:∃v,(spanC1 p)[j%3]?=some v:=⟨_,List.getElem?_eq_getElem (by show j%3<3;omega)⟩;have B:=D8 b G;have Q:=D8 t G;rw[show j/3*3+j%3=j by omega]at B Q;have f:(spansL.flatMap spanC1)[j]?=some u:=g;rw[Q]at f;rw[Nat.zero_add,World.var?_cell n a5 j];rw[<-f,<-B];simp
 ·obtain⟨K,m,y⟩:=trod_arr (ds:=symsL.map fun l=>.lit (.string l)) Tryz.underlying283 (by kernel_rfl:Tryz.prog.cellsOf 9=1) EO E;intro j u g;have T:j<15:=(List.getElem?_eq_some_iff.1 g).1;obtain⟨p,S⟩:∃p,symsL[j]?=some p:=⟨_,List.getElem?_eq_getElem T⟩;obtain⟨d,q,C,a⟩:=y j T;rw[List.getElem?_map,S]at C;cases C;have B:=D8 (r:=0) (sym_piece a) rfl;have f:(symsL.map AL)[j]?=some u:=g;rw[List.getElem?_map,S]at f;cases f;rw[Nat.zero_add,World.var?_cell X a6 j];simpa using B
 ·have c:=a2;simp only[World.var?,n2,Option.bind_some]at c
  split at c
  ·rename_i e;have:=(Array.getElem?_eq_some_iff.1 e).1;omega
  ·cases c
 ·obtain⟨K,m,y⟩:=trod_arr (ds:=keysL.map fun l=>.lit (.string l)) Tryz.underlying211 (by kernel_rfl:Tryz.prog.cellsOf 9=1) EO A;intro j u g;have T:j<10:=(List.getElem?_eq_some_iff.1 g).1;obtain⟨p,S⟩:∃p,keysL[j]?=some p:=⟨_,List.getElem?_eq_getElem T⟩;obtain⟨d,q,C,a⟩:=y j T;rw[List.getElem?_map,S]at C;cases C;have B:=D8 (r:=0) (sym_piece a) rfl;have f:(keysL.map AL)[j]?=some u:=g;rw[List.getElem?_map,S]at f;cases f;rw[Nat.zero_add,World.var?_cell N a4 j];simpa using B
 ·have z:=Lib.cells_of_tab (zs:=Lib.pow10Tab) (k:=.u64) Tryz.underlying347 Tryz.underlying322 EO EO hd3;unfold Lib.TabIs;rw[a3,<-z]
 ·obtain⟨K,m,y⟩:=trod_arr (ds:=formsL.map formD) Tryz.underlying258 (by kernel_rfl:Tryz.prog.cellsOf 221=8) EO o;intro j u g;have T:j<160:=(List.getElem?_eq_some_iff.1 g).1;obtain⟨p,S⟩:∃p,formsL[j/8]?=some p:=⟨_,List.getElem?_eq_getElem (by show j/8<20;omega)⟩;obtain⟨d,q,C,a⟩:=y (j/8) U;rw[List.getElem?_map,S]at C;cases C;have b:=form_piece a;obtain⟨v,G⟩:∃v,(CJ p)[j%8]?=some v:=⟨_,List.getElem?_eq_getElem (by show j%8<8;omega)⟩;have B:=D8 b G;have Q:=formC_at formsL (j/8) (j%8) p v S G;rw[show j/8*8+j%8=j by omega]at B Q;have f:(formsL.flatMap CJ)[j]?=some u:=g;rw[Q]at f;rw[Nat.zero_add,World.var?_cell s a7 j];rw[<-f,<-B];simp
set_option maxRecDepth 100000 in
theorem law_liftedL{m:Os}(A:m.Started){k:FuncId}{fn:Func}{s:ChangeSpec}{n:List PathCond}{fresh:Bool}{H:Type}{enc:TypeId×Value->H}(F:Stop.Interp)(V:Tryz.prog.inits.idxOf? k=none)(E:Tryz.prog.funcs[k]?=some fn)
  (a0:∃(w:World)(y:Tape)(i:Input),w.os=m/\(w.forCall y i).Shaped Zp/\i.vars=[]/\Input.okWide Zp (w.forCall y i) .any w.heap.size k i/\
   (OpenSpec.ofChange s).preRow enc Zp fn n false laidL (w.forCall y i).memory i.args/\({}:Assume).holds Zp (lone (Frame.enter Zp k i.args .normal) [] (w.forCall y i)))
  (r:s.vars=[])(R:(fn.params.toList.all fun t=>decide (t<Tryz.prog.types.size))=true)(L:fn.resultTypes= #[4])
  (M:∀ds:List (DataW H),ds.length=fn.params.toList.length->s.fn H ds={results:=[.lit (.bool true)],args:=ds})
  (T:∀(W:World)(base:Nat)(args:LV)(ds:List (DataW H))(p:List MemPlace),(∀(j:Nat)t v,fn.params.toList[j]?=some t->args[j]?=some v->Value.okWide Zp W .any base t v)->
   DataW.TrodAll enc Zp W 0 (fun _=>true) true fn.params.toList args ds p->GP W/\GF W->Fn Zp k args W fun v w'=>v=.bool true/\Ext W w'):
  ReturnsInHanded {} Tryz.checked m k .any ((OpenSpec.ofChange s).preRow enc Zp fn n false laidL) (((OpenSpec.ofChange s).at F).post enc Zp fn false fresh false false):=by
 refine returnsInHanded_of_row (C:=Tryz.checked) (s:=OpenSpec.ofChange s) own A V E a0 ?_;intro W base args ds c x S o _ _ _ K _ _;have D:DataW.Whole enc Zp fn.params.toList s.vars false W args.toList ds c x:=o;obtain⟨p,q,Q,z,rfl,hf,hn⟩:=o
 have G:c=[]:=by
  have X:DataW.TrodVars enc Zp W (fun _=>true) s.vars c q:=z;rw[r]at X;cases c with
  |nil=>rfl
  |cons _ _=>exact X.elim
 subst G
 have I:∀{u:List TypeId}{B:LV}{ds:List (DataW H)}{l:List MemPlace},DataW.TrodAll enc Zp W 0 (fun _=>true) true u B ds l->ds.length=u.length:=by
  intro u
  induction u with
  |nil=>intro B ds l h;obtain⟨rfl,rfl,rfl⟩:=trodAll_nil h;rfl
  |cons t u ih=>intro B ds l h;obtain⟨v,a2,d,a1,a,b,rfl,rfl,rfl,Z,g⟩:=trodAll_cons h;simp[ih g]
 refine Calls.mono (T W base args.toList ds p (fun j t v Z g=>S j t v (Array.getElem?_toList.symm.trans Z) (Array.getElem?_toList.symm.trans g)) Q (gp_of_laid K)) fun e W' f=>?_;cases e with
 |returned v=>
  refine⟨v,rfl,post_of_ext kids full (fun t N=>of_decide_eq_true (List.all_eq_true.1 R t N)) r D ?_ L Tryz.underlying4 f.1 f.2⟩;rw[List.append_nil];exact M ds (I Q)
 |panicked ch=>exact f.elim
 |outgrown=>exact f.elim
def layC(cs:LV):Obj->Obj
 | .cells _ t frozen=>.cells cs.toArray t frozen
 |o=>o
def tabC:DataW Unit->LV
 | .agg l=>l.map fun d=>match d with| .lit (.int k z)=>.int k z|_=>.bool false
 |_=>[]
noncomputable def laidWorld (W:Os):World:=
 let w:=World.holding Zp W ⟨#[.cells #[AL [118,97,108,117,101,32,111,117,116,32,111,102,32,114,97,110,103,101]] 345,.cells #[AL [105,110,118,97,108,105,100,32,115,121,110,116,97,120]] 345],#[],[]⟩
 {w with heap:=(((((((((w.heap.modify 2 (layC formC)).modify 1 (layC spanC)).modify 3 (layC symC)).modify 0 (layC keyC)).modify 5 (layC [.iface 343 (.pointer (sm 15))])).modify 4 (layC [.iface 343 (.pointer (sm 16))])).modify 6 (layC (tabC Rows.laid_internal_strconv_uint64pow10))).modify 8 (layC (tabC Rows.laid_math_bits_deBruijn32tab))).modify 9 (layC (tabC Rows.laid_math_bits_deBruijn64tab)))}
end
theorem joined_of{P:Program}{f:FuncId}{fn:Func}{s:ChangeSpec}{c:OpenClaim}(a:(c.wf (OpenSpec.ofChange s))=true)(Z:(laidOutB P)=true)(W:(mapsRowed P)=true)(w:(fn.params.all (P.readableRec ·))=true)(B:(namedTie P c.named s.vars)=true)(d:(c.stops==[])=true)(y:(P.stops==[])=true)(K:(c.knobs==[])=true)(i:(P.stopKnobs==[])=true)(m:(c.inPlace==P.inPlace f)=true)(N:(c.unfollowed==P.unfollowed f)=true)(g:(c.recurses==P.recurses f)=true)(n:(c.named==P.varsNamed f)=true)(h:(c.maps==(fn.params.toList++s.plain.varTypes P).any (P.mapsRec ·))=true)(b:(c.ifaces==(fn.params.toList++s.plain.varTypes P).any (P.ifacesRec ·))=true)(I:(c.mapsOut==P.mapsAmong fn.resultTypes.toList)=true)(R:(c.loops==(fn.params.toList++s.plain.varTypes P).any (P.loopsFrom ·))=true)(j:(c.wideKeys==(fn.params.toList++s.plain.varTypes P++fn.resultTypes.toList).any (P.wideKeysFrom ·))=true)(l:(s.vars.all (P.varReadable ·))=true)(e:(fn.resultTypes.all (fun t=>P.readableRec t&&decide (t<P.types.size)))=true)(o:(c.ifacesOut==fn.resultTypes.toList.any (P.ifacesRec ·))=true)(T:(c.loopsOut==fn.resultTypes.toList.any (P.loopsFrom ·))=true)(p:(c.plainKeys==P.plainKeys)=true)(V:(c.shortTexts.isNone)=true)(q:(P.stopsHeard)=true)(S:(P.mayEnter)=true)(r:(c.lifted==P.liftsFinal)=true)(u:(P.make==some c.make)=true)(Q:(c.kinds==(if c.domain.isEmpty then[]else fn.params.toList.map fun t=>match P.underlying t with|some (.int k)=>some k|_=>none))=true)(v:(c.pinned==c.pinnedBy)=true)(x:(c.veiled==(fn.params.toList++s.plain.varTypes P++fn.resultTypes.toList).any (P.veiledRec ·))=true)(M:(c.veiledFits P fn.params.toList (fn.params.toList++s.plain.varTypes P++fn.resultTypes.toList))=true):joinedFacts P f fn s c=true:=by
 unfold joinedFacts;simp only[Bool.and_eq_true];exact⟨⟨⟨⟨⟨⟨⟨⟨⟨⟨⟨⟨⟨⟨⟨⟨⟨⟨⟨⟨⟨⟨⟨⟨⟨⟨⟨⟨⟨⟨⟨a,Z⟩,W⟩,w⟩,B⟩,d⟩,y⟩,K⟩,i⟩,m⟩,N⟩,g⟩,n⟩,h⟩,b⟩,I⟩,R⟩,j⟩,l⟩,e⟩,o⟩,T⟩,p⟩,V⟩,q⟩,S⟩,r⟩,u⟩,Q⟩,v⟩,x⟩,M⟩
theorem TopTextGoals_j0:(Rows.topTextGoalsRow.wf (OpenSpec.ofChange (OpenSpec.ofChange Rows.topTextGoalsSpec).bare))=true:=by kernel_rfl
theorem TopTextGoals_j1:(laidOutB Zp)=true:=by kernel_rfl
theorem TopTextGoals_j2:(mapsRowed Zp)=true:=by kernel_rfl
theorem TopTextGoals_j3:(Tryz.f3.params.all (Tryz.prog.readableRec ·))=true:=by kernel_rfl
theorem TopTextGoals_j4:(namedTie Zp Rows.topTextGoalsRow.named (OpenSpec.ofChange Rows.topTextGoalsSpec).bare.vars)=true:=by kernel_rfl
theorem TopTextGoals_j5:((Rows.topTextGoalsRow.stops==[]))=true:=by kernel_rfl
theorem TopTextGoals_j6:((Tryz.prog.stops==[]))=true:=by kernel_rfl
theorem TopTextGoals_j7:((Rows.topTextGoalsRow.knobs==[]))=true:=by kernel_rfl
theorem TopTextGoals_j8:((Tryz.prog.stopKnobs==[]))=true:=by kernel_rfl
theorem TopTextGoals_j9:((Rows.topTextGoalsRow.inPlace==Tryz.prog.inPlace 3))=true:=by kernel_rfl
theorem TopTextGoals_j10:((Rows.topTextGoalsRow.unfollowed==Tryz.prog.unfollowed 3))=true:=by kernel_rfl
theorem TopTextGoals_j11:((Rows.topTextGoalsRow.recurses==Tryz.prog.recurses 3))=true:=by kernel_rfl
theorem TopTextGoals_j12:((Rows.topTextGoalsRow.named==Tryz.prog.varsNamed 3))=true:=by kernel_rfl
theorem TopTextGoals_j13:((Rows.topTextGoalsRow.maps==(Tryz.f3.params.toList++(OpenSpec.ofChange Rows.topTextGoalsSpec).bare.plain.varTypes Zp).any (Tryz.prog.mapsRec ·)))=true:=by kernel_rfl
theorem TopTextGoals_j14:((Rows.topTextGoalsRow.ifaces==(Tryz.f3.params.toList++(OpenSpec.ofChange Rows.topTextGoalsSpec).bare.plain.varTypes Zp).any (Tryz.prog.ifacesRec ·)))=true:=by kernel_rfl
theorem TopTextGoals_j15:((Rows.topTextGoalsRow.mapsOut==Tryz.prog.mapsAmong Tryz.f3.resultTypes.toList))=true:=by kernel_rfl
theorem TopTextGoals_j16:((Rows.topTextGoalsRow.loops==(Tryz.f3.params.toList++(OpenSpec.ofChange Rows.topTextGoalsSpec).bare.plain.varTypes Zp).any (Tryz.prog.loopsFrom ·)))=true:=by kernel_rfl
theorem TopTextGoals_j17:((Rows.topTextGoalsRow.wideKeys==(Tryz.f3.params.toList++(OpenSpec.ofChange Rows.topTextGoalsSpec).bare.plain.varTypes Zp++Tryz.f3.resultTypes.toList).any (Tryz.prog.wideKeysFrom ·)))=true:=by kernel_rfl
theorem TopTextGoals_j18:((OpenSpec.ofChange Rows.topTextGoalsSpec).bare.vars.all (Tryz.prog.varReadable ·))=true:=by kernel_rfl
theorem TopTextGoals_j19:(Tryz.f3.resultTypes.all (fun t=>Tryz.prog.readableRec t&&decide (t<Tryz.prog.types.size)))=true:=by kernel_rfl
theorem TopTextGoals_j20:((Rows.topTextGoalsRow.ifacesOut==Tryz.f3.resultTypes.toList.any (Tryz.prog.ifacesRec ·)))=true:=by kernel_rfl
theorem TopTextGoals_j21:((Rows.topTextGoalsRow.loopsOut==Tryz.f3.resultTypes.toList.any (Tryz.prog.loopsFrom ·)))=true:=by kernel_rfl
theorem TopTextGoals_j22:((Rows.topTextGoalsRow.plainKeys==Tryz.prog.plainKeys))=true:=by kernel_rfl
theorem TopTextGoals_j23:(Rows.topTextGoalsRow.shortTexts.isNone)=true:=by kernel_rfl
theorem TopTextGoals_j24:(Tryz.prog.stopsHeard)=true:=by kernel_rfl
theorem TopTextGoals_j25:(Tryz.prog.mayEnter)=true:=by kernel_rfl
theorem TopTextGoals_j26:((Rows.topTextGoalsRow.lifted==Tryz.prog.liftsFinal))=true:=by kernel_rfl
theorem TopTextGoals_j27:((Tryz.prog.make==some Rows.topTextGoalsRow.make))=true:=by kernel_rfl
theorem TopTextGoals_j28:((Rows.topTextGoalsRow.kinds==(if Rows.topTextGoalsRow.domain.isEmpty then[]else Tryz.f3.params.toList.map fun t=>match Tryz.prog.underlying t with|some (.int k)=>some k|_=>none)))=true:=by kernel_rfl
theorem TopTextGoals_j29:((Rows.topTextGoalsRow.pinned==Rows.topTextGoalsRow.pinnedBy))=true:=by kernel_rfl
theorem TopTextGoals_j30:((Rows.topTextGoalsRow.veiled==(Tryz.f3.params.toList++(OpenSpec.ofChange Rows.topTextGoalsSpec).bare.plain.varTypes Zp++Tryz.f3.resultTypes.toList).any (Tryz.prog.veiledRec ·)))=true:=by kernel_rfl
theorem TopTextGoals_j31:(Rows.topTextGoalsRow.veiledFits Zp Tryz.f3.params.toList (Tryz.f3.params.toList++(OpenSpec.ofChange Rows.topTextGoalsSpec).bare.plain.varTypes Zp++Tryz.f3.resultTypes.toList))=true:=by kernel_rfl
theorem TopTextGoals_joined0:joinedFacts Tryz.prog 3 Tryz.f3 (OpenSpec.ofChange Rows.topTextGoalsSpec).bare Rows.topTextGoalsRow=true:=joined_of TopTextGoals_j0 TopTextGoals_j1 TopTextGoals_j2 TopTextGoals_j3 TopTextGoals_j4 TopTextGoals_j5 TopTextGoals_j6 TopTextGoals_j7 TopTextGoals_j8 TopTextGoals_j9 TopTextGoals_j10 TopTextGoals_j11 TopTextGoals_j12 TopTextGoals_j13 TopTextGoals_j14 TopTextGoals_j15 TopTextGoals_j16 TopTextGoals_j17 TopTextGoals_j18 TopTextGoals_j19 TopTextGoals_j20 TopTextGoals_j21 TopTextGoals_j22 TopTextGoals_j23 TopTextGoals_j24 TopTextGoals_j25 TopTextGoals_j26 TopTextGoals_j27 TopTextGoals_j28 TopTextGoals_j29 TopTextGoals_j30 TopTextGoals_j31
theorem TopTextGoals_joined:joinedFacts Tryz.pinned.checked.prog 3 Tryz.f3 (OpenSpec.ofChange Rows.topTextGoalsSpec).bare Rows.topTextGoalsRow=true:=by
 rw[show Tryz.pinned.checked.prog=Tryz.prog from by kernel_rfl];exact TopTextGoals_joined0
section
open Go.ChangeAt Go.ChangeShapes Go.WideShapes
set_option maxRecDepth 100000 in
theorem TopTextGoals_open{H:Type}{enc:TypeId×Value->H}(W:World)(Z:Nat)(args:LV)(ds:List (DataW H))(p:List MemPlace)(c:∀(j:Nat)t v,Tryz.f3.params.toList[j]?=some t->args[j]?=some v->Value.okWide Zp W .any Z t v)
  (Q:DataW.TrodAll enc Zp W 0 (fun _=>true) true Tryz.f3.params.toList args ds p)(X:GP W/\GF W):Fn Zp 3 args W fun v w'=>v=.bool true/\Ext W w':=by
 rw[Tryz.params3]at Q c;obtain⟨x,_,E,_,h,w,rfl,rfl,rfl,a,K⟩:=trodAll_cons Q;obtain⟨rfl,rfl,rfl⟩:=trodAll_nil K;obtain⟨q,s,rfl,f,e,rfl,l,z⟩:=arg_spc (c 0 _ x rfl rfl) a;obtain⟨b,d,rfl,_⟩:=l.len;obtain⟨T,S,rfl,_⟩:=z.len;exact textGoals_ok W b d T S s l z X.1 X.2 X.1.gk.keys X.1.gk.gv.size
theorem TopTextGoals_laidMet(W:Os):laidMet Zp laidL ((laidWorld W).forCall (fun _ _=>0) ⟨#[],#[.agg #[.slice none 0 0,.slice none 0 0]],[]⟩).memory:=laidMet_of_run' 8 EO EO
theorem TopTextGoals_reads(W:Os){H:Type}(enc:TypeId×Value->H):∃D,DataW.whole enc Zp ((laidWorld W).forCall (fun _ _=>0) ⟨#[],#[.agg #[.slice none 0 0,.slice none 0 0]],[]⟩).memory Tryz.f3.params.toList Rows.topTextGoalsSpec.vars false #[.agg #[.slice none 0 0,.slice none 0 0]].toList 8=some ([.agg [.nil,.nil]],[],D):=⟨[],by kernel_rfl⟩
set_option maxRecDepth 100000 in
theorem TopTextGoals_lifted(W:Os)(A:W.Started)(H:Type)(enc:TypeId×Value->H)(F:Stop.Interp):
  ReturnsInHanded {} Tryz.checked W 3 .any ((OpenSpec.ofChange Rows.topTextGoalsSpec).preRow enc Zp Tryz.f3 Rows.topTextGoalsRow.domain false Rows.topTextGoalsRow.laid) (((OpenSpec.ofChange Rows.topTextGoalsSpec).at F).post enc Zp Tryz.f3 false true false false):=by
 obtain⟨D,V⟩:=TopTextGoals_reads W enc
 exact law_liftedL A F EO Tryz.func3
  (witness_row_atRef (enc:=enc) (C:=Tryz.checked) false (laidWorld W) #[.agg #[.slice none 0 0,.slice none 0 0]] rfl EO EO EO
   (OpenSpec.preRow_of_cond 8 V EO (fun k L=>by cases L) EO (TopTextGoals_laidMet W))) rfl EO EO
  (fun a h=>by
   match a,h with
   | [d1],_=>rfl) TopTextGoals_open
theorem TopTextGoals_said:Rows.TopTextGoalsSaid:=
 OpenClaim.holds_of_cond 3 Tryz.f3 rfl rfl rfl rfl rfl rfl rfl ⟨rfl,rfl,rfl,rfl,rfl⟩ rfl rfl rfl rfl rfl EO Tryz.func3 TopTextGoals_joined
  (of_decide_eq_true EO) (by unfold Func.isWrapper;first|(rw[if_pos (by decide+kernel)];kernel_rfl)|(rw[if_neg (by decide+kernel)];exact⟨rfl,rfl⟩))
  (fun W A H K _ F=>by rw[OpenClaim.pre_eq_preRow];exact TopTextGoals_lifted W A H K F)
theorem TopTextGoals_plain(f:FuncId)(fn:Func)(P:Tryz.pinned.checked.prog.funcNamed "foresight/foresighttop.TopTextGoals" =some f)(d:Tryz.pinned.checked.prog.funcs[f]?=some fn):
  true=Tryz.pinned.checked.prog.looks []/\∀(j:Nat)t,fn.params[j]?=some t->Tryz.pinned.checked.prog.wantsStandIn t=false:=by
 obtain rfl:f=3:=Option.some.inj ((show Tryz.prog.funcNamed "foresight/foresighttop.TopTextGoals" =some 3 by kernel_rfl).symm.trans P) |>.symm;obtain rfl:fn=Tryz.f3:=(Option.some.inj (Tryz.func3.symm.trans d)).symm;refine⟨by kernel_rfl,fun j t w=>?_⟩;have k:(Tryz.f3.params.toList.all fun t=> !Tryz.prog.wantsStandIn t)=true:=by kernel_rfl
 have:=List.all_eq_true.1 k t (by simpa using Array.mem_of_getElem? w);exact Bool.not_eq_true' _ |>.mp this
theorem TopTextGoals_proved:Rows.TopTextGoalsCardSaid:=
 Claim7.holds_tied_plain_at .later [] _ _ _ _ TopTextGoals_said (fun _ h=>by cases h) EO (fun _ h=>by cases h) topTextGoals_row_tie rfl ⟨rfl,rfl⟩ EO rfl TopTextGoals_plain EO
end
end Go.Proofs.YtjbocjodncbogaaGreatDoor
