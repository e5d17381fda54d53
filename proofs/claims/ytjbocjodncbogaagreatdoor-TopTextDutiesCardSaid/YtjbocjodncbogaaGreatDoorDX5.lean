/- TopTextDuties, part 5 of 15: lemmas. Conditions: none. -/
import Derived.Test.YtjbocjodncbogaaGreatDoorDX4
namespace Go.Proofs.YtjbocjodncbogaaGreatDoor
open Go.RowKit Go.Proofs.Tryz
set_option linter.unusedVariables false
set_option linter.defProp false
def Ee:=@List.cons_append
def X9:=@and_congr_right
def H2:=@Int.mul_le_mul
def NZ:=@List.mem_of_mem_take
def DE:=@List.length_take
def HZ:=@List.mem_range
def EK:=@Bool.not_eq_true
def FO:=@of_decide_eq_true
def ME:=@Int.mul_nonneg
section
variable {mk:Prop}[MK mk]
def BR:List Sgn->Int
 | []=>1
 |x::l=>BR l*x.size
def okI(l:List Sgn)(i:Nat):Bool:=match l[i]? with
 |some x=>BP x.name&&decide (2<=x.size)&&decide (x.size<=4)&&(l.take i).all (fun y=>decide (y.name≠x.name))
 |none=>true
def Bo(l:List Sgn):Bool:=decide (1<=l.length)&&decide (l.length<=6)&&(List.range l.length).all (okI l)&&decide (BR l<=64)
def T8:∀(l:List Sgn)(x:Sgn),BR (l++[x])=BR l*x.size
 | [],x=>by simp[BR]
 |y::l,x=>by
  rw[Ee,BR,T8 l x,BR,Int.mul_right_comm]
def Nz{l:List Sgn}{k:Nat}{x:Sgn}(h:l[k]?=some x):BR (l.take (k+1))=BR (l.take k)*x.size:=by
 rw[CT,h,<-T8];rfl
def HP{l:List Sgn}{i:Nat}{x:Sgn}(V:l[i]?=some x):okI l i=true↔BP x.name=true/\2<=x.size/\x.size<=4/\∀j y,j<i->l[j]?=some y->y.name≠x.name:=by
 unfold okI;rw[V];simp only[AZ,BD,Bu,and_assoc];refine X9 fun _=>X9 fun _=>X9 fun _=>?_;constructor
 ·intro h j y C I;exact h y (BA (by rw[Ed,AJ C];exact I))
 ·intro h y I;obtain⟨j,C⟩:=Cn I;rw[Ed]at C
  split at C
  ·exact h j y rG C
  ·cases C
def WH:∀(l:List Sgn),(∀x∈l,2<=x.size/\x.size<=4)->l.length<=6->1<=BR l/\BR l<=(4:Int)^l.length
 | [],_,_=>by simp[BR]
 |x::l,h,hl=>by
  obtain⟨Z,W⟩:=WH l (fun y I=>h y (by simp[I])) (by simp at hl;omega);obtain⟨R,A⟩:=h x O;simp only[BR,C9];constructor
  ·have:=H2 Z (show(1:Int)<=x.size by omega) U U;simpa using this
  ·rw[Int.pow_succ];exact H2 W A U U
def nO{n:Nat}(h:n<=6):(4:Int)^n<=4096:=by
 have:n=0\/n=1\/n=2\/n=3\/n=4\/n=5\/n=6:=by omega
 rcases this with rfl|rfl|rfl|rfl|rfl|rfl|rfl<;>decide
def OK{l:List Sgn}(h:∀i,i<l.length->okI l i=true){k:Nat}(P:k<=l.length)(p:l.length<=6):1<=BR (l.take k)/\BR (l.take k)<=4096:=by
 have Z:=WH (l.take k) (fun x V=>by
  obtain⟨i,F⟩:=Cn (NZ V);have:=(HP F).1 (h i (Ah.1 F).1);exact⟨this.2.1,this.2.2.1⟩) (by rw[DE];omega)
 have W:=nO (n:=(l.take k).length) (by rw[DE];omega);omega
def If{l:List Sgn}(h:Bo l=true):1<=l.length/\l.length<=6/\(∀i,i<l.length->okI l i=true)/\BR l<=64:=by
 simp only[Bo,AZ,BD,Bu,HZ]at h;exact⟨h.1.1.1,h.1.1.2,h.1.2,h.2⟩
def Th{l:List Sgn}{i:Nat}(F:i<l.length)(h:okI l i=false):Bo l=false:=by
 cases hv:Bo l with
 |false=>rfl
 |true=>rw[(If hv).2.2.1 i F]at h;cases h
set_option maxHeartbeats 1600000 in
def Lu(w:World)(v:Value)(l:List Sgn)(h:SlAt sgnR AL w v l)(hK:KY w):Fn Zp 35 [v] w fun u w'=>u=.bool (Bo l)/\Ext w w':=by
 obtain⟨a,c,L,rfl,hS,H⟩:=h;have b1:l.length<=9223372036854775807:=by obtain⟨_,_,s,R,g2,_⟩:=id hS;cases s;omega
 refine AM func35 rfl ntmps35 (go ?_);by_cases a3:1<=l.length/\l.length<=6
 case neg=>
  have s:Bo l=false:=by
   simp only[Bo];rw[show(decide (1<=l.length)&&decide (l.length<=6))=false by rw[<-EK,AZ,BD,BD];exact a3];rfl
  rw[s];by_cases h1:1<=l.length
  ·exact tG
  ·exact tG
 obtain⟨a6,a7⟩:=a3;refine go ?_;refine Aj (α:=Nat) (fun k=>[(0,.slice a l.length c),(3,.bool true),(4,iV (BR (l.take k))),(16,iV (l.length:Int)),(17,iV (k:Int))]) (fun k W=>k<=l.length/\Ext w W/\∀i,i<k->okI l i=true) (fun k=>l.length-k) 0 ⟨rfl,rfl,rfl,rfl,rfl,trivial⟩ ⟨by simp,Ext.refl _,fun i F=>by omega⟩ ?_;rintro k w1 f1⟨hk,d,N⟩;refine go ?_;by_cases M:k<l.length
 ·refine go ?_;obtain⟨x,V⟩:∃x,l[k]?=some x:=⟨_,AU M⟩
  have E:∀W,Ext w W->∀j y,l[j]?=some y->∃b o,a=some ⟨b,o,none⟩/\W.cell? ⟨b,o+j*3+0,none⟩=some (AA y.name)/\W.cell? ⟨b,o+j*3+2,none⟩=some (iV y.size):=by
   intro W I j y f;have C:=(Ah.1 f).1;obtain⟨t,r⟩:∃t,L[j]?=some t:=⟨_,AU (by rw[H.1];exact C)⟩;obtain rfl:t=Fh y:=H.2 j t y r f;obtain⟨b,o,e,_,T⟩:=(hS.ext I).recs (H.ext I) (sz:=3) rfl r C;exact⟨b,o,e,T 0 _ rfl,T 2 _ rfl⟩
  obtain⟨b,o,rfl,Q,D⟩:=E w1 d k x V;have n:okI l k=true↔_:=HP V
  have a4:=OK (l:=l.take k) (fun i F=>by
   rw[DE]at F;have a1:i<k:=by omega
   obtain⟨y,f⟩:∃y,l[i]?=some y:=⟨_,AU U⟩;have b0:(l.take k)[i]?=some y:=by rw[Ed,AJ a1];exact f
   have:=(HP f).1 (N i a1);refine(HP b0).2 ⟨this.1,this.2.1,this.2.2.1,fun j z C p=>?_⟩;rw[Ed,AJ U]at p;exact this.2.2.2 j z C p) (AO _) (by rw[DE];omega)
  rw[Co]at a4;have a9:=Nz V;refine go ?_;refine gC (Jr x.name w1 (hK.E d O)) ?_;rintro _ _⟨rfl,rfl⟩;have P:okI l k=false->Bo l=false:=Th M;cases hnm:BP x.name with
  |false=>
   have S:=P (by rw[<-EK,n];simp[hnm]);refine gR ?_;exact⟨by rw[S];rfl,d⟩
  |true=>
  refine go ?_;by_cases Z:2<=x.size
  case neg=>
   have S:=P (by rw[<-EK,n];simp[Z]);refine gR ?_;exact⟨by rw[S];rfl,d⟩
  refine go ?_;by_cases A:x.size<=4
  case neg=>
   have S:=P (by rw[<-EK,n];simp[A]);refine gR ?_;exact⟨by rw[S];rfl,d⟩
  refine go ?_;refine Aj (α:=Nat) (fun j=>[(0,.slice (sn b o) l.length c),(3,.bool true),(4,iV (BR (l.take k))),(5,iV (k:Int)),(16,iV (l.length:Int)),(17,iV (k:Int)),(43,iV (k:Int)),(44,iV (j:Int))]) (fun j W=>j<=k/\Ext w W/\∀i y,i<j->l[i]?=some y->y.name≠x.name) (fun j=>k-j) 0 ⟨rfl,rfl,rfl,rfl,rfl,rfl,rfl,rfl,trivial⟩ ⟨by simp,d,fun i y F=>by omega⟩ ?_;clear Q D d;rintro j w2 f2⟨C,m,a0⟩;refine go ?_;by_cases a2:j<k
  ·obtain⟨y,f⟩:∃y,l[j]?=some y:=⟨_,AU U⟩;refine go ?_;generalize B:decide (y.name=x.name)=cc;repeat' first|refine AB ?_|refine Fx ?_|refine Gn ?_
   refine CE (α:=Unit) (fun _=>[(0,.slice (sn b o) l.length c),(3,.bool true),(4,iV (BR (l.take k))),(5,iV (k:Int)),(16,iV (l.length:Int)),(17,iV (k:Int)),(43,iV (k:Int)),(44,iV (j:Int)),(57,.bool cc)]) (fun _ W=>Ext w W) ?_ ?_
   ·refine Ab (rd 0 11 .done) AX rD (fun X G ed=>⟨Ext X,?_,?_⟩)
    ·exact sY
    have R:∀W,Ext X W->W.cell? ⟨b,o+j*3+0,none⟩=some (AA y.name):=fun W e=>by
     obtain⟨b',o',g,q,_⟩:=E W ((m.Q G).Q e) j y f;cases g;exact q
    have g2:∀W,Ext X W->W.cell? ⟨b,o+k*3+0,none⟩=some (AA x.name):=fun W e=>by
     obtain⟨b',o',g,q,_⟩:=E W ((m.Q G).Q e) k x V;cases g;exact q
    refine D_R rfl rfl (fun W I=>BY rfl Z3) (D_R rfl rfl (fun W I=>AS rfl Z3) ?_);refine D_R rfl rfl (fun W I=>by refine DZ (k:=j) rfl rfl rfl U ?_;exact AB ⟨rfl,rfl,rfl⟩) ?_;refine D_R rfl rfl (fun W I=>AV rfl Z3) (D_R rfl rfl (fun W I=>AQ rfl (R W I) Z3) (D_R rfl rfl (fun W I=>BY rfl Z3) (D_R rfl rfl (fun W I=>AS rfl Z3) ?_)));refine D_R rfl rfl (fun W I=>by refine DZ (k:=k) rfl rfl rfl U ?_;exact AB ⟨rfl,rfl,rfl⟩) ?_;refine go ?_;((refine SR rfl rfl rfl rfl (fun T=>?_) (fun T=>?_))<;>refine Cy ?_)
    ·have e:cc=true:=by rw[<-B];exact BE rG
     subst e;refine go ?_;exact Af () ⟨rfl,rfl,rfl,rfl,rfl,rfl,rfl,rfl,rfl,trivial⟩ (m.Q G)
    ·have e:cc=false:=by rw[<-B];exact BC rG
     subst e;refine go ?_;exact Af () ⟨rfl,rfl,rfl,rfl,rfl,rfl,rfl,rfl,rfl,trivial⟩ (m.Q G)
   rintro _ w3 f3 k3;cases cc with
   |true=>
    have S:=P (by
     rw[<-EK,n];exact fun q=>q.2.2.2 j y a2 f (FO B))
    refine gR ?_;exact⟨by rw[S];rfl,k3⟩
   |false=>
    refine go ?_;refine⟨j+1,⟨rfl,⟨rfl,rfl,rfl,rfl,rfl,rfl,rfl,?_,trivial⟩,⟨a2,k3,fun i z F p=>?_⟩⟩,by omega⟩
    ·show iV ((j:Int)+1)=_;rw[BB];rfl
    ·by_cases K:i=j
     ·subst K;rw[f]at p;cases p;exact of_decide_eq_false B
     ·exact a0 i z U p
  ·obtain rfl:j=k:=by omega
   have a8:okI l j=true:=n.2 ⟨hnm,Z,A,a0⟩;obtain⟨_,_,g,Q,D⟩:=E w2 m j x V;cases g;refine go ?_
   have b2:BR (l.take j)*x.size<=16384:=by
    have:=H2 a4.2 A U U;omega
   have b3:0<=BR (l.take j)*x.size:=ME U U;refine go ?_;refine⟨j+1,⟨rfl,⟨rfl,rfl,?_,rfl,?_,trivial⟩,⟨M,m,fun i F=>?_⟩⟩,by omega⟩
   ·exact congrArg (Value.int .i64) a9.symm
   ·show iV ((j:Int)+1)=_;rw[BB];rfl
   ·by_cases K:i=j
    ·subst K;exact a8
    ·exact N i U
 ·obtain rfl:k=l.length:=by omega
  rw[Co]
  have a5:(List.range l.length).all (okI l)=true:=by
   rw[Bu];exact fun i F=>N i (HZ.1 F)
  have s:Bo l=decide (BR l<=64):=by
   unfold Bo;rw[a5,BE a6,BE a7];simp
  rw[s];refine go ?_;by_cases hp:BR l<=64
  ·refine gR ?_;exact⟨by rw[BE hp];rfl,d⟩
  ·refine gR ?_;exact⟨by rw[BC hp];rfl,d⟩
structure S0(yv:Value)(X:List Nat)(B:Nat)(l:List Sgn)(J:Nat->World->Prop)(D:World->Prop):Prop where
 fn:∃y,yv=.func (.yield y) #[] #[]
 E:∀{k:Nat}{W W':World}{Y:List Nat},J k W->Keep Y W W'->(∀y∈Y,B<=y)->J k W'
 step:∀{k:Nat}{W:World}{x:Sgn},J k W->l[k]?=some x->YldP Zp yv [iV (k:Int),iV (BR (l.take k))] W (fun v W'=>Keep X W W'/\((v=.bool true/\J (k+1) W')\/(v=.bool false/\D W'))) (fun _ _=>False)
def Qd{l:List Sgn}(s:Bo l=true){k:Nat}{x:Sgn}(V:l[k]?=some x):1<=BR (l.take k)/\BR (l.take k)<=4096/\2<=x.size/\x.size<=4/\0<=BR (l.take k)*x.size/\BR (l.take k)*x.size<=16384:=by
 obtain⟨Z,p,h,_⟩:=If s;have P:=(Ah.1 V).1;have C:=OK h (k:=k) U p;have a:=(HP V).1 (h k P);have W:=H2 C.2 a.2.2.1 U U;exact⟨C.1,C.2,a.2.1,a.2.2.1,ME U U,by omega⟩
def SlAt.E{α:Type}{R:Rp α}{ok:Nat->Prop}{X:List Nat}{w w':World}{v:Value}{l:List α}(h:SlAt R ok w v l)(k:Keep X w w')(T:∀b,ok b->b∉X):SlAt R ok w' v l:=by
 obtain⟨a,c,L,e,Z,W⟩:=h;exact⟨a,c,L,e,Z.E k T,W.E k T⟩
def SlAt.lt{α:Type}{R:Rp α}{ok:Nat->Prop}{w:World}{v:Value}{l:List α}(d:0<R.size)(h:SlAt R ok w v l):SlAt R (fun b=>ok b/\b<w.heap.size) w v l:=by
 obtain⟨a,c,L,e,Z,W⟩:=h;exact⟨a,c,L,e,PJ d Z W,W.lt⟩
def SlAt.sig{ok:Nat->Prop}{w:World}{a:Option Addr}{n c:Nat}{l:List Sgn}{k:Nat}{x:Sgn}(h:SlAt sgnR ok w (.slice a n c) l)(V:l[k]?=some x):n=l.length/\∃b o,a=some ⟨b,o,none⟩/\ok b/\Cells w b (o+k*3) (Fh x):=by
 obtain⟨Z,d,L,e,i,j⟩:=h;cases e;have C:=(Ah.1 V).1;obtain⟨s,r⟩:∃s,L[k]?=some s:=⟨_,AU (by rw[j.1];exact C)⟩;obtain rfl:s=Fh x:=j.2 k s x r V;obtain⟨b,o,e,S,T⟩:=i.recs j (sz:=3) rfl r C;exact⟨rfl,b,o,e,S,T⟩
def SlAt.len{α:Type}{R:Rp α}{ok:Nat->Prop}{w:World}{v:Value}{l:List α}(h:SlAt R ok w v l):∃a c,v=.slice a l.length c/\l.length<=9223372036854775807:=by
 obtain⟨a,c,L,rfl,i,_⟩:=h;refine⟨a,c,rfl,?_⟩;obtain⟨_,_,s,X,P,_⟩:=i;cases s;omega
def UJ(w:World)(v:Value)(q:v.oneCell'=true):Fn Zp 235 [v] w fun u w'=>u=.func (.func 310) #[] #[pt w.heap.size]/\New w w' 22 [v]:=by
 refine AM func235 rfl ntmps235 (go ?_);refine Ac (L:=[v]) (by cases v<;>simp_all [Value.cells,Value.oneCell',ev,Hu]) (fun Q D=>?_);refine gR ?_;exact⟨rfl,D⟩
def TQ{t:Value}{X:List Nat}{f:Nat->World->Prop}{D:World->Prop}(w:World)(p:Nat)(v:Value)(l:List Sgn)(H:S0 t X w.heap.size l f D)(i:Blk w p 22 [v])(s:SlAt sgnR (fun b=>b∉X) w v l)(C:Bo l=true)(j:f 0 w)(q:p∉X):
  Fn Zp 310 [t,pt p] w fun _ w'=>Keep X w w'/\(f l.length w'\/D w'):=by
 obtain⟨y,rfl⟩:=H.fn;obtain⟨a,c,rfl,A⟩:=s.len;refine AM func310 rfl ntmps310 (go ?_);have e:=i.cell (o:=0) rfl;refine go ?_;refine Aj (α:=Nat) (fun k=>[(0,.func (.yield y) #[] #[]),(1,pt p),(3,iV (BR (l.take k))),(6,iV (l.length:Int)),(7,iV (k:Int))]) (fun k W=>k<=l.length/\Keep X w W/\f k W) (fun k=>l.length-k) 0 ⟨rfl,rfl,rfl,rfl,rfl,trivial⟩ ⟨by simp,Keep.refl _ _,j⟩ ?_;rintro k W G⟨P,K,u⟩;refine go ?_;by_cases z:k<l.length
 ·obtain⟨x,V⟩:∃x,l[k]?=some x:=⟨_,AU z⟩;obtain⟨L,E,M,g,Q,R⟩:=Qd C V;refine go ?_;refine Mh rfl rfl (H.step u V) ?_;rintro _ W1⟨d,r⟩;have N:=K.Q d (fun _ h _=>h);rcases r with⟨rfl,m⟩|⟨rfl,n⟩
  case inr=>
   refine go ?_;exact Oc rfl ⟨N,.inr n⟩
  obtain⟨_,b,o,rfl,_,B⟩:=(s.E N (fun _ h=>h)).sig V;have I:=N.cell e q;have F:W1.cell? ⟨b,o+k*3+2,none⟩=some (iV x.size):=B 2 _ rfl;refine go ?_;refine⟨k+1,⟨rfl,⟨rfl,rfl,?_,rfl,?_,trivial⟩,⟨z,N,m⟩⟩,by omega⟩
  ·exact congrArg (Value.int .i64) (Nz V).symm
  ·show iV ((k:Int)+1)=_;rw[BB];rfl
 ·obtain rfl:k=l.length:=by omega
  refine go ?_;exact Bt rfl ⟨K,.inl u⟩
end
def P0:=@List.take_append_of_le_length
def Cg:=@List.append_assoc
section
variable {mk:Prop}[MK mk]
def WB{w:World}{B e n:Nat}{v:Value}{xs zs cs:LV}(h:w.ownsRow B e 5 v (n+1) (xs++zs))(V:xs.length=n*5)(T:cs.length=5):
  ∃g cap L,v=.slice (sm g) (n+1) cap/\B<=g/\Blk w g e L/\n*5+5<=L.length/\∀w',Put w w' g e (splice L (n*5) cs)->w'.ownsRow B e 5 v (n+1) (xs++cs):=by
 obtain⟨N,s⟩:=h;rcases s with⟨_,b⟩|⟨g,cap,C,rfl,x,y,Z,W,R,A⟩
 ·omega
 ·have d:n*5+5<=C.toList.length:=by
   have:(n+1)*5<=cap*5:=IY 5 Z;simp;omega
  refine⟨g,cap,C.toList,rfl,x,by simpa[Blk]using y,d,fun w' a=>⟨by simp[V,T];omega,.inr ⟨g,cap,(splice C.toList (n*5) cs).toArray,rfl,x,a.D,Z,W,?_,?_⟩⟩⟩
  ·simp[splice,T];simp at d;omega
  ·have P:C.toList.take (n*5)=xs:=by
    have:=congrArg (List.take (n*5)) A;rw[MF,Ga U,P0 U,<-V,Co]at this;rw[<-V];exact this
   simp only[splice,P];rw[<-Cg,P0 (by simp[V,T];omega),GE (by simp[V,T];omega)]
end
def Kx:=@Nat.mod_lt
def Lj:=@Array.length_toList
section
variable {mk:Prop}[MK mk]
section
attribute [local semireducible] WC AF CO B0 Cx B8 Cc CB
variable {P:Program}{all:Array Oper}{Z:Fr->DS->List PanicEntry->World->Prop}{K:Fr->DS->World->Prop}{rest:List Oper}{f:Fr}{ds:DS}{w:World}
 {d:Nat}{ty xt yt:TypeId}{pos:String}{af:Array Edge}{x y:Operand}
def cH{T e size i:Nat}{z:Value}{F t:Operand}{a:Option Addr}{n c:Nat}{k S:IntKind}{h m:Nat}[hT:SlT P T e size i z](j:ev f x=.slice a n c)(H:ev f F=.int k (h:Int))(r:ev f t=.int S (m:Int))(b:h<=m)(W:m<=c)
  (g:AF P all Z K rest (upd f d (.slice a h m)) ds w):AF P all Z K (⟨some d,.slice T x none (some F) (some t),ty,pos,af,none⟩::rest) f ds w:=by
 obtain⟨q,V,_,E,_⟩:=hT.out;refine At rfl ?_ g;simp only[execOp,j,H,r,GG,Ic,Instr.sliceAt,BX,BV hT.und,Bc,Instr.slice,Instr.sliceBounds,Instr.sliceBound,asIntOf,Cq,sizeOf,typeInfo,program]
 have e:(if m=0 then a else a.map fun(x:Addr)=>x.add 0)=a:=by
  split
  ·rfl
  ·cases a with
   |none=>rfl
   |some a=>simp[Addr.add]
 simp[Sem.run,V,E,show(m:Int)<=c by omega,b,e]
def Tn{T e size i:Nat}{z:Value}{a:Operand}{b o n c l:Nat}{k:IntKind}[hT:SlT P T e size i z](V:ev f x=.slice (sn b o) n c)(N:ev f a=.int k (l:Int))(g:l<=n)(W:l<c)
  (h:AF P all Z K rest (upd f d (.slice (sn b (o+l*size)) (n-l) (c-l))) ds w):AF P all Z K (⟨some d,.slice T x (some a) none none,ty,pos,af,none⟩::rest) f ds w:=by
 have e:adv c (l:Int).toNat size (sn b o)=some ⟨b,o+l*size,none⟩:=by
  unfold adv;rw[Int.toNat_natCast,AG U];simp[FQ]
 refine UT V N U U ?_;rw[e];exact h
def lX{T e size q:Nat}{z:Value}{b o n c:Nat}{B:TypeId}{L L0:LV}[hT:SlT P T e size q z][hz:CG P e L0](V:ev f x=.slice (sn b o) n c)(H:0<n)(r:oneC L0)(S:Blk w b B L)(N:o+n*L0.length<=L.length)
  (h:∀w' zs,zs.length=n*L0.length->Put w w' b B (splice L o zs)->AF P all Z K rest f ds w'):AF P all Z K (⟨none,.call ⟨.builtin .clear,#[x],#[T]⟩,ty,pos,af,none⟩::rest) f ds w:=by
 obtain⟨a,E,X⟩:=Rc (P:=P) (T:=e) w;have u:(Builtin.zeroCells a.cells n).size=n*L0.length:=by simp[Builtin.zeroCells,X]
 have D:∀v∈(Builtin.zeroCells a.cells n).toList,v.oneCell'=true:=by
  intro v s;simp only[Builtin.zeroCells,X,Array.toList_map,By]at s;obtain⟨i,F,rfl⟩:=s;have t:i<n*L0.length:=by simpa using F
  have C:0<L0.length:=by
   rcases Nat.eq_zero_or_pos L0.length with h|h
   ·rw[h]at t;omega
   ·exact h
  have A:i%L0.length<L0.length:=Kx _ C;rw[IZ,getElem!_pos _ _ (by simpa using A)];exact r _ O
 have j:w.heap[b]?=some (.cells L.toArray B (0,0)):=S;have p:=Wx P b o B (Builtin.zeroCells a.cells n).toList 0 L.toArray w j (by simp only[Lj,u,IZ];omega) D;simp only[HG]at p;refine At (v:=.tuple #[]) (w':=w.setRow b (splice L o (Builtin.zeroCells a.cells n).toList).toArray) rfl ?_ (h _ _ (by simp[u]) ⟨⟨rfl,rfl,rfl,by simp[World.setRow],fun k _ l=>JF w b k _ (by simpa using l),fun _=>JJ (g:=b) rz (fun k l=>JF w b k _ l) (Unm.cells (JH w b _ _ B _ j)),AO _⟩,by simp[World.setRow],JH w b _ _ B _ j⟩);have M:∃m,n=m+1:=⟨n-1,by omega⟩;obtain⟨m,rfl⟩:=M;simp only[execOp,resolve,invoke,builtin,BX,Cq,Bc];simp[V,Builtin.clear_,BV hT.und,E];rw[p];simp[splice]
def K6{k:IntKind}{a b:Int}(V:ev f x=.int k a)(I:ev f y=.int k b)(h:AF P all Z K rest (upd f d (.bool (decide (a=b)))) ds w):AF P all Z K (⟨some d,.binOp .eql xt x y yt,ty,pos,af,none⟩::rest) f ds w:=
 Cb V I (fun e=>by rw[BE e]at h;exact h) (fun e=>by rw[BC e]at h;exact h)
def XC{T i off R:Nat}{L:LV}{v:Value}[hT:A0 P T i off R][he:CP P R](V:ev f x=.agg L.toArray)(s:L[off]?=some v)(h:AF P all Z K rest (upd f d v) ds w):
  AF P all Z K (⟨some d,.field T x i,ty,pos,af,none⟩::rest) f ds w:=by
 refine At rfl ?_ h;obtain⟨q,Q,a,W,b,A,_⟩:=hT.out;obtain⟨N,X,c⟩:=he.out
 have G:(isAgg R).run P w=.ok false w:=by
  simp only[isAgg,BX,BV X,Bc];cases N<;>simp_all [IT]
 have C:(part R L.toArray off).run P w=.ok v w:=by
  simp only[part,BX,G,Bc];simp[s]
 simp only[execOp,V,Instr.field,BX,BV a,Bc,W,b,A,asAgg,Cq,C]
def mV{n:Int}(a:0<=n)(W:n<=18446744073709551615):inR .u64 n:=by
 unfold inR;constructor
 ·show IntKind.min .u64<=n;have:IntKind.min .u64=0:=rfl;omega
 ·show n<=IntKind.max .u64;have:IntKind.max .u64=18446744073709551615:=by decide
  omega
def oo{S:IntKind}{m n:Nat}(V:ev f x=.int .u64 (m:Int))(I:ev f y=.int S (n:Int))(H:n<=60)(h:AF P all Z K rest (upd f d (.int .u64 ((m/2^n:Nat):Int))) ds w):
  AF P all Z K (⟨some d,.binOp .shr xt x y yt,ty,pos,af,none⟩::rest) f ds w:=by
 have e:(m:Int).fdiv (2^n)=((m/2^n:Nat):Int):=by
  rw[Int.fdiv_eq_ediv_of_nonneg _ (by exact Int.pow_nonneg U)];simp
 exact At rfl (by simp only[execOp,V,I,eqGuard,binOp,Op.shift,AG (show¬(n:Int)<0 by omega),show min (n:Int).toNat IntKind.u64.bits=n from by rw[Int.toNat_natCast];exact Ga (by show n<=64;omega),e];simp) h
end
end
def I4:=@Classical.byContradiction
section
variable {mk:Prop}[MK mk]
abbrev Wd:=Nat->LU->Int
def Jb(v:Int)(p:Nat->Prop):Nat->Prop
 |0=>v=1
 |t+1=>p t
def Cs(v:Int)(p q:Nat->Prop):Nat->Prop
 |0=>q 0\/p 0/\v=1
 |t+1=>q (t+1)\/p (t+1)/\Cs v p q t
def EP(v:Int)(p q:Nat->Prop):Nat->Prop
 |0=>q 0/\(p 0\/v=1)
 |t+1=>q (t+1)/\(p (t+1)\/EP v p q t)
def EN(p q:Nat->Prop)(t:Nat):Prop:=∃k,t<=k/\q k/\∀j,t<=j->j<k->p j
def FK(p q:Nat->Prop)(t:Nat):Prop:=∀k,t<=k->q k\/∃j,t<=j/\j<k/\p j
def opP(s:Wd)(op:Int)(l:LU)(v b:Int)(A:List (Nat->Prop))(p q:Nat->Prop):Nat->Prop:=
 if op=1 then fun _=>True
 else if op=3 then fun t=>s t l=v
 else if op=4 then fun t=>¬p t
 else if op=5 then fun t=>∀a∈A,a t
 else if op=6 then fun t=>∃a∈A,a t
 else if op=7 then fun t=>p t->q t
 else if op=8 then fun t=>p (t+1)
 else if op=9 then EN p q
 else if op=10 then FK p q
 else if op=11 then EN (fun _=>True) p
 else if op=12 then FK (fun _=>False) p
 else if op=13 then fun t=>∃k:Nat,(k:Int)<=b/\p (t+k)
 else if op=14 then fun t=>∀k:Nat,(k:Int)<=b->p (t+k)
 else if op=15 then Jb v p
 else if op=16 then Cs v p q
 else if op=17 then EP v p q
 else if op=18 then Cs 0 (fun _=>True) p
 else if op=19 then EP 1 (fun _=>False) p
 else fun _=>False
def opS(s:Wd)(op:Int)(l:LU)(v b:Int)(A:List (Nat->Prop)):Nat->Prop:=opP s op l v b A (A.getD 0 fun _=>False) (A.getD 1 fun _=>False)
mutual
def sem(s:Wd):Fml->Nat->Prop
 | .mk op nm v b args=>opS s op nm v b (Hy s args)
def Hy(s:Wd):LF->List (Nat->Prop)
 | []=>[]
 |a::l=>sem s a::Hy s l
end
def Fw(s:Wd):∀l:LF,Hy s l=l.map (sem s)
 | []=>rfl
 |a::l=>by rw[Hy,Fw s l];rfl
def Ye(s:Wd)(f:Fml):sem s f=opS s f.op f.name f.val f.bound (f.args.map (sem s)):=by
 obtain⟨op,a,v,b,l⟩:=f;rw[sem,Fw];rfl
def Per{α:Type}(m n:Nat)(p:Nat->α):Prop:=∀t,m<=t->p (t+n)=p t
def Per.mono{α:Type}{m a n:Nat}{p:Nat->α}(h:Per m n p)(r:m<=a):Per a n p:=fun t P=>h t U
def Per.mul{α:Type}{m n:Nat}{p:Nat->α}(h:Per m n p):∀k t,m<=t->p (t+k*n)=p t
 |0,t,_=>by simp
 |k+1,t,ht=>by rw[He,<-GH,h _ U,h.mul k t ht]
def MC(p q:Nat->Prop)(t:Nat):EN p q t↔q t\/p t/\EN p q (t+1):=by
 constructor
 ·rintro⟨k,Z,W,R⟩;by_cases e:k=t
  ·subst e;exact .inl W
  ·exact .inr ⟨R t (AO _) U,k,by omega,W,fun j a b=>R j U b⟩
 ·rintro(h|⟨h,k,Z,W,R⟩)
  ·exact⟨t,AO _,h,fun j a b=>by omega⟩
  ·refine⟨k,by omega,W,fun j a b=>?_⟩;by_cases e:j=t
   ·subst e;exact h
   ·exact R j U b
def JO(p q:Nat->Prop)(t:Nat):FK p q t↔¬EN (fun i=>¬p i) (fun i=>¬q i) t:=by
 unfold FK EN;constructor
 ·rintro h⟨k,Z,W,R⟩;rcases h k Z with h|⟨j,a,b,c⟩
  ·exact W h
  ·exact R j a b c
 ·intro h k P;refine I4 fun H=>h ⟨k,P,fun V=>H (.inl V),fun j a b C=>H (.inr ⟨j,a,b,C⟩)⟩
def WM(p q:Nat->Prop)(t:Nat):FK p q t↔q t/\(p t\/FK p q (t+1)):=by
 rw[JO,MC,JO];constructor
 ·intro h;refine⟨I4 fun V=>h (.inl V),I4 fun H=>h (.inr ⟨fun C=>H (.inl C),I4 fun o=>H (.inr o)⟩)⟩
 ·rintro⟨V,h⟩ (Z|⟨Z,W⟩)
  ·exact Z V
  ·rcases h with h|h
   ·exact Z h
   ·exact h W
def OQ{p q:Nat->Prop}{m n:Nat}(C:Per m n p)(V:Per m n q):Per m n (EN p q):=by
 intro t P;refine propext ⟨?_,?_⟩
 ·rintro⟨k,Z,W,R⟩;refine⟨k-n,by omega,?_,fun j a b=>?_⟩
  ·have:=V (k-n) U;rw[<-this,show k-n+n=k by omega];exact W
  ·have:=C j U;rw[<-this];exact R _ U U
 ·rintro⟨k,Z,W,R⟩;refine⟨k+n,by omega,?_,fun j a b=>?_⟩
  ·rw[V k U];exact W
  ·have:=C (j-n) U;rw[show j-n+n=j by omega]at this;rw[this];exact R _ U U
def J9{p:Nat->Prop}{m n:Nat}(C:Per m n p):Per m n (fun i=>¬p i):=fun t P=>by show(¬p (t+n))=_;rw[C t P]
def Xn{p q:Nat->Prop}{m n:Nat}(C:Per m n p)(V:Per m n q):Per m n (FK p q):=by
 intro t P;have:=OQ (J9 C) (J9 V) t P;refine propext ?_;rw[JO,JO,this]
def lN{p:Nat->Prop}{m n:Nat}(v:Int)(H:1<=n)(C:Per m n p):Per (m+n) n (Jb v p):=by
 intro t P;obtain⟨u,rfl⟩:∃u,t=u+1:=⟨t-1,by omega⟩;rw[show u+1+n=(u+n)+1 by omega];show p (u+n)=p u;exact C u U
def gn(v:Int)(p q:Nat->Prop)(t:Nat):∀n,∃a b:Prop,Cs v p q (t+n)↔a\/b/\Cs v p q t
 |0=>⟨False,True,by simp⟩
 |n+1=>by
  obtain⟨a,b,h⟩:=gn v p q t n;refine⟨q (t+n+1)\/p (t+n+1)/\a,p (t+n+1)/\b,?_⟩;show(q (t+n+1)\/p (t+n+1)/\Cs v p q (t+n))↔_;rw[h];constructor
  ·rintro(h|⟨h,W|⟨W,R⟩⟩)
   ·exact .inl (.inl h)
   ·exact .inl (.inr ⟨h,W⟩)
   ·exact .inr ⟨⟨h,W⟩,R⟩
  ·rintro((h|⟨h,W⟩)|⟨⟨h,W⟩,R⟩)
   ·exact .inl h
   ·exact .inr ⟨h,.inl W⟩
   ·exact .inr ⟨h,.inr ⟨W,R⟩⟩
def Qi(v:Int){p q:Nat->Prop}{m n:Nat}(C:Per m n p)(V:Per m n q){t u:Nat}(P:m<=t)(o:∃k,u=t+k*n):
  ∀d,∃a b:Prop,(Cs v p q (t+d)↔a\/b/\Cs v p q t)/\(Cs v p q (u+d)↔a\/b/\Cs v p q u)
 |0=>⟨False,True,by simp,by simp⟩
 |d+1=>by
  obtain⟨a,b,h,Q⟩:=Qi v C V P o d;obtain⟨k,rfl⟩:=o
  have r:q (t+k*n+d+1)=q (t+d+1):=by
   have:=V.mul k (t+d+1) U;rw[<-this];congr 1;omega
  have c:p (t+k*n+d+1)=p (t+d+1):=by
   have:=C.mul k (t+d+1) U;rw[<-this];congr 1;omega
  refine⟨q (t+d+1)\/p (t+d+1)/\a,p (t+d+1)/\b,?_,?_⟩
  ·show(q (t+d+1)\/p (t+d+1)/\Cs v p q (t+d))↔_;rw[h];constructor
   ·rintro(h|⟨h,W|⟨W,R⟩⟩)
    ·exact .inl (.inl h)
    ·exact .inl (.inr ⟨h,W⟩)
    ·exact .inr ⟨⟨h,W⟩,R⟩
   ·rintro((h|⟨h,W⟩)|⟨⟨h,W⟩,R⟩)
    ·exact .inl h
    ·exact .inr ⟨h,.inl W⟩
    ·exact .inr ⟨h,.inr ⟨W,R⟩⟩
  ·show(q (t+k*n+d+1)\/p (t+k*n+d+1)/\Cs v p q (t+k*n+d))↔_;rw[Q,r,c];constructor
   ·rintro(h|⟨h,W|⟨W,R⟩⟩)
    ·exact .inl (.inl h)
    ·exact .inl (.inr ⟨h,W⟩)
    ·exact .inr ⟨⟨h,W⟩,R⟩
   ·rintro((h|⟨h,W⟩)|⟨⟨h,W⟩,R⟩)
    ·exact .inl h
    ·exact .inr ⟨h,.inl W⟩
    ·exact .inr ⟨h,.inr ⟨W,R⟩⟩
def Q9{p q:Nat->Prop}{m n:Nat}(v:Int)(C:Per m n p)(V:Per m n q):Per (m+n) n (Cs v p q):=by
 have I:Cs v p q (m+n+n)↔Cs v p q (m+n):=by
  obtain⟨a,b,Z,W⟩:=Qi v C V (t:=m) (u:=m+n) (AO _) ⟨1,by omega⟩ n;rw[W,Z];constructor
  ·rintro(h|⟨h,R|⟨R,A⟩⟩)
   ·exact .inl h
   ·exact .inl R
   ·exact .inr ⟨R,A⟩
  ·rintro(h|⟨h,R⟩)
   ·exact .inl h
   ·exact .inr ⟨h,.inr ⟨h,R⟩⟩
 intro t P;obtain⟨d,rfl⟩:∃d,t=m+n+d:=⟨t-(m+n),by omega⟩;obtain⟨a,b,Z,W⟩:=Qi v C V (t:=m+n) (u:=m+n+n) U ⟨1,by omega⟩ d;rw[show m+n+d+n=m+n+n+d by omega];exact propext (by rw[W,Z,I])
def Rj(v:Int)(p q:Nat->Prop):∀t,EP v p q t↔¬Cs (if v=1 then 0 else 1) (fun i=>¬p i) (fun i=>¬q i) t
 |0=>by
  show(q 0/\(p 0\/v=1))↔¬(¬q 0\/¬p 0/\(if v=1 then(0:Int)else 1)=1);have e:((if v=1 then(0:Int)else 1)=1)↔¬v=1:=by split<;>simp_all
  rw[e];constructor
  ·rintro⟨h,W⟩ (R|⟨R,A⟩)
   ·exact R h
   ·exact W.elim R A
  ·intro h;exact⟨I4 fun V=>h (.inl V),I4 fun H=>h (.inr ⟨fun C=>H (.inl C),fun s=>H (.inr s)⟩)⟩
 |t+1=>by
  have n:=Rj v p q t;show(q (t+1)/\(p (t+1)\/EP v p q t))↔¬(¬q (t+1)\/¬p (t+1)/\Cs _ _ _ t);rw[n];constructor
  ·rintro⟨h,W⟩ (R|⟨R,A⟩)
   ·exact R h
   ·rcases W with W|W
    ·exact R W
    ·exact W A
  ·intro h;exact⟨I4 fun V=>h (.inl V),I4 fun H=>h (.inr ⟨fun C=>H (.inl C),I4 fun E=>H (.inr E)⟩)⟩
def Wo{p q:Nat->Prop}{m n:Nat}(v:Int)(C:Per m n p)(V:Per m n q):Per (m+n) n (EP v p q):=by
 intro t P;have:=Q9 (if v=1 then 0 else 1) (J9 C) (J9 V) t P;refine propext ?_;rw[Rj,Rj,this]
mutual
def Cm:Fml->Nat
 | .mk op _ _ _ args=>E6 args+if op=15\/op=16\/op=17\/op=18\/op=19 then 1 else 0
def E6:LF->Nat
 | []=>0
 |a::l=>max (Cm a) (E6 l)
end
def OF:∀{l:LF}{a:Fml},a∈l->Cm a<=E6 l
 | [],_,h=>by cases h
 |c::l,a,h=>by
  rw[E6];rcases BI.1 h with rfl|h
  ·omega
  ·have:=OF h;omega
def Vp{A:List (Nat->Prop)}{m n:Nat}(h:∀a∈A,Per m n a)(i:Nat):Per m n (A.getD i fun _=>False):=by
 by_cases F:i<A.length
 ·rw[Ce,AU F];exact h _ (E9 F)
 ·rw[Ce,EF U];exact fun t _=>rfl
def Ex{c:Prop}[Decidable c]{m n:Nat}{p q:Nat->Prop}(Z:c->Per m n p)(W:¬c->Per m n q):Per m n (if c then p else q):=by
 by_cases h:c
 ·rw[AJ h];exact Z h
 ·rw[AG h];exact W h
def Xq{s:Wd}{m n:Nat}(o:1<=n)(E:Per m n s):∀f:Fml,Per (m+Cm f*n) n (sem s f)
 | .mk op nm v b args=>by
  have g:∀a∈Hy s args,Per (m+E6 args*n) n a:=by
   intro a G;rw[Fw]at G;obtain⟨f,K,rfl⟩:=By.1 G;exact(Xq o E f).mono (by have:=IY n (OF K);omega)
  rw[sem];generalize F:E6 args=k at g;have l:=Vp g 0;have H:=Vp g 1
  have d:m+k*n<=m+Cm (.mk op nm v b args)*n:=by
   rw[Cm,F];have:=IY n (Nat.le_add_right k (if op=15\/op=16\/op=17\/op=18\/op=19 then 1 else 0));omega
  have j:∀c:Prop,Per (m+k*n) n fun _=>c:=fun c t _=>rfl
  have i:(op=15\/op=16\/op=17\/op=18\/op=19)->m+Cm (.mk op nm v b args)*n=m+k*n+n:=by
   intro h;rw[Cm,F,AJ h,He];omega
  unfold opS opP;generalize T:(Hy s args).getD 0 (fun _=>False)=p at l;generalize u:(Hy s args).getD 1 (fun _=>False)=q at H;refine Ex (fun e=>?_) (fun _=>?_)
  ·exact fun _ _=>rfl
  refine Ex (fun e=>?_) (fun _=>?_)
  ·exact fun t P=>by show(s (t+n) nm=v)=_;rw[E t U]
  refine Ex (fun e=>?_) (fun _=>?_)
  ·exact(J9 l).mono d
  refine Ex (fun e=>?_) (fun _=>?_)
  ·refine Per.mono (fun t P=>?_) d;refine propext ⟨fun h a G=>?_,fun h a G=>?_⟩
   ·rw[<-g a G t P];exact h a G
   ·rw[g a G t P];exact h a G
  refine Ex (fun e=>?_) (fun _=>?_)
  ·refine Per.mono (fun t P=>?_) d;refine propext ⟨fun⟨a,G,h⟩=>⟨a,G,?_⟩,fun⟨a,G,h⟩=>⟨a,G,?_⟩⟩
   ·rw[<-g a G t P];exact h
   ·rw[g a G t P];exact h
  refine Ex (fun e=>?_) (fun _=>?_)
  ·exact Per.mono (fun t P=>by show(_->_)=(_->_);rw[l t P,H t P]) d
  refine Ex (fun e=>?_) (fun _=>?_)
  ·refine Per.mono (fun t P=>?_) d;show p (t+n+1)=p (t+1);rw[show t+n+1=t+1+n by omega];exact l (t+1) U
  refine Ex (fun e=>?_) (fun _=>?_)
  ·exact(OQ l H).mono d
  refine Ex (fun e=>?_) (fun _=>?_)
  ·exact(Xn l H).mono d
  refine Ex (fun e=>?_) (fun _=>?_)
  ·exact(OQ (j True) l).mono d
  refine Ex (fun e=>?_) (fun _=>?_)
  ·exact(Xn (j False) l).mono d
  refine Ex (fun e=>?_) (fun _=>?_)
  ·refine Per.mono (fun t P=>?_) d;refine propext ⟨fun⟨k,Z,h2⟩=>⟨k,Z,?_⟩,fun⟨k,Z,h2⟩=>⟨k,Z,?_⟩⟩
   ·rw[<-l (t+k) U,show t+k+n=t+n+k by omega];exact h2
   ·rw[show t+n+k=t+k+n by omega,l (t+k) U];exact h2
  refine Ex (fun e=>?_) (fun _=>?_)
  ·refine Per.mono (fun t P=>?_) d;refine propext ⟨fun h k Z=>?_,fun h k Z=>?_⟩
   ·rw[<-l (t+k) U,show t+k+n=t+n+k by omega];exact h k Z
   ·rw[show t+n+k=t+k+n by omega,l (t+k) U];exact h k Z
  refine Ex (fun e=>?_) (fun _=>?_)
  ·rw[i (by simp[e])];exact lN v o l
  refine Ex (fun e=>?_) (fun _=>?_)
  ·rw[i (by simp[e])];exact Q9 v l H
  refine Ex (fun e=>?_) (fun _=>?_)
  ·rw[i (by simp[e])];exact Wo v l H
  refine Ex (fun e=>?_) (fun _=>?_)
  ·rw[i (by simp[e])];exact Q9 0 (j True) l
  refine Ex (fun e=>?_) (fun _=>?_)
  ·rw[i (by simp[e])];exact Wo 1 (j False) l
  ·exact fun _ _=>rfl
end
def SM:=@Bool.true_or
def Ec:=@decide_eq_false_iff_not
def NX:=@Bool.and_eq_false_iff
def Uh:=@forall_exists_index
def TN:=@forall_apply_eq_imp_iff₂
def Ia:=@List.any_eq_true
def Ho:=@Iff.rfl
section
variable {mk:Prop}[MK mk]
abbrev Vl:=LU->Int
def JZ(s:Wd):Wd:=fun t=>s (t+1)
def FJ(op:Int):Bool:=decide (8<=op)&&decide (op<=14)
def CR(op:Int):Bool:=decide (15<=op)&&decide (op<=19)
def E0(op:Int):Bool:=(decide (1<=op)&&decide (op<=6))||(decide (8<=op)&&decide (op<=10))||(decide (15<=op)&&decide (op<=17))
def Am(op:Int)(n:Nat):Bool:=
 if op=1\/op=2\/op=3 then decide (n=0)
 else if op=5\/op=6 then decide (2<=n)
 else if op=7\/op=9\/op=10\/op=16\/op=17 then decide (n=2)
 else decide (n=1)
def CN(op:Int)(l:LU)(v b:Int)(n:Nat):Bool:=
 decide (1<=op)&&decide (op<=19)&&Am op n&&decide (0<=v)&&decide (v<=if op=3 then 3 else if op=15\/op=16\/op=17 then 1 else 0)&&
 decide (0<=b)&&decide (b<=if op=13\/op=14 then 9 else 0)&&(if op=3 then BP l else l.isEmpty)
mutual
def BQ:Bool->Fml->Bool
 |i,.mk op nm v b args=>E0 op&&CN op nm v b args.length&& !(i&&FJ op)&&(if op=4 then(match args with|a::_=>decide (a.op=3)| []=>false)else true)&&Gp (i||CR op) args
def Gp:Bool->LF->Bool
 |_,[]=>true
 |i,a::l=>BQ i a&&Gp i l
end
mutual
def Cp:Fml->Bool
 | .mk op _ _ _ args=> !(decide (op=8)||decide (op=9)||decide (op=10))&&GU args
def GU:LF->Bool
 | []=>true
 |a::l=>Cp a&&GU l
end
def Ij:∀{l:LF}{i:Bool}{a:Fml},Gp i l=true->a∈l->BQ i a=true
 | [],_,_,_,h=>by cases h
 |c::l,i,a,h,G=>by
  simp only[Gp,AZ]at h;rcases BI.1 G with rfl|G
  ·exact h.1
  ·exact Ij h.2 G
def Q6:∀{l:LF}{a:Fml},GU l=true->a∈l->Cp a=true
 | [],_,_,h=>by cases h
 |c::l,a,h,G=>by
  simp only[GU,AZ]at h;rcases BI.1 G with rfl|G
  ·exact h.1
  ·exact Q6 h.2 G
def Ma:∀{l:LF},(∀a∈l,Cp a=true)->GU l=true
 | [],_=>rfl
 |c::l,h=>by
  simp only[GU,AZ];exact⟨h c O,Ma fun a G=>h a (by simp[G])⟩
def Ik:∀f:Fml,BQ true f=true->Cp f=true
 | .mk op nm v b args,h=>by
  simp only[BQ,AZ,HE,SM,D7]at h;have N:=h.2;have K:=h.1.1.2;simp only[Cp,AZ,D7,H0,Ec];refine⟨?_,Ma fun a G=>Ik a (Ij N G)⟩;simp only[FJ,NX,Ec]at K;omega
def Hd{op:Int}(h:E0 op=true):op=1\/op=2\/op=3\/op=4\/op=5\/op=6\/op=8\/op=9\/op=10\/op=15\/op=16\/op=17:=by
 simp only[E0,Fm,AZ,BD]at h;omega
def Fd(x:Vl)(op:Int)(l:LU)(v:Int)(m:Bool)(A:List Bool):Bool:=
 if op=1 then true
 else if op=3 then decide (x l=v)
 else if op=4 then !(A.getD 0 false)
 else if op=5 then A.all id
 else if op=6 then A.any id
 else if op=15 then m
 else if op=16 then A.getD 1 false||(m&&A.getD 0 false)
 else if op=17 then A.getD 1 false&&(m||A.getD 0 false)
 else false
mutual
def Pv(x:Vl)(says:Fml->Bool):Fml->Bool
 | .mk op nm v b args=>Fd x op nm v (says (.mk op nm v b args)) (Pl x says args)
def Pl(x:Vl)(says:Fml->Bool):LF->List Bool
 | []=>[]
 |a::l=>Pv x says a::Pl x says l
end
def V8(x:Vl)(j:Fml->Bool):∀l,Pl x j l=l.map (Pv x j)
 | []=>rfl
 |a::l=>by rw[Pl,V8 x j l];rfl
def qx(f:Fml):Bool:=decide (f.val=1)
def Bb(x:Vl):Fml->Bool:=Pv x qx
def Xc(x:Vl)(op:Int)(l:LU)(v b:Int)(args:LF):Bb x (.mk op l v b args)=Fd x op l v (decide (v=1)) (args.map (Bb x)):=by
 unfold Bb;rw[Pv,V8];rfl
def GM{l:LF}(h:l.length=2):∃a c,l=[a,c]:=by
 match l,h with
 | [a,c],_=>exact⟨a,c,rfl⟩
def FU{l:LF}(h:l.length=1):∃a,l=[a]:=by
 match l,h with
 | [a],_=>exact⟨a,rfl⟩
def Fp{op v b:Int}{l:LU}{n:Nat}(h:CN op l v b n=true):Am op n=true:=by
 simp only[CN,AZ]at h;exact h.1.1.1.1.1.2
def Ml(s:Wd):∀(f:Fml)(i:Bool),BQ i f=true->Cp f=true->(Bb (s 0) f=true↔sem s f 0)
 | .mk op nm v b args,i,hb,hp=>by
  simp only[BQ,AZ]at hb;simp only[Cp,AZ]at hp;obtain⟨⟨⟨⟨Z,W⟩,R⟩,A⟩,e⟩:=hb;have n:∀a∈args,(Bb (s 0) a=true↔sem s a 0):=fun a G=>Ml s a _ (Ij e G) (Q6 hp.2 G)
  have H:op≠8/\op≠9/\op≠10:=by
   have:=hp.1;simp only[D7,H0,Ec]at this;omega
  have G:=Fp W;rw[Xc,sem,Fw];rcases Hd Z with rfl|rfl|rfl|rfl|rfl|rfl|rfl|rfl|rfl|rfl|rfl|rfl
  ·simp[Fd,opS,opP]
  ·simp[Fd,opS,opP]
  ·simp[Fd,opS,opP]
  ·obtain⟨a,rfl⟩:=FU rO;have:=n a O;simp[Fd,opS,opP,<-this]
  ·show(args.map (Bb (s 0))).all id=true↔∀a∈args.map (sem s),a 0;simp only[Bu,By,Uh,and_imp,TN,id];exact⟨fun h a G=>(n a G).1 (h a G),fun h a G=>(n a G).2 (h a G)⟩
  ·show(args.map (Bb (s 0))).any id=true↔∃a∈args.map (sem s),a 0;simp only[Ia,By,id];constructor
   ·rintro⟨_,⟨a,G,rfl⟩,h⟩;exact⟨_,⟨a,G,rfl⟩,(n a G).1 h⟩
   ·rintro⟨_,⟨a,G,rfl⟩,h⟩;exact⟨_,⟨a,G,rfl⟩,(n a G).2 h⟩
  ·exact absurd rfl H.1
  ·exact absurd rfl H.2.1
  ·exact absurd rfl H.2.2
  ·simp[Fd,opS,opP,Jb]
  ·obtain⟨a,c,rfl⟩:=GM rO;have d:=n a O;have Z:=n c O;simp[Fd,opS,opP,Cs,<-d,<-Z,and_comm]
  ·obtain⟨a,c,rfl⟩:=GM rO;have d:=n a O;have Z:=n c O;simp[Fd,opS,opP,EP,<-d,<-Z,or_comm]
def NO(b:Bool):Int:=if b then 1 else 0
def Rx(b:Bool):(NO b=1)↔b=true:=by cases b<;>simp[NO]
def JW(x:Vl)(op:Int)(v:Int)(first M:Bool):Int:=if op=15 then NO first else if op=16\/op=17 then NO M else v
mutual
def C4(x:Vl):Fml->Fml
 | .mk op nm v b args=>.mk op nm (JW x op v ((args.map (Bb x)).getD 0 false) (Bb x (.mk op nm v b args))) 0 (M8 x args)
def M8(x:Vl):LF->LF
 | []=>[]
 |a::l=>C4 x a::M8 x l
end
def MS(x:Vl):∀l,M8 x l=l.map (C4 x)
 | []=>rfl
 |a::l=>by rw[M8,MS x l];rfl
def UG(p q:Nat->Prop)(t:Nat):EN (fun i=>p (i+1)) (fun i=>q (i+1)) t↔EN p q (t+1):=by
 constructor
 ·rintro⟨k,Z,W,R⟩;refine⟨k+1,by omega,W,fun j a b=>?_⟩;have:p (j-1+1):=R (j-1) U U
  rwa [show j-1+1=j by omega]at this
 ·rintro⟨k,Z,W,R⟩;refine⟨k-1,by omega,by show q (k-1+1);rw[show k-1+1=k by omega];exact W,fun j a b=>R (j+1) U U⟩
def kG(p q:Nat->Prop)(t:Nat):FK (fun i=>p (i+1)) (fun i=>q (i+1)) t↔FK p q (t+1):=by
 rw[JO,JO];exact not_congr (UG (fun i=>¬p i) (fun i=>¬q i) t)
def UE{v B:Int}{p q W z:Nat->Prop}(C:∀t,W t↔p (t+1))(V:∀t,z t↔q (t+1))(s:B=1↔Cs v p q 0):∀t,Cs B W z t↔Cs v p q (t+1)
 |0=>by
  show(z 0\/W 0/\B=1)↔(q (0+1)\/p (0+1)/\Cs v p q 0);rw[C,V,s]
 |t+1=>by
  show(z (t+1)\/W (t+1)/\Cs B W z t)↔(q (t+1+1)\/p (t+1+1)/\Cs v p q (t+1));rw[C,V,UE C V s t]
def VE{v B:Int}{p q W z:Nat->Prop}(C:∀t,W t↔p (t+1))(V:∀t,z t↔q (t+1))(s:B=1↔EP v p q 0):∀t,EP B W z t↔EP v p q (t+1)
 |0=>by
  show(z 0/\(W 0\/B=1))↔(q (0+1)/\(p (0+1)\/EP v p q 0));rw[C,V,s]
 |t+1=>by
  show(z (t+1)/\(W (t+1)\/EP B W z t))↔(q (t+1+1)/\(p (t+1+1)\/EP v p q (t+1)));rw[C,V,VE C V s t]
def bY{p q W z:Nat->Prop}(C:∀t,W t↔p t)(V:∀t,z t↔q t)(t:Nat):EN W z t↔EN p q t:=by
 have f:W=p:=funext fun t=>propext (C t);have u:z=q:=funext fun t=>propext (V t);rw[f,u]
def gN{p q W z:Nat->Prop}(C:∀t,W t↔p t)(V:∀t,z t↔q t)(t:Nat):FK W z t↔FK p q t:=by
 have f:W=p:=funext fun t=>propext (C t);have u:z=q:=funext fun t=>propext (V t);rw[f,u]
def OV(s:Wd):∀(f:Fml)(i:Bool),BQ i f=true->∀t,(sem (JZ s) (C4 (s 0) f) t↔sem s f (t+1))
 | .mk op nm v b args,i,hb=>by
  have d:=hb;simp only[BQ,AZ]at hb;obtain⟨⟨⟨⟨e,W⟩,R⟩,A⟩,Z⟩:=hb;have n:∀a∈args,∀t,(sem (JZ s) (C4 (s 0) a) t↔sem s a (t+1)):=fun a G=>OV s a _ (Ij Z G);have G:=Fp W;intro t;rw[C4,MS,sem,Fw,sem,Fw];rcases Hd e with rfl|rfl|rfl|rfl|rfl|rfl|rfl|rfl|rfl|rfl|rfl|rfl
  ·simp[opS,opP]
  ·simp[opS,opP]
  ·simp[opS,opP,JW,JZ]
  ·obtain⟨a,rfl⟩:=FU rO;have:=n a O t;simp[opS,opP,this]
  ·simp only[opS,opP,HF];simp only[By,Uh,and_imp,TN,Function.comp];exact⟨fun h a G=>(n a G t).1 (h a G),fun h a G=>(n a G t).2 (h a G)⟩
  ·simp only[opS,opP,HF];simp only[By,Function.comp];constructor
   ·rintro⟨_,⟨a,G,rfl⟩,h⟩;exact⟨_,⟨a,G,rfl⟩,(n a G t).1 h⟩
   ·rintro⟨_,⟨a,G,rfl⟩,h⟩;exact⟨_,⟨a,G,rfl⟩,(n a G t).2 h⟩
  ·obtain⟨a,rfl⟩:=FU rO;exact n a O (t+1)
  ·obtain⟨a,c,rfl⟩:=GM rO;refine(bY (p:=fun i=>sem s a (i+1)) (q:=fun i=>sem s c (i+1)) (n a O) (n c O) t).Q ?_;exact UG _ _ t
  ·obtain⟨a,c,rfl⟩:=GM rO;refine(gN (p:=fun i=>sem s a (i+1)) (q:=fun i=>sem s c (i+1)) (n a O) (n c O) t).Q ?_;exact kG _ _ t
  ·obtain⟨a,rfl⟩:=FU rO;have C:=Ik a (by simpa[Gp,CR]using Z);have H:=Ml s a _ (by simpa[Gp,CR]using Z) C;cases t with
   |zero=>
    show JW (s 0) 15 v (Bb (s 0) a) _=1↔sem s a 0;rw[<-H];exact Rx _
   |succ t=>exact n a O t
  ·obtain⟨a,c,rfl⟩:=GM rO;have N:BQ true a=true/\BQ true c=true:=by simpa[Gp,CR]using Z
   have C:Cp (.mk 16 nm v b [a,c])=true:=by simp[Cp,GU,Ik a N.1,Ik c N.2]
   have H:=Ml s _ i d C;rw[sem,Fw]at H;refine UE (n a O) (n c O) ?_ t;exact(Rx _).Q H
  ·obtain⟨a,c,rfl⟩:=GM rO;have N:BQ true a=true/\BQ true c=true:=by simpa[Gp,CR]using Z
   have C:Cp (.mk 17 nm v b [a,c])=true:=by simp[Cp,GU,Ik a N.1,Ik c N.2]
   have H:=Ml s _ i d C;rw[sem,Fw]at H;refine VE (n a O) (n c O) ?_ t;exact(Rx _).Q H
def Yy:Fml:=⟨1,[],0,0,[]⟩
def YM:Fml:=⟨2,[],0,0,[]⟩
def LD(b:Bool):Fml:=if b then Yy else YM
def opF(op:Int)(l:LF):Fml:=⟨op,[],0,0,l⟩
def Po(op:Int)(M:Fml)(p o:LF):Fml:=
 if op=5\/op=6 then opF op p
 else if op=8 then o.getD 0 Ad
 else if op=9 then opF 6 [p.getD 1 Ad,opF 5 [p.getD 0 Ad,M]]
 else if op=10 then opF 5 [p.getD 1 Ad,opF 6 [p.getD 0 Ad,M]]
 else Ad
mutual
def DK(x:Vl):Fml->Fml
 | .mk op nm v b args=>if Cp (.mk op nm v b args)then LD (Bb x (.mk op nm v b args))else Po op (C4 x (.mk op nm v b args)) (Pw x args) (M8 x args)
def Pw(x:Vl):LF->LF
 | []=>[]
 |a::l=>DK x a::Pw x l
end
def SC(x:Vl):∀l,Pw x l=l.map (DK x)
 | []=>rfl
 |a::l=>by rw[Pw,SC x l];rfl
def gZ(s:Wd)(b:Bool)(t:Nat):sem s (LD b) t↔b=true:=by
 cases b<;>simp[LD,Yy,YM,sem,opS,opP]
def Xp(s:Wd)(a c:Fml)(t:Nat):sem s (opF 6 [a,c]) t↔sem s a t\/sem s c t:=by simp[opF,sem,Hy,opS,opP]
def WY(s:Wd)(a c:Fml)(t:Nat):sem s (opF 5 [a,c]) t↔sem s a t/\sem s c t:=by simp[opF,sem,Hy,opS,opP]
def Xm(s:Wd):∀(f:Fml),BQ false f=true->(sem (JZ s) (DK (s 0) f) 0↔sem s f 0)
 | .mk op nm v b args,hb=>by
  have i:=hb;rw[DK];by_cases C:Cp (.mk op nm v b args)=true
  ·rw[AJ C,gZ];exact Ml s _ _ hb C
  ·rw[AG C];simp only[BQ,AZ]at hb;obtain⟨⟨⟨⟨j,W⟩,R⟩,m⟩,Z⟩:=hb;have G:=Fp W;have z:∀k:Int,op=k->Am k 0=true->args=[]->False:=fun k e _ u=>C (by subst u;subst e;rcases Hd j with e|e|e|e|e|e|e|e|e|e|e|e<;>subst e<;>simp_all [Cp,GU,Am]);have d:CR op=false->∀a∈args,BQ false a=true:=fun h a G=>by rw[h]at Z;exact Ij Z G
   have n:CR op=false->∀a∈args,(sem (JZ s) (DK (s 0) a) 0↔sem s a 0):=fun h a G=>Xm s a (d h a G)
   have g:CR op=true->False:=fun h=>by
    rw[h]at Z;refine C ?_;simp only[Cp,AZ,D7,H0,Ec];simp only[CR,AZ,BD]at h;exact⟨by omega,Ma fun a G=>Ik a (Ij (by simpa using Z) G)⟩
   rw[SC,MS];rcases Hd j with rfl|rfl|rfl|rfl|rfl|rfl|rfl|rfl|rfl|rfl|rfl|rfl
   ·exact(z 1 rfl rfl (Dc rO)).elim
   ·exact(z 2 rfl rfl (Dc rO)).elim
   ·exact(z 3 rfl rfl (Dc rO)).elim
   ·obtain⟨a,rfl⟩:=FU rO;have p:a.op=3:=by simpa using m
    have A:=d rfl a O;obtain⟨o,r,B,q,l⟩:=a;obtain rfl:o=3:=p;simp only[BQ,AZ]at A;have:=Dc (by simpa[Am]using Fp A.1.1.1.2:l.length=0);subst this;exact absurd (by simp[Cp,GU]) C
   ·show sem _ (opF 5 _) 0↔_;rw[sem,Fw];simp only[opF,sem,Fw,opS,opP,HF];simp only[By,Uh,and_imp,TN,Function.comp];exact⟨fun h a G=>(n rfl a G).1 (h a G),fun h a G=>(n rfl a G).2 (h a G)⟩
   ·show sem _ (opF 6 _) 0↔_;rw[sem,Fw];simp only[opF,sem,Fw,opS,opP,HF];simp only[By,Function.comp];constructor
    ·rintro⟨_,⟨a,G,rfl⟩,h⟩;exact⟨_,⟨a,G,rfl⟩,(n rfl a G).1 h⟩
    ·rintro⟨_,⟨a,G,rfl⟩,h⟩;exact⟨_,⟨a,G,rfl⟩,(n rfl a G).2 h⟩
   ·obtain⟨a,rfl⟩:=FU rO;exact OV s a _ (d rfl a O) 0
   ·obtain⟨a,c,rfl⟩:=GM rO;have e:=OV s _ _ i 0;show sem (JZ s) (opF 6 [DK (s 0) c,opF 5 [DK (s 0) a,C4 (s 0) (.mk 9 nm v b [a,c])]]) 0↔_;rw[Xp,WY,n rfl a O,n rfl c O,e];have:∀t,sem s (.mk 9 nm v b [a,c]) t↔EN (sem s a) (sem s c) t:=fun t=>by rw[sem,Fw];exact Ho
    rw[this,this,MC _ _ 0]
   ·obtain⟨a,c,rfl⟩:=GM rO;have e:=OV s _ _ i 0;show sem (JZ s) (opF 5 [DK (s 0) c,opF 6 [DK (s 0) a,C4 (s 0) (.mk 10 nm v b [a,c])]]) 0↔_;rw[WY,Xp,n rfl a O,n rfl c O,e];have:∀t,sem s (.mk 10 nm v b [a,c]) t↔FK (sem s a) (sem s c) t:=fun t=>by rw[sem,Fw];exact Ho
    rw[this,this,WM _ _ 0]
   ·exact(g rfl).elim
   ·exact(g rfl).elim
   ·exact(g rfl).elim
def JP{P:Program}{ops:Array Oper}{Z:Fr->DS->List PanicEntry->World->Prop}{K:Fr->DS->World->Prop}{S:World->Prop}{T:DT}{f:Fr}{ds:DS}{w:World}{α:Type}(t:DT)(L:α->List (Nat×Value))(I:α->World->Prop)
  (b:∀x a w',I x w'->BN P ops Z K t S (ov (L x) a) ds w')(W:(∀x a w',agr (L x) a->I x w'->BN P ops Z K t S a ds w')->BN P ops Z K T S f ds w):BN P ops Z K T S f ds w:=
 W fun x a w' G E=>by have:=b x a w' E;rwa [Q4 G]at this
def CU(op:Int):Int:=if op=7\/op=13 then 6 else if op=14 then 5 else if op=11 then 9 else if op=12 then 10 else if op=18 then 16 else if op=19 then 17 else op
def Rz(w:World)(op:Int):Fn Zp 150 [iV op] w fun u w'=>u=iV (CU op)/\w'=w:=by
 unfold CU;refine AM func150 rfl ntmps150 (go ?_);by_cases A:op=7
 ·rw[AJ (.inl A)];exact sd
 ·by_cases S:op=13
  ·rw[AJ (.inr S)];exact sd
  ·rw[AG U];refine go ?_;by_cases R:op=14
   ·rw[AJ R];exact sd
   ·rw[AG R];refine go ?_;by_cases x:op=11
    ·rw[AJ x];exact sd
    ·rw[AG x];refine go ?_;by_cases B:op=12
     ·rw[AJ B];exact sd
     ·rw[AG B];refine go ?_;by_cases V:op=18
      ·rw[AJ V];exact sd
      ·rw[AG V];refine go ?_;by_cases T:op=19
       ·rw[AJ T];exact sd
       ·rw[AG T];exact sd
def JN(w:World)(B e:Nat):w.ownsRow B e 5 (nS) 0 []:=⟨rfl,.inl ⟨rfl,rfl⟩⟩
def Mn{w:World}{B n c:Nat}{T:TypeId}{D:LV}{r:Value}{xs cs:LV}(a:w.ownsRow B 37 5 r (n+1) (xs++zero5))(V:xs.length=n*5)(o:cs.length=5)(s:Blk w c T D)(p:∀g,r.ownBlock=some g->g≠c):∃g cap M,r=.slice (sm g) (n+1) cap/\B<=g/\Blk w g 37 M/\n*5+5<=M.length/\
  (∀Q L,Put w Q g 37 (splice M (n*5) cs)->Put Q L c T (D.set 4 r)->Keep [g,c] w L/\Blk L c T (D.set 4 r)/\L.ownsRow B 37 5 r (n+1) (xs++cs))/\
  (∀Q L,Put w Q c T (D.set 4 r)->Put Q L g 37 (splice M (n*5) cs)->Keep [g,c] w L/\Blk L c T (D.set 4 r)/\L.ownsRow B 37 5 r (n+1) (xs++cs)):=by
 obtain⟨g,cap,M,rfl,y,b,F,m⟩:=WB a V o;have l:c≠g:=fun e=>p g rfl e.symm
 refine⟨g,cap,M,rfl,y,b,F,fun Q L H E=>⟨(H.E.mono fun x h=>by simp at h;simp[h]).Q E.E fun x h _=>by simp at h;simp[h],E.D,Bf (m Q H) E.E fun f S=>by cases S;simpa using l.symm⟩,
  fun Q L H E=>⟨(H.E.mono fun x h=>by simp at h;simp[h]).Q E.E fun x h _=>by simp at h;simp[h],H.D.E E.E (by simpa using l),?_⟩⟩
 obtain⟨f,q,k,d,_,j,_,i⟩:=WB (Bf a H.E fun f S=>by cases S;simpa using l.symm) V o;cases d
 obtain rfl:k=M:=by
  have Z:=b.E H.E (by simpa using l.symm);unfold Blk at Z j;rw[Z]at j;have:=Ae j;simpa using(Obj.cells.inj this).1.symm
 exact i L E
end
def gl{α:Type}{l:List α}{k:Nat}(h:k<l.length):∃x,l[k]?=some x:=⟨_,AU h⟩
def nk(k:Nat):iV ((k:Int)+1)=iV ((k+1:Nat):Int):=by rw[BB];rfl
def ag{p:Prop}(h:p:=by repeat' first|exact trivial|refine⟨rfl,?_⟩|refine⟨nk _,?_⟩):p:=h
section
variable {mk:Prop}[MK mk]{X:List Nat}{w w':World}{ok:Nat->Prop}
def FAt.keep'{v:Value}{f:Fml}(k:Keep X w w')(h:FAt ok w v f)(T:∀b,ok b->b∉X):FAt ok w' v f:=h.E k T
def FsAt.keep'{L:List (LV)}{l:LF}(k:Keep X w w')(h:FsAt ok w L l)(T:∀b,ok b->b∉X):FsAt ok w' L l:=h.E k T
def RsAt.keep'{α:Type}{R:Rp α}{L:List (LV)}{l:List α}(k:Keep X w w')(h:RsAt R ok w L l)(T:∀b,ok b->b∉X):RsAt R ok w' L l:=h.E k T
def SlAt.keep'{α:Type}{R:Rp α}{v:Value}{l:List α}(k:Keep X w w')(h:SlAt R ok w v l)(T:∀b,ok b->b∉X):SlAt R ok w' v l:=h.E k T
def PF.keep'{b o:Nat}{f:Fml}(k:Keep X w w')(h:PF ok w b o f)(T:∀b,ok b->b∉X):PF ok w' b o f:=h.E k T
end
section
variable {mk:Prop}[MK mk]
abbrev BS:=Int×Bool
def tkB(s:BS)(d:Int):BS:=(s.1-1,s.2||(decide (s.1-1<0)||decide (d<1)))
def KJ(op:Int):Int:=if op=1 then 2 else if op=2 then 1 else if op=5 then 6 else if op=6 then 5 else if op=9 then 10 else if op=10 then 9 else if op=16 then 17 else if op=17 then 16 else op
def DJ(neg:Bool)(op:Int):Int:=if neg then KJ op else op
def lnB(op v:Int)(d:Int)(s:BS):Int×LF×BS:=if(tkB s (d-1)).2 then(v,[],tkB s (d-1))else(if op=17 then 1 else v,[⟨if op=9\/op=16 then 1 else 2,[],0,0,[]⟩],tkB s (d-1))
def DI(op:Int):Bool:=decide (op=11)||decide (op=12)||decide (op=18)||decide (op=19)
def Hw(op:Int):Bool:=decide (op=15)||decide (op=16)||decide (op=17)
def Cd(op v:Int)(neg:Bool):Int:=if Hw op&&neg then 1-v else v
def bdB(op:Int)(neg:Bool)(g:Int->BS->Fml×BS):Nat->Int->BS->Fml×BS
 |0,d,s=>g d s
 |n+1,d,s=>if s.2 then(Ad,s)else if(tkB s d).2 then(Ad,tkB s d)else if(tkB (tkB s d) (d-1)).2 then(Ad,tkB (tkB s d) (d-1))else
  let r:=g (d-1) (tkB (tkB s d) (d-1));let q:=bdB op neg g n (d-2) r.2
  (⟨DJ neg (CU op),[],0,0,[r.1,⟨8,[],0,0,[q.1]⟩]⟩,q.2)
mutual
def fmB:Fml->Bool->Int->BS->Fml×BS
 | .mk op nm v b args,neg,d,s=>
  if s.2 then(Ad,s)
  else if op=4 then fm0 args (!neg) d s
  else if op=3/\neg=true then(if(tkB s d).2 then(Ad,tkB s d)else if(tkB (tkB s d) (d-1)).2 then(Ad,tkB (tkB s d) (d-1))else(⟨4,[],0,0,[⟨3,nm,v,0,[]⟩]⟩,tkB (tkB s d) (d-1)))
  else if op=13\/op=14 then bdB op neg (fm0 args neg) b.toNat d s
  else if(tkB s d).2 then(Ad,tkB s d)
  else
   let ln:=if DI op then lnB (DJ neg (CU op)) (Cd op v neg) d (tkB s d)else(Cd op v neg,[],tkB s d)
   let r:=fmL (op==7) args neg (d-1) ln.2.2
   (⟨DJ neg (CU op),nm,ln.1,0,ln.2.1++r.1⟩,r.2)
def fm0:LF->Bool->Int->BS->Fml×BS
 | [],_,_,s=>(Ad,s)
 |a::_,neg,d,s=>fmB a neg d s
def fmL:Bool->LF->Bool->Int->BS->LF×BS
 |_,[],_,_,s=>([],s)
 |turn,a::l,neg,d,s=>let r:=fmB a (neg !=turn) d s;let q:=fmL false l neg d r.2;(r.1::q.1,q.2)
end
def EI(s:BS):Prop:= -1<=s.1/\s.1<=1000/\(s.2=false->0<=s.1)
def Ht{s:BS}{d:Int}(h:EI s)(v:s.2=false):EI (tkB s d)/\((tkB s d).2=false->1<=d):=by
 obtain⟨Z,W,R⟩:=h;have:=R v;unfold tkB EI;simp only[v,Ha,H0,Ec];refine⟨⟨by omega,by omega,fun h=>by omega⟩,fun h=>by omega⟩
abbrev BAt(w:World)(F:Nat)(s:BS):Prop:=Blk w F 152 [iV s.1,.bool s.2]
def Ks(w:World)(F:Nat)(s:BS)(d:Int)(S:BAt w F s)(c:EI s):
  Fn Zp 148 [pt F,iV d] w fun u w'=>u=.bool (!(tkB s d).2)/\Keep [F] w w'/\BAt w' F (tkB s d):=by
 obtain⟨l,ov⟩:=s;obtain⟨Z,W,_⟩:=c;simp only at Z W;refine AM func148 rfl ntmps148 (go ?_);refine AW (v:=iV (l-1)) rfl rfl rfl S O (fun Q H=>?_);have q:Blk Q F 152 [iV (l-1),.bool ov]:=H.D;refine go ?_;by_cases N:l-1<0
 ·refine go ?_;refine AW (v:=.bool true) rfl rfl rfl q O (fun L E=>?_);have a:Blk L F 152 [iV (l-1),.bool true]:=E.D;refine go ?_;have e:tkB (l,ov) d=(l-1,true):=by simp[tkB,N]
  rw[e];exact AC rfl ⟨rfl,H.E.Q E.E (fun x h _=>h),a⟩
 ·by_cases b:d<1
  ·refine go ?_;refine AW (v:=.bool true) rfl rfl rfl q O (fun L E=>?_);have a:Blk L F 152 [iV (l-1),.bool true]:=E.D;refine go ?_;have e:tkB (l,ov) d=(l-1,true):=by simp[tkB,b]
   rw[e];exact AC rfl ⟨rfl,H.E.Q E.E (fun x h _=>h),a⟩
  ·refine go ?_;have e:tkB (l,ov) d=(l-1,ov):=by simp[tkB,N,b]
   rw[e];exact AC rfl ⟨rfl,H.E,q⟩
def XL(w:World)(op:Int):Fn Zp 151 [iV op] w fun u w'=>u=iV (KJ op)/\w'=w:=by
 unfold KJ;refine AM func151 rfl ntmps151 (go ?_);by_cases Z:op=1
 ·rw[AJ Z];refine go ?_;exact AC rfl ⟨rfl,rfl⟩
 rw[AG Z];by_cases W:op=2
 ·rw[AJ W];refine go ?_;exact AC rfl ⟨rfl,rfl⟩
 rw[AG W];by_cases R:op=5
 ·rw[AJ R];refine go ?_;exact AC rfl ⟨rfl,rfl⟩
 rw[AG R];by_cases A:op=6
 ·rw[AJ A];refine go ?_;exact AC rfl ⟨rfl,rfl⟩
 rw[AG A];by_cases a:op=9
 ·rw[AJ a];refine go ?_;exact AC rfl ⟨rfl,rfl⟩
 rw[AG a];by_cases p:op=10
 ·rw[AJ p];refine go ?_;exact AC rfl ⟨rfl,rfl⟩
 rw[AG p];by_cases b:op=16
 ·rw[AJ b];refine go ?_;exact AC rfl ⟨rfl,rfl⟩
 rw[AG b];by_cases M:op=17
 ·rw[AJ M];refine go ?_;exact AC rfl ⟨rfl,rfl⟩
 rw[AG M];exact sd
structure IR where
 least:Int
 most:Int
 val:Int
 bound:Int
 named:Bool
 past:Bool
 future:Bool
 loose:Bool
def formsL:List IR:=[⟨0,0,0,0,false,false,false,false⟩,⟨0,0,0,0,false,false,false,true⟩,⟨0,0,0,0,false,false,false,true⟩,⟨0,0,3,0,true,false,false,true⟩,⟨1,1,0,0,false,false,false,true⟩,
 ⟨2,1099511627776,0,0,false,false,false,true⟩,⟨2,1099511627776,0,0,false,false,false,true⟩,⟨2,2,0,0,false,false,false,false⟩,⟨1,1,0,0,false,false,true,true⟩,⟨2,2,0,0,false,false,true,true⟩,
 ⟨2,2,0,0,false,false,true,true⟩,⟨1,1,0,0,false,false,true,false⟩,⟨1,1,0,0,false,false,true,false⟩,⟨1,1,0,9,false,false,true,false⟩,⟨1,1,0,9,false,false,true,false⟩,
 ⟨1,1,1,0,false,true,false,true⟩,⟨2,2,1,0,false,true,false,true⟩,⟨2,2,1,0,false,true,false,true⟩,⟨1,1,0,0,false,true,false,false⟩,⟨1,1,0,0,false,true,false,false⟩]
def DO(x:IR):LV:=[iV x.least,iV x.most,iV x.val,iV x.bound,.bool x.named,.bool x.past,.bool x.future,.bool x.loose]
def Yv:LV:=formsL.flatMap DO
def GF(w:World):Prop:=Cells w 2 0 Yv
def GF.E{X:List Nat}{w w':World}(h:GF w)(k:Keep X w w')(T:∀x∈X,10<=x):GF w':=Cells.E h k (fun V=>by have:=T _ V;revert this;decide)
def GF.ext{w w':World}(h:GF w)(k:Ext w w'):GF w':=h.E k fun x V=>by cases V
def Io:IR:=⟨0,0,0,0,false,false,false,false⟩
def F0(n:Int):Bool:=decide (1<=n)&&decide (n<20)
def Be(n:Int):IR:=if F0 n then formsL.getD n.toNat Io else Io
def RU:∀(l:List IR)(k i:Nat)(x:IR)(u:Value),l[k]?=some x->(DO x)[i]?=some u->(l.flatMap DO)[k*8+i]?=some u
 | [],_,_,_,_,h,_=>by simp at h
 |y::l,0,i,x,u,h,hu=>by
  obtain rfl:y=x:=by simpa using h
  rw[GZ,Ou,Bs,D4 (Ah.1 hu).1,hu]
 |y::l,k+1,i,x,u,h,hu=>by
  have:=RU l k i x u rT hu;rw[GZ,EJ (by simp[DO];omega),show(k+1)*8+i-(DO y).length=k*8+i by simp[DO];omega,this]
def Jw(x:IR):oneC (DO x):=by
 intro u o;simp[DO]at o;rcases o with rfl|rfl|rfl|rfl|rfl|rfl|rfl|rfl<;>rfl
def MJ(w:World)(n:Int)(z:GF w):Fn Zp 147 [iV n] w fun v w'=>v=.tuple #[.agg (DO (Be n)).toArray,.bool (F0 n)]/\Ext w w':=by
 refine AM func147 rfl ntmps147 (go ?_);refine Ai (fun Q D=>?_);have q:Blk Q w.heap.size 221 (DO Io):=D.D;have d:=D.E;refine AT (AH rfl ?_);refine nX ?_;by_cases H:1<=n/\n<20
 ·have S:F0 n=true:=by simp[F0,H]
  obtain⟨k,rfl⟩:∃k:Nat,n=(k:Int):=⟨n.toNat,by omega⟩;obtain⟨x,V⟩:∃x,formsL[k]?=some x:=⟨_,AU (by show k<20;omega)⟩;have r:Be (k:Int)=x:=by unfold Be;rw[AJ S];simp[V]
  have a:Cells Q 2 (0+(k:Int).toNat*8) (DO x):=by
   intro i u o;have:=(z.ext d) (k*8+i) u (RU formsL k i x u V o);rw[GH];exact this
  rw[S,r];refine AN (AS rfl (JQ rfl rfl U (AH rfl (AE rfl (AS rfl (AE rfl (YF rfl rfl U (BJ rfl (AH rfl ?_)))))))));refine nY ?_;refine AN (AS rfl ?_);refine Js rfl rfl U U ?_;refine Al (L:=DO x) rfl rfl a ?_;refine Aa (cs:=DO x) rfl rfl rfl (Jw x) q (by simp[DO]) (fun b E=>?_);refine AT (AH rfl ?_);refine nX ?_;exact Dp (L:=DO x) rfl rfl rfl E.D.cells ⟨rfl,d.E E.E O⟩
 ·have S:F0 n=false:=by simp[F0];omega
  have r:Be n=Io:=by unfold Be;rw[AG (by simp[S])]
  rw[S,r];(refine AN (AS rfl ?_)<;>(refine M6 rfl rfl (fun T=>?_) (fun T=>?_)<;>try omega)<;>refine AH rfl ?_<;>(first|refine AP rfl ?_|(refine AE rfl ?_;refine AS rfl ?_))<;>(first|refine AP rfl ?_|(refine AE rfl ?_;refine LB rfl rfl U ?_))<;>((first|refine BF rfl ?_|refine BJ rfl ?_);refine AH rfl ?_)<;>refine AB ?_)
  all_goals
   refine nX ?_;refine AN (DB rF rF ?_);refine Aa (cs:=DO Io) rfl rfl rfl (Jw _) q (by simp[DO]) (fun b E=>?_);refine AT (AH rfl ?_);refine nX ?_;exact Dp (L:=DO Io) rfl rfl rfl E.D.cells ⟨rfl,d.E E.E O⟩
end
mutual
def szF:Fml->Nat
 | .mk _ _ _ _ args=>szL args+1
def szL:LF->Nat
 | []=>0
 |a::l=>szF a+szL l
end
def Bn(f:Fml):szF f=szL f.args+1:=by cases f;simp[szF,Fml.args]
def Ey(f:Fml):1<=szF f:=by rw[Bn];omega
def D8:∀l:LF,l.length<=szL l
 | []=>by simp
 |a::l=>by have:=Ey a;have:=D8 l;simp only[szL,C9];omega
def Ci:∀{l:LF}{a:Fml},a∈l->szF a<=szL l
 |c::l,a,h=>by
  simp only[szL];rcases BI.1 h with rfl|h
  ·omega
  ·have:=Ci h;omega
mutual
def dpF:Fml->Nat
 | .mk _ _ _ _ args=>dpL args+1
def dpL:LF->Nat
 | []=>0
 |f::l=>max (dpF f) (dpL l)
end
def Cr(f:Fml):dpF f=dpL f.args+1:=by cases f;simp[dpF,Fml.args]
def Ds:∀{l:LF}{a:Fml},a∈l->dpF a<=dpL l
 |c::l,a,h=>by
  simp only[dpL];rcases BI.1 h with rfl|h
  ·omega
  ·have:=Ds h;omega
def VM:=@Option.toList_some
def KU:=@List.prefix_append_right_inj
def QF:=@List.prefix_cons_inj
def QT:=@List.prefix_append
section
variable {mk:Prop}[MK mk]
abbrev Nd:=Fml×Bool
mutual
def CW(i:Bool):Fml->List Nd
 | .mk op nm v b args=>(.mk op nm v b args,i)::B9 (i||(Be op).past) args
def B9(i:Bool):LF->List Nd
 | []=>[]
 |f::l=>CW i f++B9 i l
end
def Iq(i:Bool)(f:Fml):CW i f=(f,i)::B9 (i||(Be f.op).past) f.args:=by cases f;simp[CW,Fml.args,Fml.op]
def Oi(i:Bool):∀l m:LF,B9 i (l++m)=B9 i l++B9 i m
 | [],m=>rfl
 |f::l,m=>by simp[B9,Oi i l m]
def Uy(i:Bool){l:LF}{k:Nat}{x:Fml}(h:l[k]?=some x):B9 i (l.take (k+1))=B9 i (l.take k)++CW i x:=by
 rw[CT,h,VM,Oi];simp[B9]
structure NodesR(yv:Value)(X:List Nat)(B:Nat)(P:List Nd)(J D:List Nd->World->Prop):Prop where
 fn:∃y,yv=.func (.yield y) #[] #[]
 glob:∀x∈X,10<=x
 E:∀{L:List Nd}{W W':World}{Y:List Nat},J L W->Keep Y W W'->(∀y∈Y,B<=y)->J L W'
 step:∀{L:List Nd}{W:World}{b o:Nat}{f:Fml}{i:Bool},J L W->PF (fun b=>b∉X/\b<B) W b o f->L++[(f,i)]<+:P->YldP Zp yv [.pointer (sn b o),.bool i] W (fun v W'=>Keep X W W'/\((v=.bool true/\J (L++[(f,i)]) W')\/(v=.bool false/\D (L++[(f,i)]) W'))) fun _ _=>False
def PF.opc{ok:Nat->Prop}{w:World}{b o:Nat}{f:Fml}(h:PF ok w b o f):CC w b (o+0) (iV f.op):=by
 obtain⟨_,a,c,L,T,_⟩:=h.form;exact T 0 _ rfl
def PF.arg{ok:Nat->Prop}{w:World}{b o:Nat}{f:Fml}(h:PF ok w b o f):∃a c,f.args.length<=9223372036854775807/\CC w b (o+4) (.slice a f.args.length c)/\∀(k:Nat)(x:Fml),f.args[k]?=some x->∃q m,a=some ⟨q,m,none⟩/\PF ok w q (m+k*5) x:=by
 obtain⟨_,a,c,L,T,i,Z,W,R⟩:=h.form;refine⟨a,c,by obtain⟨_,_,s,X,P,_⟩:=id i;cases s;omega,T 4 _ rfl,fun k x V=>?_⟩;have z:k<f.args.length:=(Ah.1 V).1;obtain⟨d,e⟩:∃d,L[k]?=some d:=⟨_,AU U⟩;obtain⟨q,m,rfl,S,B⟩:=i.fml W e z;exact⟨q,m,rfl,S,d,W d (BA e),B,R k d x e V⟩
def NodesR.ext{t:Value}{X:List Nat}{B:Nat}{P:List Nd}{a D:List Nd->World->Prop}(H:NodesR t X B P a D){L:List Nd}{W Z:World}(h:a L W)(k:Ext W Z):a L Z:=H.E h k fun _ h=>by cases h
def lJ{yv:Value}{X:List Nat}{B:Nat}{P:List Nd}{E D:List Nd->World->Prop}(H:NodesR yv X B P E D)(t s j:Nat)(h4:s∉X)(Z:j∉X):∀(n:Nat)(w:World)(b o:Nat)(f:Fml)(i:Bool)(d:Nat)(L:List Nd),dpF f<=n->d+n<=5000->PF (fun b=>b∉X/\b<B) w b o f->GF w->
  Blk w s 253 [yv]->Blk w j 257 [.func (.func 206) #[] #[pt t,pt s,pt j]]->E L w->L++CW i f<+:P->
  Fn Zp 206 [.pointer (sn b o),.bool i,iV d,pt t,pt s,pt j] w fun v w'=>Keep X w w'/\((v=.bool true/\E (L++CW i f) w')\/(v=.bool false/\∃M,M<+:CW i f/\M≠[]/\D (L++M) w')):=by
 intro n
 induction n with
 |zero=>intro w b o f i d L hn;rw[Cr]at hn;omega
 |succ n ih=>
 intro w b o f i d L hn hd hf hG b4 b5 hJ hP;rw[Cr]at hn;have c3:d<5000:=by omega
 obtain⟨y,rfl⟩:=H.fn;refine AM func206 rfl ntmps206 (go ?_);refine Mh rfl rfl (H.step hJ hf (((KU L).2 (by rw[Iq];exact⟨_,rfl⟩)).Q hP)) ?_;rintro _ w1⟨u,Q⟩;rcases Q with⟨rfl,b8⟩|⟨rfl,G⟩
 case inr=>
  refine gR ?_;exact⟨u,.inr ⟨rfl,[(f,i)],by rw[Iq];exact⟨_,rfl⟩,by simp,G⟩⟩
 have hf1:=hf.E u (fun _ h=>h.1);have b1:=hG.E u H.glob;have b6:=b4.E u h4;have b7:=b5.E u Z;refine go ?_;have c4:=hf1.opc;refine gC (MJ w1 f.op b1) ?_;rintro _ w2⟨rfl,k2⟩;refine go ?_;refine CL (cs:=DO (Be f.op)) rfl rfl rF (Jw _) (fun C n3=>go ?_);have A:=k2.Q n3.E;have b3:=n3.D;have a6:=hf1.E A (fun _ _=>by simp);have b2:=b1.ext A;have a9:=b6.E A O;have b0:=b7.E A O;have k13:Keep X w C:=u.ext A;have hJ3:=H.ext b8 A;have c5:CC C w2.heap.size (0+5) (.bool (Be f.op).past):=b3.cell rfl;obtain⟨a3,c0,c1,c2,_⟩:=a6.arg;cases i with
 |true=>
  refine go ?_;refine Aj (α:=Nat) (fun k=>[(0,.pointer (sn b o)),(1,.bool true),(2,iV (d:Int)),(5,pt j),(43,iV (f.args.length:Int)),(44,iV (k:Int))]) (fun k W=>k<=f.args.length/\Keep X w W/\Ext C C/\E (L++((f,true)::B9 true (f.args.take k))) W/\GF W/\PF (fun b=>b∉X/\b<B) W b o f/\Blk W s 253 [.func (.yield y) #[] #[]]/\Blk W j 257 [.func (.func 206) #[] #[pt t,pt s,pt j]]) (fun k=>f.args.length-k) 0 ag ⟨by omega,k13,Ext.refl _,by simpa[B9]using hJ3,b2,a6,a9,b0⟩ ?_;rintro k W fr⟨hk,K,_,g,I,T,F,a⟩;refine go ?_;by_cases z:k<f.args.length
  ·refine go ?_;obtain⟨x,l⟩:∃x,f.args[k]?=some x:=⟨_,AU z⟩;obtain⟨aa,cc,_,hargs,a5⟩:=T.arg;obtain⟨q,m,rfl,a8⟩:=a5 k x l
   have a7:f.args=f.args.take k++x::f.args.drop (k+1):=by
    have:=HB k f.args;rw[NS z,(Ah.1 l).2]at this;exact this.symm
   have N:B9 true f.args=B9 true (f.args.take k)++(CW true x++B9 true (f.args.drop (k+1))):=by
    conv=>lhs;rw[a7,Oi]
    simp[B9]
   have a2:(L++((f,true)::B9 true (f.args.take k)))++CW true x<+:P:=by
    refine List.IsPrefix.Q ?_ hP;rw[Iq true f,Cg,KU];show _<+:(f,true)::B9 true f.args;rw[N,Ee,QF,KU];exact QT _ _
   have a4:dpF x<=n:=by have:=Ds (BA l);omega
   refine Ab (rd 0 10 (.alt 10 (.read 11 .done) .stop)) AX rD (fun r c ed=>⟨Keep X r,?_,?_⟩)
   ·exact tK
   have S:∀V,Keep X r V->CC V j 0 (.func (.func 206) #[] #[pt t,pt s,pt j]):=fun V e=>((a.E c O).E e Z).cell rfl;have cb:∀V,Keep X r V->CC V b (o+4) (.slice (sn q m) f.args.length cc):=fun V e=>e.cell (c.cell hargs O) T.1.1;refine D_R rfl rfl (fun W hW=>AQ rfl (S W hW) Z3) (go ?_);refine gE ?_;refine Bg (v1:=[]) (v2:=[pt t,pt s,pt j]) (vs:=[.pointer (sn q (m+k*5)),.bool true,iV ((d:Int)+1)]) rfl (ih r q (m+k*5) x true (d+1) _ a4 U (a8.E c (fun _ _=>by simp)) (I.ext c) (F.E c O) (a.E c O) (H.ext g c) a2) rfl ?_;rintro _ w4⟨p,Q⟩;refine AB ⟨Keep X r,fun _ e=>e,p,?_⟩;have R:Keep X w w4:=(K.ext c).Q p (fun _ l _=>l);rcases Q with⟨rfl,a0⟩|⟨rfl,M,a1,b9,G⟩
   ·refine go ?_;refine⟨k+1,⟨rfl,⟨rfl,rfl,rfl,rfl,rfl,?_,trivial⟩,⟨by omega,R,Ext.refl _,?_,(I.ext c).E p H.glob,(T.E c (fun _ _=>by simp)).E p (fun _ h=>h.1),(F.E c O).E p h4,(a.E c O).E p Z⟩⟩,by omega⟩
    ·show iV ((k:Int)+1)=_;rw[BB];rfl
    ·rw[Uy _ l];simpa using a0
   ·refine go ?_;refine AC rfl ⟨R,.inr ⟨rfl,(f,true)::B9 true (f.args.take k)++M,?_,by simp,by simpa using G⟩⟩;rw[Iq];show _<+:(f,true)::B9 true f.args;rw[N,Ee,QF,KU];exact a1.Q (QT _ _)
  ·refine go ?_;rw[GE U]at g;refine AC rfl ⟨K,.inl ⟨rfl,by rw[Iq];exact g⟩⟩
 |false=>
  refine go ?_;refine Aj (α:=Nat) (fun k=>[(0,.pointer (sn b o)),(1,.bool (Be f.op).past),(2,iV (d:Int)),(5,pt j),(43,iV (f.args.length:Int)),(44,iV (k:Int))]) (fun k W=>k<=f.args.length/\Keep X w W/\Ext C C/\E (L++((f,false)::B9 (Be f.op).past (f.args.take k))) W/\GF W/\PF (fun b=>b∉X/\b<B) W b o f/\Blk W s 253 [.func (.yield y) #[] #[]]/\Blk W j 257 [.func (.func 206) #[] #[pt t,pt s,pt j]]) (fun k=>f.args.length-k) 0 ag ⟨by omega,k13,Ext.refl _,by simpa[B9]using hJ3,b2,a6,a9,b0⟩ ?_;rintro k W fr⟨hk,K,_,g,I,T,F,a⟩;refine go ?_;by_cases z:k<f.args.length
  ·refine go ?_;obtain⟨x,l⟩:∃x,f.args[k]?=some x:=⟨_,AU z⟩;obtain⟨aa,cc,_,hargs,a5⟩:=T.arg;obtain⟨q,m,rfl,a8⟩:=a5 k x l
   have a7:f.args=f.args.take k++x::f.args.drop (k+1):=by
    have:=HB k f.args;rw[NS z,(Ah.1 l).2]at this;exact this.symm
   have N:B9 (Be f.op).past f.args=B9 (Be f.op).past (f.args.take k)++(CW (Be f.op).past x++B9 (Be f.op).past (f.args.drop (k+1))):=by
    conv=>lhs;rw[a7,Oi]
    simp[B9]
   have a2:(L++((f,false)::B9 (Be f.op).past (f.args.take k)))++CW (Be f.op).past x<+:P:=by
    refine List.IsPrefix.Q ?_ hP;rw[Iq false f,Cg,KU];show _<+:(f,false)::B9 (Be f.op).past f.args;rw[N,Ee,QF,KU];exact QT _ _
   have a4:dpF x<=n:=by have:=Ds (BA l);omega
   refine Ab (rd 0 10 (.alt 10 (.read 11 .done) .stop)) AX rD (fun r c ed=>⟨Keep X r,?_,?_⟩)
   ·exact tK
   have S:∀V,Keep X r V->CC V j 0 (.func (.func 206) #[] #[pt t,pt s,pt j]):=fun V e=>((a.E c O).E e Z).cell rfl;have cb:∀V,Keep X r V->CC V b (o+4) (.slice (sn q m) f.args.length cc):=fun V e=>e.cell (c.cell hargs O) T.1.1;refine D_R rfl rfl (fun W hW=>AQ rfl (S W hW) Z3) (go ?_);refine gE ?_;refine Bg (v1:=[]) (v2:=[pt t,pt s,pt j]) (vs:=[.pointer (sn q (m+k*5)),.bool (Be f.op).past,iV ((d:Int)+1)]) rfl (ih r q (m+k*5) x (Be f.op).past (d+1) _ a4 U (a8.E c (fun _ _=>by simp)) (I.ext c) (F.E c O) (a.E c O) (H.ext g c) a2) rfl ?_;rintro _ w4⟨p,Q⟩;refine AB ⟨Keep X r,fun _ e=>e,p,?_⟩;have R:Keep X w w4:=(K.ext c).Q p (fun _ l _=>l);rcases Q with⟨rfl,a0⟩|⟨rfl,M,a1,b9,G⟩
   ·refine go ?_;refine⟨k+1,⟨rfl,⟨rfl,rfl,rfl,rfl,rfl,?_,trivial⟩,⟨by omega,R,Ext.refl _,?_,(I.ext c).E p H.glob,(T.E c (fun _ _=>by simp)).E p (fun _ h=>h.1),(F.E c O).E p h4,(a.E c O).E p Z⟩⟩,by omega⟩
    ·show iV ((k:Int)+1)=_;rw[BB];rfl
    ·rw[Uy _ l];simpa using a0
   ·refine go ?_;refine AC rfl ⟨R,.inr ⟨rfl,(f,false)::B9 (Be f.op).past (f.args.take k)++M,?_,by simp,by simpa using G⟩⟩;rw[Iq];show _<+:(f,false)::B9 (Be f.op).past f.args;rw[N,Ee,QF,KU];exact a1.Q (QT _ _)
  ·refine go ?_;rw[GE U]at g;refine AC rfl ⟨K,.inl ⟨rfl,by rw[Iq];exact g⟩⟩
def nD:(madeCells (Value.agg #[.pointer none,.bool false]).cells (1*2)).toList=[.pointer none,.bool false]:=by kernel_rfl
def dP{yv:Value}{X:List Nat}{e D:List Nd->World->Prop}(w:World)(F b o:Nat)(f:Fml)(H:NodesR yv X w.heap.size (CW false f) e D)(b4:Blk w F 89 [.pointer (sn b o)])(K:PF (fun b=>b∉X/\b<w.heap.size) w b o f)(z:GF w)(hN:10<=w.heap.size)(hd:dpF f<=5000)(n:e [] w)(hX:∀x∈X,x<w.heap.size):
  Fn Zp 205 [yv,pt F] w fun _ w'=>Keep X w w'/\(e (CW false f) w'\/∃M,M<+:CW false f/\M≠[]/\D M w'):=by
 have s:∀{c:Nat},w.heap.size<=c->c∉X:=fun h V=>by have:=hX _ V;omega
 have hy:=H.fn;obtain⟨y,rfl⟩:=hy;refine AM func205 rfl ntmps205 (go ?_);refine Ac (L:=[.func (.yield y) #[] #[]]) rfl (fun Q j=>go ?_);have c1:CC Q F 0 (.pointer (sn b o)):=(b4.E j.E O).cell rfl;refine go ?_;refine Ay (out:=[.pointer (sn b o),.bool false]) rfl U (by rw[nD];rfl) (fun d R=>?_);refine Ai (fun w3 B=>?_);refine AW (v:=.slice (sm Q.heap.size) 1 1) rfl rfl rfl B.D O (fun t g=>go ?_);refine Ai (fun w5 I=>go ?_);refine AW (v:=.func (.func 206) #[] #[pt d.heap.size,pt w.heap.size,pt t.heap.size]) rfl rfl rfl I.D O (fun r E=>go ?_);have z1:=j.size;have z2:=R.size;have z3:=B.size;have z4:=g.size;have z5:=I.size;have z6:=E.size;have b7:Ext d t:=B.E.E g.E O;have a2:Ext t r:=I.E.E E.E O;have a1:=b7.Q a2;have a0:=R.E.Q a1;have q:Ext w r:=j.E.Q a0;have p:Blk r w.heap.size 253 [.func (.yield y) #[] #[]]:=j.D.E a0 O;have C:Blk r Q.heap.size 255 [.pointer (sn b o),.bool false]:=R.D.E a1 O;have i:Blk r d.heap.size 256 [.slice (sm Q.heap.size) 1 1]:=g.D.E a2 O;have m:Blk r t.heap.size 257 [.func (.func 206) #[] #[pt d.heap.size,pt w.heap.size,pt t.heap.size]]:=E.D;have x4:w.heap.size∉X:=s (AO _);have xp:Q.heap.size∉X:=s U;have x3:d.heap.size∉X:=s U;have x5:t.heap.size∉X:=s U;replace z:=z.ext q;replace K:=K.E q (fun _ _=>by simp);replace n:=H.ext n q;clear c1 j R B g I E
 refine Aj (α:=Nat) (fun k=>[(3,pt d.heap.size),(4,pt t.heap.size)]) (fun k W=>k<=1/\Keep X w W/\(k=1->e [] W)/\(k=0->e (CW false f) W)/\GF W/\PF (fun b=>b∉X/\b<w.heap.size) W b o f/\Blk W d.heap.size 256 [.slice (sm Q.heap.size) k 1]/\
  Blk W Q.heap.size 255 [.pointer (sn b o),.bool false]/\Blk W w.heap.size 253 [.func (.yield y) #[] #[]]/\Blk W t.heap.size 257 [.func (.func 206) #[] #[pt d.heap.size,pt w.heap.size,pt t.heap.size]]) (fun k=>k) 1 ag
  ⟨by omega,q.any,fun _=>n,fun h=>by omega,z,K,i,C,p,m⟩ ?_
 clear i C p m z K n;rintro k W fr⟨hk,kW,a9,a8,a7,b5,i,C,p,m⟩;refine go ?_;by_cases b6:k=0
 ·subst b6;refine go ?_;exact Bt rfl ⟨kW,.inl (a8 rfl)⟩
 obtain rfl:k=1:=by omega
 refine go ?_;refine CL (cs:=[.pointer (sn b o),.bool false]) rfl rfl rF (Ak rfl) (fun w7 a=>go ?_);have l3:=i.lt;have a4:=i.E a.E O;have z7:=a.size;refine go ?_;refine AW (v:=.slice (sm Q.heap.size) 0 1) rfl rfl rfl a4 O (fun l G=>go ?_);have Z:=a.D.E G.E rE;have T:Keep [d.heap.size] W l:=(a.E.mono (fun _ h=>by cases h)).Q G.E (fun _ h _=>h);have b9:w.heap.size≠d.heap.size:=by omega
 have c0:t.heap.size≠d.heap.size:=by omega
 have a6:=C.E T rE;have N:=p.E T rE;have S:=m.E T rE;have P:=a7.E T (fun x V=>by simp at V;omega);have A:=b5.E T (fun x V=>by have:=V.2;simp;omega);have b0:=H.E (a9 rfl) T (fun x V=>by simp at V;omega);have b8:Keep X w l:=kW.Q T (fun x V h=>by simp at V;omega);have e0:CC l W.heap.size (0+0) (.pointer (sn b o)):=Z.cell rfl;have e1:CC l W.heap.size (0+1) (.bool false):=Z.cell rfl;refine go ?_;refine Bg (v1:=[]) (v2:=[pt d.heap.size,pt w.heap.size,pt t.heap.size]) (vs:=[.pointer (sn b o),.bool false,iV 0]) rfl (lJ H d.heap.size w.heap.size t.heap.size x4 x5 (dpF f) l b o f false 0 [] (AO _) U A P N S b0 O) rfl ?_;rintro _ w9⟨u,hr⟩;have a5:=G.D.E u x3;have a3:Keep X w w9:=b8.Q u (fun _ h _=>h);rcases hr with⟨rfl,b1⟩|⟨rfl,M,b2,b3,hD⟩
 ·refine go ?_;refine⟨0,⟨rfl,ag,⟨by omega,a3,fun h=>by omega,fun _=>by simpa using b1,P.E u H.glob,A.E u (fun _ h=>h.1),a5,a6.E u xp,N.E u x4,S.E u x5⟩⟩,by omega⟩
 ·refine go ?_;exact Oc rfl ⟨a3,.inr ⟨M,b2,b3,by simpa using hD⟩⟩
def Of(w:World)(b o:Nat):Fn Zp 145 [.pointer (sn b o)] w fun v w'=>v=.func (.func 205) #[] #[pt w.heap.size]/\New w w' 89 [.pointer (sn b o)]:=by
 refine AM func145 rfl ntmps145 (go ?_);refine Ac (L:=[.pointer (sn b o)]) rfl (fun Q D=>?_);refine gR ?_;exact⟨rfl,D⟩
def Ri:∀l m:LF,szL (l++m)=szL l+szL m
 | [],m=>by simp[szL]
 |f::l,m=>by simp only[Ee,szL,Ri l m];omega
def iB{l:LF}{k:Nat}{x:Fml}(h:l[k]?=some x):szL (l.take (k+1))=szL (l.take k)+szF x:=by
 rw[CT,h,VM,Ri];simp[szL]
def Te(l:LF)(k:Nat):szL (l.take k)<=szL l:=by
 conv=>rhs;rw[<-HB k l,Ri]
 omega
def dpL_le_iff{n:Nat}:∀{l:LF},dpL l<=n↔∀a∈l,dpF a<=n
 | []=>by simp[dpL]
 |c::l=>by simp only[dpL,BI,forall_eq_or_imp,<-dpL_le_iff (l:=l)];omega
abbrev Pg(D i:Nat):Value:=.func (.func 204) #[] #[pt D,pt i]
def mE(d i:Nat)(M:i≠d):∀(D:Nat)(w:World)(b o:Nat)(f:Fml)(S:Nat),D<=1000->S<=1000->PF (fun b=>b≠d) w b o f->Blk w d 3 [iV S]->Blk w i 252 [Pg d i]->
  Fn Zp 204 [.pointer (sn b o),iV D,pt d,pt i] w fun v w'=>Keep [d] w w'/\((szF f<=S/\dpF f<=D/\v=.bool true/\Blk w' d 3 [iV (S-szF f:Nat)])\/(¬(szF f<=S/\dpF f<=D)/\v=.bool false)):=by
 intro D
 induction D with
 |zero=>
  intro w b o f S P R K j l;refine AM func204 rfl ntmps204 (go ?_);refine AW (v:=iV ((S:Int)-1)) rfl rfl rfl j O (fun w1 H=>go ?_);replace j:=H.D;replace l:=l.E H.E rY;replace K:=K.E H.E (fun b s=>by simpa using s);obtain⟨N,g,_,t,u⟩:=K.arg;refine Ab (rd 0 11 .done) AX rD (fun X c T=>⟨Ext X,?_,?_⟩)
  ·exact sY
  have p:∀V,Ext X V->CC V d 0 (iV ((S:Int)-1)):=fun V e=>(Blk.E j (c.Q e) O).cell rfl;have F:∀V,Ext X V->CC V b (o+4) (.slice N f.args.length g):=fun V e=>(c.Q e).cell t O;(refine D_R rfl rfl (fun W I=>AQ rfl (p W I) Z3) (D_R rfl rfl (fun W I=>Aq rfl Z3) (D_R rfl rfl (fun W I=>A7 rfl Z3) (D_R rfl rfl (fun W I=>AV rfl Z3) (D_R rfl rfl (fun W I=>AQ rfl (F W I) Z3) (D_R rfl rfl (fun W I=>Cj rfl Z3) ?_)))))<;>(refine JS rfl rfl rfl rfl (fun Z=>?_) (fun Z=>?_)<;>try omega)<;>refine D_R rfl rfl (fun W I=>AH rfl Z3) ?_<;>(first|refine Bq rfl rfl rfl rfl ?_|(refine D_R rfl rfl (fun W I=>AE rfl (AS rfl dz)) ?_))<;>(first|refine Bq rfl rfl rfl rfl ?_|refine SQ rfl rfl rfl rfl U ?_)<;>(apply D_R rfl rfl;(intro W I;((first|refine BF rfl ?_|refine BJ rfl ?_);refine AH rfl ?_);exact Z3))<;>refine Cy ?_)
  all_goals
   refine nX ?_;refine AN (AT (AH rfl ?_));refine nX ?_;exact AC rfl ⟨(H.E.Q c.any (fun _ h _=>h)),.inr ⟨by rw[Cr];omega,rfl⟩⟩
 |succ n ih=>
  intro w b o f S P R K j l;rw[Bn,Cr];refine AM func204 rfl ntmps204 (go ?_);refine AW (v:=iV ((S:Int)-1)) rfl rfl rfl j O (fun w1 H=>go ?_);replace j:=H.D;replace l:=l.E H.E rY;replace K:=K.E H.E (fun b s=>by simpa using s);obtain⟨N,g,_,t,u⟩:=K.arg;have a6:=D8 f.args;by_cases a5:(S:Int)-1<f.args.length
  ·refine Ab (rd 0 11 .done) AX rD (fun X c T=>⟨Ext X,?_,?_⟩)
   ·exact sY
   have p:∀V,Ext X V->CC V d 0 (iV ((S:Int)-1)):=fun V e=>(Blk.E j (c.Q e) O).cell rfl;have F:∀V,Ext X V->CC V b (o+4) (.slice N f.args.length g):=fun V e=>(c.Q e).cell t O;refine D_R rfl rfl (fun W I=>AQ rfl (p W I) Z3) (go ?_)
   all_goals
    refine gR ?_;exact⟨(H.E.Q c.any (fun _ h _=>h)),.inr ⟨by omega,rfl⟩⟩
  by_cases a3:(n:Int)+1<1
  ·omega
  refine Ab (rd 0 11 .done) AX rD (fun X c T=>⟨Ext X,?_,?_⟩)
  ·exact sY
  have p:∀V,Ext X V->CC V d 0 (iV ((S:Int)-1)):=fun V e=>(Blk.E j (c.Q e) O).cell rfl;have F:∀V,Ext X V->CC V b (o+4) (.slice N f.args.length g):=fun V e=>(c.Q e).cell t O;refine D_R rfl rfl (fun W I=>AQ rfl (p W I) Z3) (go ?_);replace j:=j.E c O;replace l:=l.E c O;replace K:=K.E c (fun _ _=>by simp);have k1:Keep [d] w X:=H.E.ext c;clear p F u;replace t:=c.cell t O;refine go ?_;refine Aj (α:=Nat) (fun k=>[(0,.pointer (sn b o)),(1,iV ((n+1:Nat):Int)),(2,pt d),(3,pt i),(25,iV (f.args.length:Int)),(26,iV (k:Int))]) (fun k W=>k<=f.args.length/\Keep [d] w W/\szL (f.args.take k)+1<=S/\dpL (f.args.take k)<=n/\PF (fun b=>b≠d) W b o f/\Blk W d 3 [iV (S-1-szL (f.args.take k):Nat)]/\Blk W i 252 [Pg d i]) (fun k=>f.args.length-k) 0 ag ⟨by omega,k1,by simp[szL];omega,by simp[dpL],K,by rw[show((S-1-szL (f.args.take 0):Nat):Int)=(S:Int)-1 by simp[szL];omega];exact j,l⟩ ?_;rintro k W fr⟨hk,C,a2,L,B,z,A⟩;refine go ?_;by_cases a1:k<f.args.length
  ·refine go ?_;obtain⟨x,r⟩:∃x,f.args[k]?=some x:=⟨_,AU a1⟩;obtain⟨N,g,_,t,u⟩:=B.arg;obtain⟨q,m,rfl,a0⟩:=u k x r;have b0:=iB r;have a9:=Te f.args (k+1);have a4:=Ds (BA r);refine Ab (rd 0 9 (.alt 9 (.read 10 .done) .stop)) AX rD (fun X c T=>⟨Keep [d] X,?_,?_⟩)
   ·exact tK
   have p:∀V,Keep [d] X V->CC V i 0 (Pg d i):=fun V e=>((A.E c O).E e rY).cell rfl;have F:∀V,Keep [d] X V->V.cell? ⟨b,o+4,none⟩=some (.slice (sn q m) f.args.length g):=fun V e=>e.cell (c.cell t O) (by simpa using B.1);refine D_R rfl rfl (fun W I=>AQ rfl (p W I) Z3) (go ?_);refine gE ?_;refine Bg (v1:=[]) (v2:=[pt d,pt i]) (vs:=[.pointer (sn q (m+k*5)),iV (((n+1:Nat):Int)-1)]) rfl (by rw[show((n+1:Nat):Int)-1=(n:Int) by omega];exact ih X q (m+k*5) x (S-1-szL (f.args.take k)) U U (a0.E c (fun _ _=>by simp)) (z.E c O) (A.E c O)) rfl ?_;rintro _ w4⟨y,hr⟩;refine AB ⟨Keep [d] X,fun _ e=>e,y,?_⟩;have E:Keep [d] w w4:=(C.ext c).Q y (fun _ r _=>r);rcases hr with⟨a8,hd4,rfl,Q⟩|⟨a7,rfl⟩
   ·refine go ?_;refine⟨k+1,⟨rfl,⟨rfl,rfl,rfl,rfl,rfl,?_,trivial⟩,⟨by omega,E,by omega,?_,(B.E c (fun _ _=>by simp)).E y (fun b s=>by simpa using s),?_,(A.E c O).E y rY⟩⟩,by omega⟩
    ·show iV ((k:Int)+1)=_;rw[BB];rfl
    ·rw[CT,r];refine dpL_le_iff.2 fun a G=>?_;rcases DM.1 G with G|G
     ·exact dpL_le_iff.1 L a G
     ·obtain rfl:a=x:=by simpa using G
      exact hd4
    ·rw[show S-1-szL (f.args.take (k+1))=S-1-szL (f.args.take k)-szF x by omega];exact Q
   ·refine gR ?_;exact⟨E,.inr ⟨by omega,rfl⟩⟩
  ·refine go ?_;rw[GE U]at a2 L z;refine AC rfl ⟨C,.inl ⟨by omega,by omega,rfl,?_⟩⟩;rw[show S-(szL f.args+1)=S-1-szL f.args by omega];exact z
def RD(w:World)(b o:Nat)(f:Fml)(S D:Nat)(k:S<=1000)(n:D<=1000)(K:PF (fun b=>b<w.heap.size) w b o f):
  Fn Zp 144 [.pointer (sn b o),iV S,iV D] w fun v w'=>v=.bool (decide (szF f<=S)&&decide (dpF f<=D))/\Ext w w':=by
 refine AM func144 rfl ntmps144 (go ?_);refine Ac (L:=[iV S]) rfl (fun Q a=>go ?_);refine Ai (fun m R=>go ?_);refine AW (v:=Pg w.heap.size Q.heap.size) rfl rfl rfl R.D O (fun c i=>go ?_);have j:=a.size;have F:=R.size;have e:=i.D;have q:=R.E.E i.E O;have g:Ext w c:=a.E.Q q;have d:=a.D.E q O;refine go ?_;refine Bg (v1:=[]) (v2:=[pt w.heap.size,pt Q.heap.size]) (vs:=[.pointer (sn b o),iV D]) rfl (mE w.heap.size Q.heap.size U D c b o f S n k ((K.E g (fun _ _=>by simp)).mono fun x V=>by omega) d e) rfl ?_;rintro v t⟨l,B⟩
 obtain rfl:v=.bool (decide (szF f<=S)&&decide (dpF f<=D)):=by
  rcases B with⟨Z,W,rfl,_⟩|⟨h,rfl⟩
  ·simp[Z,W]
  ·simp;exact fun Z=>by omega
 refine gR ?_;exact⟨rfl,g.E l O⟩
end
def RF:=@Bool.eq_iff_iff
section
variable {mk:Prop}[MK mk]
def PF.all{ok:Nat->Prop}{w:World}{b o:Nat}{f:Fml}(h:PF ok w b o f):∃a c,f.args.length<=9223372036854775807/\CC w b (o+0) (iV f.op)/\CC w b (o+1) (AA f.name)/\CC w b (o+2) (iV f.val)/\
  CC w b (o+3) (iV f.bound)/\CC w b (o+4) (.slice a f.args.length c)/\∀(k:Nat)(x:Fml),f.args[k]?=some x->∃q m,a=some ⟨q,m,none⟩/\PF ok w q (m+k*5) x:=by
 obtain⟨a,c,Z,W,R⟩:=h.arg;obtain⟨_,d,j,L,T,_⟩:=h.form;exact⟨a,c,Z,T 0 _ rfl,T 1 _ rfl,T 2 _ rfl,T 3 _ rfl,W,R⟩
def HT(x:IR)(l:LU)(v b n:Int):Bool:=decide (x.least<=n)&&decide (n<=x.most)&&decide (0<=v)&&decide (v<=x.val)&&decide (0<=b)&&decide (b<=x.bound)&&if x.named then BP l else decide (l=[])
def Ej(f:Fml):Bool:=F0 f.op&&HT (Be f.op) f.name f.val f.bound f.args.length
def MQ(f:Fml)(h:f.args.length<=1000000):Ej f=CN f.op f.name f.val f.bound f.args.length:=by
 unfold Ej;cases hb:F0 f.op with
 |false=>
  unfold CN;simp only[F0,NX,Ec]at hb;cases hs:(decide (1<=f.op)&&decide (f.op<=19))
  ·simp
  ·simp at hs;omega
 |true=>
  have Z:1<=f.op/\f.op<20:=by simpa[F0]using hb
  have r:Be f.op=formsL.getD f.op.toNat Io:=by unfold Be;rw[AJ hb]
  rw[r];obtain⟨op,l,v,b,args⟩:=f;simp only[Fml.op,Fml.name,Fml.val,Fml.bound,Fml.args]at*
  have B:l.isEmpty=decide (l=[]):=by cases l<;>simp
  have:op=1\/op=2\/op=3\/op=4\/op=5\/op=6\/op=7\/op=8\/op=9\/op=10\/op=11\/op=12\/op=13\/op=14\/op=15\/op=16\/op=17\/op=18\/op=19:=by omega
  rcases this with rfl|rfl|rfl|rfl|rfl|rfl|rfl|rfl|rfl|rfl|rfl|rfl|rfl|rfl|rfl|rfl|rfl|rfl|rfl
  all_goals
   simp[formsL,HT,CN,Am,B];try (congr 1;congr 1;congr 1;congr 1;rw[RF];simp;omega)
def U5(w:World)(b o:Nat)(f:Fml)(K:PF AL w b o f)(z:GF w)(G:KY w)(C:f.args.length<=1000000):Fn Zp 146 [.pointer (sn b o)] w fun v w'=>v=.bool (Ej f)/\Ext w w':=by
 refine AM func146 rfl ntmps146 (go ?_);have A:=K.opc;refine gC (MJ w f.op z) ?_;rintro _ Q⟨rfl,d⟩;refine go ?_;refine CL (cs:=DO (Be f.op)) rfl rfl rF (Jw _) (fun D R=>go ?_);have m:=d.Q R.E;have h:=R.D;have B:=K.E m (fun _ _=>by simp);obtain⟨r,g,_,c,t,u,N,n,_⟩:=B.all;clear A R K;unfold Ej;generalize Be f.op=x at h⊢;cases hb:F0 f.op with
 |false=>
  refine Ab (rd 0 22 .done) AX rD (fun X a s=>⟨Ext X,?_,?_⟩)
  ·exact sY
  have p:∀V,Ext X V->CC V Q.heap.size (0+0) (iV x.least):=fun V e=>(Blk.E h (a.Q e) O).cell rfl;have q:∀V,Ext X V->CC V Q.heap.size (0+1) (iV x.most):=fun V e=>(Blk.E h (a.Q e) O).cell rfl;have i:∀V,Ext X V->CC V Q.heap.size (0+2) (iV x.val):=fun V e=>(Blk.E h (a.Q e) O).cell rfl;have j:∀V,Ext X V->CC V Q.heap.size (0+3) (iV x.bound):=fun V e=>(Blk.E h (a.Q e) O).cell rfl;have l:∀V,Ext X V->CC V b (o+2) (iV f.val):=fun V e=>(a.Q e).cell u O;have S:∀V,Ext X V->CC V b (o+3) (iV f.bound):=fun V e=>(a.Q e).cell N O;have k:∀V,Ext X V->CC V b (o+4) (.slice r f.args.length g):=fun V e=>(a.Q e).cell n O;refine gR ?_;exact⟨rfl,m.Q a⟩
 |true=>
 by_cases Z:x.least<=f.args.length/\(f.args.length:Int)<=x.most;rotate_left
 ·have E:HT x f.name f.val f.bound f.args.length=false:=by
   cases E:HT x f.name f.val f.bound f.args.length with
   |false=>rfl
   |true=>exact absurd ⟨by simp[HT]at E;omega,by simp[HT]at E;omega⟩ Z
  rw[E];refine Ab (rd 0 22 .done) AX rD (fun X a s=>⟨Ext X,?_,?_⟩)
  ·exact sY
  have p:∀V,Ext X V->CC V Q.heap.size (0+0) (iV x.least):=fun V e=>(Blk.E h (a.Q e) O).cell rfl;have q:∀V,Ext X V->CC V Q.heap.size (0+1) (iV x.most):=fun V e=>(Blk.E h (a.Q e) O).cell rfl;have i:∀V,Ext X V->CC V Q.heap.size (0+2) (iV x.val):=fun V e=>(Blk.E h (a.Q e) O).cell rfl;have j:∀V,Ext X V->CC V Q.heap.size (0+3) (iV x.bound):=fun V e=>(Blk.E h (a.Q e) O).cell rfl;have l:∀V,Ext X V->CC V b (o+2) (iV f.val):=fun V e=>(a.Q e).cell u O;have S:∀V,Ext X V->CC V b (o+3) (iV f.bound):=fun V e=>(a.Q e).cell N O;have k:∀V,Ext X V->CC V b (o+4) (.slice r f.args.length g):=fun V e=>(a.Q e).cell n O;(refine D_R rfl rfl (fun W I=>AH rfl Z3) (D_R rfl rfl (fun W I=>IM rfl Z3) (D_R rfl rfl (fun W I=>AH rfl Z3) (D_R rfl rfl (fun W I=>AE rfl (Aq rfl Z3)) (D_R rfl rfl (fun W I=>AE rfl (A7 rfl Z3)) (D_R rfl rfl (fun W I=>AE rfl (AV rfl Z3)) (D_R rfl rfl (fun W I=>AE rfl (AQ rfl (k W I) Z3)) (D_R rfl rfl (fun W I=>AE rfl (Cj rfl Z3)) (D_R rfl rfl (fun W I=>AE rfl (AV rfl Z3)) (D_R rfl rfl (fun W I=>AE rfl (AQ rfl (p W I) Z3)) ?_)))))))))<;>(refine JS rfl rfl rfl rfl (fun T=>?_) (fun T=>?_)<;>try omega)<;>refine D_R rfl rfl (fun W I=>BJ rfl (AH rfl Z3)) (D_R rfl rfl (fun W I=>AH rfl Z3) ?_)<;>(first|refine Bq rfl rfl rfl rfl ?_|(refine D_R rfl rfl (fun W I=>AE rfl (Aq rfl dz)) ?_))<;>(first|refine Bq rfl rfl rfl rfl ?_|(refine D_R rfl rfl (fun W I=>AE rfl (A7 rfl dz)) ?_))<;>(first|refine Bq rfl rfl rfl rfl ?_|(refine D_R rfl rfl (fun W I=>AE rfl (AV rfl dz)) ?_))<;>(first|refine Bq rfl rfl rfl rfl ?_|(refine D_R rfl rfl (fun W I=>AE rfl (AQ rfl (k W I) dz)) ?_))<;>(first|refine Bq rfl rfl rfl rfl ?_|(refine D_R rfl rfl (fun W I=>AE rfl (Cj rfl dz)) ?_))<;>(first|refine Bq rfl rfl rfl rfl ?_|(refine D_R rfl rfl (fun W I=>AE rfl (AV rfl dz)) ?_))<;>(first|refine Bq rfl rfl rfl rfl ?_|(refine D_R rfl rfl (fun W I=>AE rfl (AQ rfl (q W I) dz)) ?_))<;>(first|refine Bq rfl rfl rfl rfl ?_|refine PG rfl rfl rfl rfl U ?_)<;>(apply D_R rfl rfl;(intro W I;((first|refine BF rfl ?_|refine BJ rfl ?_);refine AH rfl ?_);exact Z3))<;>refine Cy ?_)
  all_goals
   refine gR ?_;exact⟨rfl,m.Q a⟩
 refine Ab (rd 0 22 .done) AX rD (fun X a s=>⟨Ext X,?_,?_⟩)
 ·exact sY
 have p:∀V,Ext X V->CC V Q.heap.size (0+0) (iV x.least):=fun V e=>(Blk.E h (a.Q e) O).cell rfl;have q:∀V,Ext X V->CC V Q.heap.size (0+1) (iV x.most):=fun V e=>(Blk.E h (a.Q e) O).cell rfl;have i:∀V,Ext X V->CC V Q.heap.size (0+2) (iV x.val):=fun V e=>(Blk.E h (a.Q e) O).cell rfl;have j:∀V,Ext X V->CC V Q.heap.size (0+3) (iV x.bound):=fun V e=>(Blk.E h (a.Q e) O).cell rfl;have l:∀V,Ext X V->CC V b (o+2) (iV f.val):=fun V e=>(a.Q e).cell u O;have S:∀V,Ext X V->CC V b (o+3) (iV f.bound):=fun V e=>(a.Q e).cell N O;have k:∀V,Ext X V->CC V b (o+4) (.slice r f.args.length g):=fun V e=>(a.Q e).cell n O;refine go ?_;clear p q i j l S k;refine go ?_;replace c:=a.cell c O;replace t:=a.cell t O;replace u:=a.cell u O;replace N:=a.cell N O;replace n:=a.cell n O;replace h:=Blk.E h a O;replace m:=m.Q a;clear a s
 rename World=>w3
 by_cases y:0<=f.val/\f.val<=x.val/\0<=f.bound/\f.bound<=x.bound;rotate_left
 ·have E:HT x f.name f.val f.bound f.args.length=false:=by
   cases E:HT x f.name f.val f.bound f.args.length with
   |false=>rfl
   |true=>exact absurd (by simp[HT]at E;omega) y
  rw[E];refine Ab (rd 0 30 .done) AX rD (fun X a s=>⟨Ext X,?_,?_⟩)
  ·exact sY
  have p:∀V,Ext X V->CC V Q.heap.size (0+0) (iV x.least):=fun V e=>(Blk.E h (a.Q e) O).cell rfl;have q:∀V,Ext X V->CC V Q.heap.size (0+1) (iV x.most):=fun V e=>(Blk.E h (a.Q e) O).cell rfl;have i:∀V,Ext X V->CC V Q.heap.size (0+2) (iV x.val):=fun V e=>(Blk.E h (a.Q e) O).cell rfl;have j:∀V,Ext X V->CC V Q.heap.size (0+3) (iV x.bound):=fun V e=>(Blk.E h (a.Q e) O).cell rfl;have l:∀V,Ext X V->CC V b (o+2) (iV f.val):=fun V e=>(a.Q e).cell u O;have S:∀V,Ext X V->CC V b (o+3) (iV f.bound):=fun V e=>(a.Q e).cell N O;have k:∀V,Ext X V->CC V b (o+4) (.slice r f.args.length g):=fun V e=>(a.Q e).cell n O;(refine D_R rfl rfl (fun W I=>Aq rfl Z3) (D_R rfl rfl (fun W I=>A7 rfl Z3) (D_R rfl rfl (fun W I=>AV rfl Z3) (D_R rfl rfl (fun W I=>AQ rfl (l W I) Z3) ?_)))<;>(refine JS rfl rfl rfl rfl (fun T=>?_) (fun T=>?_)<;>try omega)<;>refine D_R rfl rfl (fun W I=>AH rfl Z3) ?_<;>(first|refine Bq rfl rfl rfl rfl ?_|(refine D_R rfl rfl (fun W I=>AE rfl (Aq rfl dz)) ?_))<;>(first|refine Bq rfl rfl rfl rfl ?_|(refine D_R rfl rfl (fun W I=>AE rfl (A7 rfl dz)) ?_))<;>(first|refine Bq rfl rfl rfl rfl ?_|(refine D_R rfl rfl (fun W I=>AE rfl (AV rfl dz)) ?_))<;>(first|refine Bq rfl rfl rfl rfl ?_|(refine D_R rfl rfl (fun W I=>AE rfl (AQ rfl (l W I) dz)) ?_))<;>(first|refine Bq rfl rfl rfl rfl ?_|(refine D_R rfl rfl (fun W I=>AE rfl (AV rfl dz)) ?_))<;>(first|refine Bq rfl rfl rfl rfl ?_|(refine D_R rfl rfl (fun W I=>AE rfl (AQ rfl (i W I) dz)) ?_))<;>(first|refine Bq rfl rfl rfl rfl ?_|(refine M3 rfl rfl rfl rfl (fun T=>?_) (fun T=>?_)<;>try omega))<;>(apply D_R rfl rfl;(intro W I;((first|refine BF rfl ?_|refine BJ rfl ?_);refine AH rfl ?_);exact Z3))<;>refine D_R rfl rfl (fun W I=>AH rfl Z3) ?_<;>(first|refine Bq rfl rfl rfl rfl ?_|(refine D_R rfl rfl (fun W I=>AE rfl (Aq rfl dz)) ?_))<;>(first|refine Bq rfl rfl rfl rfl ?_|(refine D_R rfl rfl (fun W I=>AE rfl (A7 rfl dz)) ?_))<;>(first|refine Bq rfl rfl rfl rfl ?_|(refine D_R rfl rfl (fun W I=>AE rfl (AV rfl dz)) ?_))<;>(first|refine Bq rfl rfl rfl rfl ?_|(refine D_R rfl rfl (fun W I=>AE rfl (AQ rfl (S W I) dz)) ?_))<;>(first|refine Bq rfl rfl rfl rfl ?_|(refine JS rfl rfl rfl rfl (fun T=>?_) (fun T=>?_)<;>try omega))<;>(apply D_R rfl rfl;(intro W I;((first|refine BF rfl ?_|refine BJ rfl ?_);refine AH rfl ?_);exact Z3))<;>refine D_R rfl rfl (fun W I=>AH rfl Z3) ?_<;>(first|refine Bq rfl rfl rfl rfl ?_|(refine D_R rfl rfl (fun W I=>AE rfl (Aq rfl dz)) ?_))<;>(first|refine Bq rfl rfl rfl rfl ?_|(refine D_R rfl rfl (fun W I=>AE rfl (A7 rfl dz)) ?_))<;>(first|refine Bq rfl rfl rfl rfl ?_|(refine D_R rfl rfl (fun W I=>AE rfl (AV rfl dz)) ?_))<;>(first|refine Bq rfl rfl rfl rfl ?_|(refine D_R rfl rfl (fun W I=>AE rfl (AQ rfl (S W I) dz)) ?_))<;>(first|refine Bq rfl rfl rfl rfl ?_|(refine D_R rfl rfl (fun W I=>AE rfl (AV rfl dz)) ?_))<;>(first|refine Bq rfl rfl rfl rfl ?_|(refine D_R rfl rfl (fun W I=>AE rfl (AQ rfl (j W I) dz)) ?_))<;>(first|refine Bq rfl rfl rfl rfl ?_|refine PG rfl rfl rfl rfl U ?_)<;>(apply D_R rfl rfl;(intro W I;((first|refine BF rfl ?_|refine BJ rfl ?_);refine AH rfl ?_);exact Z3))<;>refine Cy ?_)
  all_goals
   refine gR ?_;exact⟨rfl,m.Q a⟩
 have E:HT x f.name f.val f.bound f.args.length=if x.named then BP f.name else decide (f.name=[]):=by simp[HT,Z,y]
 rw[E];refine Ab (rd 0 30 .done) AX rD (fun X a s=>⟨Ext X,?_,?_⟩)
 ·exact sY
 have p:∀V,Ext X V->CC V Q.heap.size (0+0) (iV x.least):=fun V e=>(Blk.E h (a.Q e) O).cell rfl;have q:∀V,Ext X V->CC V Q.heap.size (0+1) (iV x.most):=fun V e=>(Blk.E h (a.Q e) O).cell rfl;have i:∀V,Ext X V->CC V Q.heap.size (0+2) (iV x.val):=fun V e=>(Blk.E h (a.Q e) O).cell rfl;have j:∀V,Ext X V->CC V Q.heap.size (0+3) (iV x.bound):=fun V e=>(Blk.E h (a.Q e) O).cell rfl;have l:∀V,Ext X V->CC V b (o+2) (iV f.val):=fun V e=>(a.Q e).cell u O;have S:∀V,Ext X V->CC V b (o+3) (iV f.bound):=fun V e=>(a.Q e).cell N O;have k:∀V,Ext X V->CC V b (o+4) (.slice r f.args.length g):=fun V e=>(a.Q e).cell n O;refine D_R rfl rfl (fun W I=>Aq rfl Z3) (D_R rfl rfl (fun W I=>A7 rfl Z3) (D_R rfl rfl (fun W I=>AV rfl Z3) (D_R rfl rfl (fun W I=>AQ rfl (l W I) Z3) (PH rfl rfl rfl rfl U (D_R rfl rfl (fun W I=>AH rfl Z3) (D_R rfl rfl (fun W I=>AE rfl (Aq rfl Z3)) (D_R rfl rfl (fun W I=>AE rfl (A7 rfl Z3)) (D_R rfl rfl (fun W I=>AE rfl (AV rfl Z3)) (D_R rfl rfl (fun W I=>AE rfl (AQ rfl (l W I) Z3)) (D_R rfl rfl (fun W I=>AE rfl (AV rfl Z3)) (D_R rfl rfl (fun W I=>AE rfl (AQ rfl (i W I) Z3)) (SP rfl rfl rfl rfl U (D_R rfl rfl (fun W I=>BJ rfl (AH rfl Z3)) (D_R rfl rfl (fun W I=>AH rfl Z3) (D_R rfl rfl (fun W I=>AE rfl (Aq rfl Z3)) (D_R rfl rfl (fun W I=>AE rfl (A7 rfl Z3)) (D_R rfl rfl (fun W I=>AE rfl (AV rfl Z3)) (D_R rfl rfl (fun W I=>AE rfl (AQ rfl (S W I) Z3)) (PH rfl rfl rfl rfl U (D_R rfl rfl (fun W I=>BJ rfl (AH rfl Z3)) (D_R rfl rfl (fun W I=>AH rfl Z3) (D_R rfl rfl (fun W I=>AE rfl (Aq rfl Z3)) (D_R rfl rfl (fun W I=>AE rfl (A7 rfl Z3)) (D_R rfl rfl (fun W I=>AE rfl (AV rfl Z3)) (D_R rfl rfl (fun W I=>AE rfl (AQ rfl (S W I) Z3)) (D_R rfl rfl (fun W I=>AE rfl (AV rfl Z3)) (D_R rfl rfl (fun W I=>AE rfl (AQ rfl (j W I) Z3)) (SP rfl rfl rfl rfl U (D_R rfl rfl (fun W I=>BJ rfl (AH rfl Z3)) (Cy ?_))))))))))))))))))))))))))))));clear p q i j l S k;replace t:=a.cell t O;replace h:=Blk.E h a O;replace m:=m.Q a;obtain⟨P,H,xv,M,L,xp,F,xo⟩:=x;cases L with
 |true=>
  refine nY ?_;(refine AN (AV rfl (AQ rfl (Blk.cell rG rF) ?_)))
  refine nX ?_;refine AN (Aq rfl (A7 rfl (AV rfl (AQ rfl rG ?_))));refine AD (Jr f.name X (G.E m O)) rfl ?_;rintro _ _⟨rfl,rfl⟩;refine AT (AH rfl ?_);refine nX ?_;exact AC rfl ⟨rfl,m⟩
 |false=>
  refine nY ?_;(refine AN (AV rfl (AQ rfl (Blk.cell rG rF) ?_)))
  refine nY ?_;(refine AN (Aq rfl (A7 rfl (AV rfl (AQ rfl rG ?_))))<;>refine CZ rfl rfl (fun T=>?_) (fun T=>?_)<;>refine AT (AH rfl ?_))
  ·refine gR ?_;exact⟨show Value.bool true=_ by simp[T],m⟩
  ·refine gR ?_;exact⟨show Value.bool false=_ by simp[T],m⟩
def Xj:∀(f:Fml)(j:Bool)(x:Nd),x∈CW j f->szF x.1<=szF f
 | .mk op nm v b args,j,x,h=>by
  simp only[CW,BI]at h;rcases h with rfl|h
  ·exact AO _
  ·have:=preL_sz args _ x h;simp only[szF];omega
where preL_sz:∀(l:LF)(j:Bool)(x:Nd),x∈B9 j l->szF x.1<=szL l
 | [],_,_,h=>by cases h
 |f::l,j,x,h=>by
  simp only[B9,DM]at h;simp only[szL];rcases h with h|h
  ·have:=Xj f j x h;omega
  ·have:=preL_sz l j x h;omega
def dy{k S:Fr->DS->World->Prop}(h:∀f ds w,k f ds w->S f ds w)(e:Exit)(f:Fr)(ds:DS)(w:World)(P:Iy k e f ds w):Iy S e f ds w:=by
 cases e<;>delta Iy at P⊢
 ·exact h _ _ _ P
 all_goals exact P
def qj(D:Nat)(W:World):Bool->CQ
 |true=>fun e _ _ Z=>e=.normal/\Ext W Z
 |false=>fun e _ _ Z=>e=.ret/\Keep [D] W Z/\Blk Z D 4 [.bool false]
def Np{n:Nat}{Q:CQ}{g:Operand}{A:List Nat}{a0 body:Code}{f:Fr}{ds:DS}{w:World}(G:Nd->Bool){a r b o:Nat}{F:Fml}
  (hv:ev f g=.func (.func 205) #[] #[pt r])(b1:(A.all (fun t=>Nat.blt t n)&&(D9 n true a0&&D9 n true body))=true)(b0:A.length=2)
  (y:Blk w a 4 [.bool false])(a1:Blk w r 89 [.pointer (sn b o)])(hF:PF (fun b=>b≠a) w b o F)(hG:GF w)(hN:10<=a)(hd:dpF F<=5000)
  (a9:∀(l q m:Nat)(x:Fml)(i:Bool)(W:World),szF x<=szF F->WC Zp ⟨n,some l⟩ a0 (Iy fun f' a2 w'=>w'=W/\∀p,Ext w p->PF (fun b=>b≠a) p q m x->Blk p a 4 [.bool false]->WC Zp ⟨n,some l⟩ body (qj a p (G (x,i))) f' a2 p) (ovz (A.zip [.pointer (sn q m),.bool i]) f) [] W)
  (a3:∀W,Keep [a] w W->Blk W a 4 [.bool false]->W.heap[w.heap.size]?=some (.deferred (some []))->Q (if(CW false F).all G then .normal else .ret) f ({target:=.collected w.heap.size,args:=#[]}::ds) W):
  WC Zp ⟨n,none⟩ (.rangeFunc g A.toArray a0 body) Q f ds w:=by
 have b6:=y.lt;refine Me [] [pt r] hv b1 fun a7 Bsy a6 N I d s1 m1 r1=>?_;replace y:=y.E d O;replace a1:=a1.E d O;have a8:=(hF.lt.E d (fun _ _=>by simp)).mono (ok':=fun b=>b∉[a,w.heap.size+1]/\b<N.heap.size) (fun x V=>by have:=V.2;simp;omega);obtain⟨T,K⟩:∃T:List Nd->World->Prop,∀L W,T L W↔(L.all G=true/\Ext w W/\Blk W a 4 [.bool false]/\a7 W/\W.heap[w.heap.size]?=some (.deferred (some []))/\N.heap.size<=W.heap.size):=⟨_,fun _ _=>Ho⟩;obtain⟨D,hD⟩:∃D:List Nd->World->Prop,∀L W,D L W↔(L.all G=false/\Keep [a] w W/\Blk W a 4 [.bool false]/\a6 .ret W/\W.heap[w.heap.size]?=some (.deferred (some []))/\N.heap.size<=W.heap.size):=⟨_,fun _ _=>Ho⟩
 have H:NodesR (.func (.yield (w.heap.size+1)) #[] #[]) [a,w.heap.size+1] N.heap.size (CW false F) T D:=by
  refine⟨⟨_,rfl⟩,fun x V=>by simp at V;omega,fun C k hY=>?_,fun{L W q m x i}C hp hP=>?_⟩
  ·obtain⟨s,X,z,c,B,j5⟩:=(K _ _).1 C;exact(K _ _).2 ⟨s,X.E k (fun x V=>by have:=hY x V;omega),z.E k (fun h=>by have:=hY _ h;omega),I.rdy c k (fun h=>by have:=hY _ h;omega),(k.block _ U (fun h=>by have:=hY _ h;omega)).Q B,Az j5 k.size⟩
  ·obtain⟨s,X,z,c,B,j5⟩:=(K _ _).1 C;have b2:=Xj F false (x,i) (hP.subset O);refine YldP.mono (R:=fun v Z=>Keep [a,w.heap.size+1] W Z/\((v=.bool true/\T (L++[(x,i)]) Z)\/(v=.bool false/\D (L++[(x,i)]) Z))) (Y:=fun _ _=>False) (I.round c b0.symm ?_) (fun v Z h=>h) (fun _ _ h=>h);refine IC _ (dy fun f' a2 w' hh=>?_) _ _ _ (a9 (w.heap.size+1) q m x i W b2);obtain⟨rfl,hh⟩:=hh;refine⟨c,fun p S s2 y2=>?_⟩;have e2:=X.E S O;have y:=z.E S rE;refine IC _ (fun e b5 b4 W3 hq=>?_) _ _ _ (hh p e2 ((hp.E S (fun b hb=>by have:=hb.1;simp at this⊢;omega)).mono fun b hb=>by have:=hb.1;simp at this;omega) y);have a5:Keep [a,w.heap.size+1] w' p:=S.mono (fun x V=>by simp at V;simp[V]);have a4:=(S.block _ U O).Q B;have z2:=S.size;cases hg:G (x,i)with
   |true=>
    rw[hg]at hq;obtain⟨rfl,j⟩:=hq;have z3:=j.size;have y3:=I.bsy y2 j O;refine M4 y3 fun W4 E s4 y4=>⟨(a5.ext j).Q E (fun x V _=>by simp at V;simp[V]),.inl ⟨rfl,(K _ _).2 ⟨by simp[s,hg],(e2.Q j).E E O,(y.E j O).E E rE,y4,(E.block _ U O).Q ((j.block _ U O).Q a4),by omega⟩⟩⟩
   |false=>
    rw[hg]at hq;obtain⟨rfl,j,b3⟩:=hq;have z3:=j.size;have y3:=I.bsy y2 j rE;refine Qn y3 fun W4 E s4 y4=>⟨(a5.Q j (fun x V _=>by simp at V;simp[V])).Q E (fun x V _=>by simp at V;simp[V]),.inr ⟨rfl,(hD _ _).2 ⟨by simp[hg],(e2.any.Q j (fun _ h _=>h)).Q E (fun x V h=>by simp at V;omega),b3.E E rE,y4,(E.block _ U O).Q ((j.block _ U rE).Q a4),by omega⟩⟩⟩
 refine Fn.mono (dP N r b o F H a1 a8 (hG.ext d) U hd ((K _ _).2 ⟨rfl,d,y,r1,m1,AO _⟩) (fun x V=>by simp at V;omega)) ?_;rintro v w8⟨_,C|⟨M,hM,_,hd⟩⟩
 ·obtain⟨s,X,z,c,B,j5⟩:=(K _ _).1 C;refine .inl ⟨c,fun P u s9=>?_⟩;have:=a3 P ((X.any.Q u (fun x V h=>by simp at V;omega)):Keep [a] w P) (z.E u rE) ((u.block _ U O).Q B);rw[s]at this;exact this
 ·obtain⟨s,X,z,c,B,j5⟩:=(hD _ _).1 hd;refine .inr ⟨.ret,c,fun P u s9=>?_⟩;have:=a3 P ((X.Q u (fun x V h=>by simp at V;omega)):Keep [a] w P) (z.E u rE) ((u.block _ U O).Q B)
  rw[show(CW false F).all G=false by
   rw[<-EK,Bu];intro h;rw[<-EK,Bu]at s;exact s fun x V=>h x (hM.subset V)]at this
  unfold LC;exact this
def NF(x:Nd):Bool:= !(Be x.1.op).future
def Jf(x:Nd):Bool:= !((Be x.1.op).future&&x.2)
def KM(f:Fml):Bool:=(CW false f).all NF
def KQ(f:Fml):Bool:=(CW false f).all Jf
def Fy(f:Fml):Bool:=decide (szF f<=60)&&decide (dpF f<=20)&&(CW false f).all fun x=>Ej x.1
def iw(w:World)(v:Value)(f:Fml)(K:FAt AL w v f)(z:GF w)(hN:10<=w.heap.size)(M:dpF f<=5000):Fn Zp 203 [v] w fun u w'=>u=.bool (KM f)/\Ext w w':=by
 have P:=K.lt;obtain⟨k,rfl,G,a0⟩:=K.cells;refine HN func203 rfl ntmps203 nlr rD (go ?_);refine Ac (L:=k) rfl (fun Q D=>?_);refine Ai (fun r R=>go ?_);have z1:=D.size;have z2:=R.size;have q:=D.D.E R.E O;have t:Blk r Q.heap.size 4 [.bool false]:=R.D;have m:=D.E.Q R.E;have e:PF (fun b=>b≠Q.heap.size) r w.heap.size 0 f:=⟨by omega,k,G,q.cells,(P.ext m).mono fun x V=>by have:=V.2;omega⟩;refine gC (Of r w.heap.size 0) ?_;rintro _ w4⟨rfl,a⟩;refine go ?_;refine Np NF rfl rD rfl (t.E a.E O) a.D (e.E a.E (fun _ _=>by simp)) (z.ext (m.Q a.E)) U M (fun l b' o' x i W a1=>?_) (fun W T p F=>?_)
 ·refine go ?_;refine⟨rfl,fun H A V E=>?_⟩;have S:=z.ext ((m.Q a.E).Q A);refine go ?_;have c0:=V.opc;refine gC (MJ H x.op S) ?_;rintro _ W3⟨rfl,B⟩;refine go ?_;refine CL (cs:=DO (Be x.op)) rfl rfl rF (Jw _) (fun W4 I=>go ?_);have j:=I.D;have n:=B.Q I.E;have C:NF (x,i)= !(Be x.op).future:=rfl;rw[C];generalize Be x.op=y at j⊢;obtain⟨xl,xm,xv,xb,xn,xp,Z,xo⟩:=y;cases Z with
  |true=>
   exact uG
  |false=>
   refine go ?_;exact⟨rfl,n⟩
 ·have z4:=a.size;unfold KM;have s:Ext w W:=(m.Q a.E).E T (fun x V=>by simp at V;omega);cases C:(CW false f).all NF with
  |true=>
   exact tJ
  |false=>
   exact uA
def mH(w:World)(v:Value)(f:Fml)(K:FAt AL w v f)(z:GF w)(hN:10<=w.heap.size)(M:dpF f<=5000):Fn Zp 97 [v] w fun u w'=>u=.bool (KQ f)/\Ext w w':=by
 have P:=K.lt;obtain⟨k,rfl,G,a0⟩:=K.cells;refine HN func97 rfl ntmps97 nlr rD (go ?_);refine Ac (L:=k) rfl (fun Q D=>?_);refine Ai (fun r R=>go ?_);have z1:=D.size;have z2:=R.size;have q:=D.D.E R.E O;have t:Blk r Q.heap.size 4 [.bool false]:=R.D;have m:=D.E.Q R.E;have e:PF (fun b=>b≠Q.heap.size) r w.heap.size 0 f:=⟨by omega,k,G,q.cells,(P.ext m).mono fun x V=>by have:=V.2;omega⟩;refine gC (Of r w.heap.size 0) ?_;rintro _ w4⟨rfl,a⟩;refine go ?_;refine Np Jf rfl rD rfl (t.E a.E O) a.D (e.E a.E (fun _ _=>by simp)) (z.ext (m.Q a.E)) U M (fun l b' o' x i W a1=>?_) (fun W T p F=>?_)
 ·refine go ?_;refine⟨rfl,fun H A V E=>?_⟩;have S:=z.ext ((m.Q a.E).Q A);refine go ?_;have c0:=V.opc;refine gC (MJ H x.op S) ?_;rintro _ W3⟨rfl,B⟩;refine go ?_;refine CL (cs:=DO (Be x.op)) rfl rfl rF (Jw _) (fun W4 I=>go ?_);have j:=I.D;have n:=B.Q I.E;have C:Jf (x,i)= !((Be x.op).future&&i):=rfl;rw[C];generalize Be x.op=y at j⊢;obtain⟨xl,xm,xv,xb,xn,xp,Z,xo⟩:=y;cases Z<;>cases i
  case true.true=>
   exact uG
  all_goals
   refine go ?_;exact⟨rfl,n⟩
 ·have z4:=a.size;unfold KQ;have s:Ext w W:=(m.Q a.E).E T (fun x V=>by simp at V;omega);cases C:(CW false f).all Jf with
  |true=>
   exact tJ
  |false=>
   exact uA
def Ui(w:World)(v:Value)(f:Fml)(K:FAt AL w v f)(z:GF w)(G:KY w)(Z:10<=w.heap.size):Fn Zp 96 [v] w fun u w'=>u=.bool (Fy f)/\Ext w w':=by
 have B:=K.lt;obtain⟨k,rfl,A,a1⟩:=K.cells;refine HN func96 rfl ntmps96 nlr rD (go ?_);refine Ac (L:=k) rfl (fun Q D=>?_);refine Ai (fun r R=>go ?_);have z1:=D.size;have z2:=R.size;have q:=D.D.E R.E O;have s:Blk r Q.heap.size 4 [.bool false]:=R.D;have m:=D.E.Q R.E;have e:PF (fun b=>b≠Q.heap.size) r w.heap.size 0 f:=⟨by omega,k,A,q.cells,(B.ext m).mono fun x V=>by have:=V.2;omega⟩;refine gC (RD r w.heap.size 0 f 60 20 U U ⟨by omega,k,A,q.cells,(B.ext m).mono fun x V=>by have:=V.2;omega⟩) ?_;rintro _ T⟨rfl,g⟩;unfold Fy;cases hsz:(decide (szF f<=60)&&decide (dpF f<=20))with
 |false=>
  refine go ?_;refine AW (v:=.bool false) rfl rfl rfl (s.E g O) O (fun N a=>go ?_);exact Et (CV rfl (a.D.cell (o:=0) rfl) ⟨rfl,(m.Q g).E a.E rE⟩)
 |true=>
 simp at hsz;refine gC (Of T w.heap.size 0) ?_;rintro _ w4⟨rfl,d⟩;refine go ?_;have z3:=g.size;refine Np (fun x=>Ej x.1) rfl rD rfl (s.E (g.Q d.E) O) d.D (e.E (g.Q d.E) (fun _ _=>by simp)) (z.ext ((m.Q g).Q d.E)) U U (fun l C M x i W a2=>?_) (fun W I p F=>?_)
 ·refine go ?_;refine⟨rfl,fun H E V S=>?_⟩;have y:=((m.Q g).Q d.E).Q E;have a0:=D8 x.args;have a3:=Bn x;refine gC (U5 H C M x (V.mono fun _ _=>trivial) (z.ext y) (G.E y O) U) ?_;rintro _ P⟨rfl,n⟩;show AF _ _ _ _ _ _ _ _;cases hp:Ej x with
  |false=>
   refine go ?_;refine AW (v:=.bool false) rfl rfl rfl (S.E n O) O (fun N a=>go ?_);exact⟨rfl,n.any.Q a.E (fun _ h _=>h),a.D⟩
  |true=>
   refine go ?_;exact⟨rfl,n⟩
 ·have z4:=d.size;have t:Ext w W:=((m.Q g).Q d.E).E I (fun x V=>by simp at V;omega);cases hp:(CW false f).all (fun x=>Ej x.1)with
  |true=>
   rw[AJ rfl];refine go ?_;refine AW (v:=.bool true) rfl rfl rfl p O (fun N a=>go ?_);refine GI ((a.E.block _ (FM.1 F).1 rE).Q F) fun X j c=>?_;exact Et (CV rfl ((a.D.E j rE).cell (o:=0) rfl) ⟨rfl,(t.E a.E (fun x V=>by simp at V;omega)).E j (fun x V=>by simp at V;omega)⟩)
  |false=>
   rw[AG O];refine go ?_;refine GI F fun X j c=>?_;exact Et (CV rfl ((p.E j rE).cell (o:=0) rfl) ⟨rfl,t.E j (fun x V=>by simp at V;omega)⟩)
def WE{w:World}{B:Nat}{v:Value}{N:LF}{r:Fml}{L0:List (LV)}{cs:LV}(h:w.ownsRow B 37 5 v (N.length+1) (L0.flatten++cs)):w.ownsRow B 37 5 v (N++[r]).length (L0++[cs]).flatten:=by
 rw[A9,FN];simpa using h
end
def CX:=@Bool.false_ne_true
section
variable {mk:Prop}[MK mk]
set_option maxHeartbeats 1000000 in
def Oe(w:World)(F b:Nat)(s:BS)(d op v:Int)(l:LU)(a3:F≠b)(hb:BAt w F s)(hs:EI s)(h0:s.2=false)(hd:0<=d)(hd2:d<=1000)
  (hc:Blk w b 37 [iV op,AA l,iV v,iV 0,nS]):
  Fn Zp 152 [pt F,pt b,iV d] w fun u w'=>Keep [F,b] w w'/\BAt w' F (lnB op v d s).2.2/\
   ∃r L,Blk w' b 37 [iV op,AA l,iV (lnB op v d s).1,iV 0,r]/\w'.ownsRow w.heap.size 37 5 r (lnB op v d s).2.1.length L.flatten/\∀ok,FsAt ok w' L (lnB op v d s).2.1:=by
 have a9:=hc.lt;have a8:=hb.lt;unfold lnB;refine AM func152 rfl ntmps152 ?_;refine gC (Ks w F s (d-1) hb hs) ?_;rintro _ w1⟨rfl,k1,b1⟩;have c1:=hc.E k1 (by simpa using FE a3);have a0:Keep [F,b] w w1:=k1.mono fun x h=>by simp at h;simp[h]
 cases ht:(tkB s (d-1)).2 with
 |true=>
  refine go ?_;simp only[DN];exact Oc rfl ⟨a0,b1,_,[],c1,⟨rfl,.inl ⟨rfl,rfl⟩⟩,fun ok=>FsAt.nil ok _⟩
 |false=>
  rw[AG CX];refine go ?_;by_cases h9:op=9
  ·rw[AG (show¬op=17 by omega),AJ (show op=9\/op=16 from .inl h9)];refine go ?_;refine Ab (rd 0 3 (.read 4 (.read 5 (.alt 3 (.read 6 (.alt 7 (.alt 8 (.read 9 (.read 11 (.read 12 (.alt 10 (.alt 13 .done .stop) (.alt 13 (.alt 10 .done .stop) .stop))))) .stop) .stop)) (.alt 7 (.alt 3 (.read 6 (.alt 8 (.read 9 (.read 11 (.read 12 (.alt 10 (.alt 13 .done .stop) (.alt 13 (.alt 10 .done .stop) .stop))))) .stop)) .stop) .stop))))) AX rD (fun wd m ed=>⟨fun _=>True,?_,?_⟩)
   ·trivial
   have j:=(a0).ext m;have D:=(c1).E m O;have A:=(b1).E m O;refine go ?_
   refine JP (α:=Value) (.read 9 (.read 11 (.read 12 (.alt 10 (.alt 13 .done .stop) (.alt 13 (.alt 10 .done .stop) .stop))))) (fun r=>[(32,pt b),(37,.agg #[iV 1,AA [],iV 0,iV 0,nS]),(38,iV ((0:Nat):Int)),(40,r)])
    (fun r W=>Keep [F,b] w W/\Blk W b 37 [iV op,AA l,iV v,iV 0,nS]/\BAt W F (tkB s (d-1))/\W.ownsRow w.heap.size 37 5 r 1 zero5) ?_ (fun T=>?_)
   ·rintro r f' W⟨Q,q,H,X⟩;obtain⟨g,N,M,rfl,P,C,hM,Z,S⟩:=Mn (n:=0) (xs:=[]) (cs:=[iV 1,AA [],iV 0,iV 0,nS]) X rfl rfl q (fun g P=>by have:=(Ao X P).1;omega);have a1:g≠F:=by have:=hb.lt;omega
    have V:g≠b:=by omega
    refine go ?_;refine D_A rfl ?_ (D_E rfl ?_)
    ·refine Aa (o:=0+0*5) (cs:=[iV 1,AA [],iV 0,iV 0,nS]) rfl rfl rfl (Ak rfl) C U (fun f K=>?_);refine wNl trivial ?_;refine gE ?_;refine AW rfl rfl rfl (q.E K.E (by simpa using V.symm)) O (fun c E=>?_);refine wNl trivial ?_;obtain⟨p,k,t⟩:=Z f c K E;exact sU
    ·refine AW rfl rfl rfl q O (fun f K=>?_);refine wNl trivial ?_;refine gE ?_;refine Aa (o:=0+0*5) (cs:=[iV 1,AA [],iV 0,iV 0,nS]) rfl rfl rfl (Ak rfl) (C.E K.E rl) U (fun c E=>?_);refine wNl trivial ?_;obtain⟨p,k,t⟩:=S f c K E;exact sU
   refine D_A rfl ?_ (D_E rfl ?_)
   ·refine AQ rfl (D.cell (o:=4) rfl) ?_;refine wNl trivial ?_;refine gE ?_;refine Ay (out:=zero5) rfl U rP (fun w3 a=>?_);exact sJ
   ·refine Ay (out:=zero5) rfl U rP (fun w3 a=>?_);refine wNl trivial ?_;refine gE ?_;have i:=D.E a.E O;refine AQ rfl (i.cell (o:=4) rfl) ?_;exact sJ
  by_cases a6:op=16
  ·rw[AG (show¬op=17 by omega),AJ (show op=9\/op=16 from .inr a6)];refine go ?_;refine Ab (rd 0 3 (.read 4 (.read 5 (.alt 3 (.read 6 (.alt 7 (.alt 8 (.read 9 (.read 11 (.read 12 (.alt 10 (.alt 13 .done .stop) (.alt 13 (.alt 10 .done .stop) .stop))))) .stop) .stop)) (.alt 7 (.alt 3 (.read 6 (.alt 8 (.read 9 (.read 11 (.read 12 (.alt 10 (.alt 13 .done .stop) (.alt 13 (.alt 10 .done .stop) .stop))))) .stop)) .stop) .stop))))) AX rD (fun wd m ed=>⟨fun _=>True,?_,?_⟩)
   ·trivial
   have j:=(a0).ext m;have D:=(c1).E m O;have A:=(b1).E m O;refine go ?_
   refine JP (α:=Value) (.read 9 (.read 11 (.read 12 (.alt 10 (.alt 13 .done .stop) (.alt 13 (.alt 10 .done .stop) .stop))))) (fun r=>[(32,pt b),(37,.agg #[iV 1,AA [],iV 0,iV 0,nS]),(38,iV ((0:Nat):Int)),(40,r)])
    (fun r W=>Keep [F,b] w W/\Blk W b 37 [iV op,AA l,iV v,iV 0,nS]/\BAt W F (tkB s (d-1))/\W.ownsRow w.heap.size 37 5 r 1 zero5) ?_ (fun T=>?_)
   ·rintro r f' W⟨Q,q,H,X⟩;obtain⟨g,N,M,rfl,P,C,hM,Z,S⟩:=Mn (n:=0) (xs:=[]) (cs:=[iV 1,AA [],iV 0,iV 0,nS]) X rfl rfl q (fun g P=>by have:=(Ao X P).1;omega);have a1:g≠F:=by have:=hb.lt;omega
    have V:g≠b:=by omega
    refine go ?_;refine D_A rfl ?_ (D_E rfl ?_)
    ·refine Aa (o:=0+0*5) (cs:=[iV 1,AA [],iV 0,iV 0,nS]) rfl rfl rfl (Ak rfl) C U (fun f K=>?_);refine wNl trivial ?_;refine gE ?_;refine AW rfl rfl rfl (q.E K.E (by simpa using V.symm)) O (fun c E=>?_);refine wNl trivial ?_;obtain⟨p,k,t⟩:=Z f c K E;exact sU
    ·refine AW rfl rfl rfl q O (fun f K=>?_);refine wNl trivial ?_;refine gE ?_;refine Aa (o:=0+0*5) (cs:=[iV 1,AA [],iV 0,iV 0,nS]) rfl rfl rfl (Ak rfl) (C.E K.E rl) U (fun c E=>?_);refine wNl trivial ?_;obtain⟨p,k,t⟩:=S f c K E;exact sU
   refine D_A rfl ?_ (D_E rfl ?_)
   ·refine AQ rfl (D.cell (o:=4) rfl) ?_;refine wNl trivial ?_;refine gE ?_;refine Ay (out:=zero5) rfl U rP (fun w3 a=>?_);exact sJ
   ·refine Ay (out:=zero5) rfl U rP (fun w3 a=>?_);refine wNl trivial ?_;refine gE ?_;have i:=D.E a.E O;refine AQ rfl (i.cell (o:=4) rfl) ?_;exact sJ
  rw[AG (show¬(op=9\/op=16) by omega)];by_cases a2:op=17
  ·rw[AJ a2];refine go ?_;refine AW (v:=iV 1) rfl rfl rfl c1 O (fun w2 p2=>?_);have a5:Blk w2 b 37 [iV op,AA l,iV 1,iV 0,nS]:=p2.D;have a4:=b1.E p2.E (by simpa using a3);have a7:Keep [F,b] w w2:=a0.Q p2.E (fun x h _=>by simp at h;simp[h]);refine go ?_;refine Ab (rd 0 3 (.read 4 (.read 5 (.alt 3 (.read 6 (.alt 7 (.alt 8 (.read 9 (.read 11 (.read 12 (.alt 10 (.alt 13 .done .stop) (.alt 13 (.alt 10 .done .stop) .stop))))) .stop) .stop)) (.alt 7 (.alt 3 (.read 6 (.alt 8 (.read 9 (.read 11 (.read 12 (.alt 10 (.alt 13 .done .stop) (.alt 13 (.alt 10 .done .stop) .stop))))) .stop)) .stop) .stop))))) AX rD (fun wd m ed=>⟨fun _=>True,?_,?_⟩)
   ·trivial
   have j:=(a7).ext m;have D:=(a5).E m O;have A:=(a4).E m O;refine go ?_
   refine JP (α:=Value) (.read 9 (.read 11 (.read 12 (.alt 10 (.alt 13 .done .stop) (.alt 13 (.alt 10 .done .stop) .stop))))) (fun r=>[(32,pt b),(37,.agg #[iV 2,AA [],iV 0,iV 0,nS]),(38,iV ((0:Nat):Int)),(40,r)])
    (fun r W=>Keep [F,b] w W/\Blk W b 37 [iV op,AA l,iV 1,iV 0,nS]/\BAt W F (tkB s (d-1))/\W.ownsRow w.heap.size 37 5 r 1 zero5) ?_ (fun T=>?_)
   ·rintro r f' W⟨Q,q,H,X⟩;obtain⟨g,N,M,rfl,P,C,hM,Z,S⟩:=Mn (n:=0) (xs:=[]) (cs:=[iV 2,AA [],iV 0,iV 0,nS]) X rfl rfl q (fun g P=>by have:=(Ao X P).1;omega);have a1:g≠F:=by have:=hb.lt;omega
    have V:g≠b:=by omega
    refine go ?_;refine D_A rfl ?_ (D_E rfl ?_)
    ·refine Aa (o:=0+0*5) (cs:=[iV 2,AA [],iV 0,iV 0,nS]) rfl rfl rfl (Ak rfl) C U (fun f K=>?_);refine wNl trivial ?_;refine gE ?_;refine AW rfl rfl rfl (q.E K.E (by simpa using V.symm)) O (fun c E=>?_);refine wNl trivial ?_;obtain⟨p,k,t⟩:=Z f c K E;exact sW
    ·refine AW rfl rfl rfl q O (fun f K=>?_);refine wNl trivial ?_;refine gE ?_;refine Aa (o:=0+0*5) (cs:=[iV 2,AA [],iV 0,iV 0,nS]) rfl rfl rfl (Ak rfl) (C.E K.E rl) U (fun c E=>?_);refine wNl trivial ?_;obtain⟨p,k,t⟩:=S f c K E;exact sW
   refine D_A rfl ?_ (D_E rfl ?_)
   ·refine AQ rfl (D.cell (o:=4) rfl) ?_;refine wNl trivial ?_;refine gE ?_;refine Ay (out:=zero5) rfl U rP (fun w3 a=>?_);exact sJ
   ·refine Ay (out:=zero5) rfl U rP (fun w3 a=>?_);refine wNl trivial ?_;refine gE ?_;have i:=D.E a.E O;refine AQ rfl (i.cell (o:=4) rfl) ?_;exact sJ
  ·rw[AG a2];refine go ?_;refine Ab (rd 0 3 (.read 4 (.read 5 (.alt 3 (.read 6 (.alt 7 (.alt 8 (.read 9 (.read 11 (.read 12 (.alt 10 (.alt 13 .done .stop) (.alt 13 (.alt 10 .done .stop) .stop))))) .stop) .stop)) (.alt 7 (.alt 3 (.read 6 (.alt 8 (.read 9 (.read 11 (.read 12 (.alt 10 (.alt 13 .done .stop) (.alt 13 (.alt 10 .done .stop) .stop))))) .stop)) .stop) .stop))))) AX rD (fun wd m ed=>⟨fun _=>True,?_,?_⟩)
   ·trivial
   have j:=(a0).ext m;have D:=(c1).E m O;have A:=(b1).E m O;refine go ?_
   refine JP (α:=Value) (.read 9 (.read 11 (.read 12 (.alt 10 (.alt 13 .done .stop) (.alt 13 (.alt 10 .done .stop) .stop))))) (fun r=>[(32,pt b),(37,.agg #[iV 2,AA [],iV 0,iV 0,nS]),(38,iV ((0:Nat):Int)),(40,r)])
    (fun r W=>Keep [F,b] w W/\Blk W b 37 [iV op,AA l,iV v,iV 0,nS]/\BAt W F (tkB s (d-1))/\W.ownsRow w.heap.size 37 5 r 1 zero5) ?_ (fun T=>?_)
   ·rintro r f' W⟨Q,q,H,X⟩;obtain⟨g,N,M,rfl,P,C,hM,Z,S⟩:=Mn (n:=0) (xs:=[]) (cs:=[iV 2,AA [],iV 0,iV 0,nS]) X rfl rfl q (fun g P=>by have:=(Ao X P).1;omega);have a1:g≠F:=by have:=hb.lt;omega
    have V:g≠b:=by omega
    refine go ?_;refine D_A rfl ?_ (D_E rfl ?_)
    ·refine Aa (o:=0+0*5) (cs:=[iV 2,AA [],iV 0,iV 0,nS]) rfl rfl rfl (Ak rfl) C U (fun f K=>?_);refine wNl trivial ?_;refine gE ?_;refine AW rfl rfl rfl (q.E K.E (by simpa using V.symm)) O (fun c E=>?_);refine wNl trivial ?_;obtain⟨p,k,t⟩:=Z f c K E;exact sW
    ·refine AW rfl rfl rfl q O (fun f K=>?_);refine wNl trivial ?_;refine gE ?_;refine Aa (o:=0+0*5) (cs:=[iV 2,AA [],iV 0,iV 0,nS]) rfl rfl rfl (Ak rfl) (C.E K.E rl) U (fun c E=>?_);refine wNl trivial ?_;obtain⟨p,k,t⟩:=S f c K E;exact sW
   refine D_A rfl ?_ (D_E rfl ?_)
   ·refine AQ rfl (D.cell (o:=4) rfl) ?_;refine wNl trivial ?_;refine gE ?_;refine Ay (out:=zero5) rfl U rP (fun w3 a=>?_);exact sJ
   ·refine Ay (out:=zero5) rfl U rP (fun w3 a=>?_);refine wNl trivial ?_;refine gE ?_;have i:=D.E a.E O;refine AQ rfl (i.cell (o:=4) rfl) ?_;exact sJ
end
end Go.Proofs.YtjbocjodncbogaaGreatDoor
