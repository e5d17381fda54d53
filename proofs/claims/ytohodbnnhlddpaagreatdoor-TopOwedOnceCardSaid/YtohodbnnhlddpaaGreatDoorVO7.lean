/- TopOwedOnce, part 7 of 14: rules, lemmas, walks. Conditions: none. -/
import Derived.Test.YtohodbnnhlddpaaGreatDoorVO6
import Derived.Test.YtohodbnnhlddpaaGreatDoorShq
import Derived.Maps.RangeRun
namespace Go.Proofs.YtohodbnnhlddpaaGreatDoor
open Go.RowKit
set_option linter.unusedVariables false
section
variable {mk:Prop}[MK mk]
def BE:List Sgn->Int
 | []=>1
 |x::l=>BE l*x.size
def okI(l:List Sgn)(i:Nat):Bool:=match l[i]? with
 |some x=>CH x.name&&decide (2<=x.size)&&decide (x.size<=4)&&(l.take i).all (fun y=>decide (y.name≠x.name))
 |none=>true
def A5(l:List Sgn):Bool:=decide (1<=l.length)&&decide (l.length<=6)&&(List.range l.length).all (okI l)&&decide (BE l<=64)
theorem prodS_snoc:∀(l:List Sgn)(x:Sgn),BE (l++[x])=BE l*x.size
 | [],x=>by simp[BE]
 |y::l,x=>by
  rw[List.cons_append,BE,prodS_snoc l x,BE,Int.mul_right_comm]
theorem prodS_take{l:List Sgn}{k:Nat}{x:Sgn}(h:l[k]?=some x):BE (l.take (k+1))=BE (l.take k)*x.size:=by
 rw[List.take_add_one,h,<-prodS_snoc];rfl
theorem DK{l:List Sgn}{i:Nat}{x:Sgn}(T:l[i]?=some x):okI l i=true↔CH x.name=true/\2<=x.size/\x.size<=4/\∀j y,j<i->l[j]?=some y->y.name≠x.name:=by
 unfold okI;rw[T];simp only[Bool.and_eq_true,decide_eq_true_eq,List.all_eq_true,and_assoc];refine and_congr_right fun _=>and_congr_right fun _=>and_congr_right fun _=>?_;constructor
 ·intro h j y z F;exact h y (List.mem_of_getElem? (by rw[List.getElem?_take,if_pos z];exact F))
 ·intro h y F;obtain⟨j,z⟩:=List.getElem?_of_mem F;rw[List.getElem?_take]at z
  split at z
  ·exact h j y Dz z
  ·cases z
theorem prodS_le:∀(l:List Sgn),(∀x∈l,2<=x.size/\x.size<=4)->l.length<=6->1<=BE l/\BE l<=(4:Int)^l.length
 | [],_,_=>by simp[BE]
 |x::l,h,hl=>by
  obtain⟨X,W⟩:=prodS_le l (fun y F=>h y (by simp[F])) (by simp at hl;omega);obtain⟨Q,z⟩:=h x O;simp only[BE,List.length_cons];constructor
  ·have:=Int.mul_le_mul X (show(1:Int)<=x.size by omega) U U;simpa using this
  ·rw[Int.pow_succ];exact Int.mul_le_mul W z U U
theorem pow_six{n:Nat}(h:n<=6):(4:Int)^n<=4096:=by
 have:n=0\/n=1\/n=2\/n=3\/n=4\/n=5\/n=6:=by omega
 rcases this with rfl|rfl|rfl|rfl|rfl|rfl|rfl<;>decide
theorem prodS_six{l:List Sgn}(h:∀i,i<l.length->okI l i=true){k:Nat}(P:k<=l.length)(V:l.length<=6):1<=BE (l.take k)/\BE (l.take k)<=4096:=by
 have X:=prodS_le (l.take k) (fun x T=>by
  obtain⟨i,H⟩:=List.getElem?_of_mem (List.mem_of_mem_take T);have:=(DK H).1 (h i (List.getElem?_eq_some_iff.1 H).1);exact⟨this.2.1,this.2.2.1⟩) EU
 have W:=pow_six (n:=(l.take k).length) EU;omega
theorem DP{l:List Sgn}(h:A5 l=true):1<=l.length/\l.length<=6/\(∀i,i<l.length->okI l i=true)/\BE l<=64:=by
 simp only[A5,Bool.and_eq_true,decide_eq_true_eq,List.all_eq_true,List.mem_range]at h;exact⟨h.1.1.1,h.1.1.2,h.1.2,h.2⟩
theorem valid_false{l:List Sgn}{i:Nat}(H:i<l.length)(h:okI l i=false):A5 l=false:=by
 cases hv:A5 l with
 |false=>rfl
 |true=>rw[(DP hv).2.2.1 i H]at h;cases h
set_option maxHeartbeats 1600000 in
theorem Dt(w:World)(v:Value)(l:List Sgn)(h:SlAt sgnR AV w v l)(hK:KY w):Fn Zp 55 [v] w fun u w'=>u=.bool (A5 l)/\Ext w w':=by
 obtain⟨a,c,L,rfl,hS,K⟩:=h;have b2:l.length<=9223372036854775807:=by obtain⟨_,_,r,Q,X,_⟩:=id hS;cases r;omega
 refine AG Tryz.func55 rfl Tryz.ntmps55 (go ?_);by_cases a4:1<=l.length/\l.length<=6
 case neg=>
  have r:A5 l=false:=by
   simp only[A5];rw[show(decide (1<=l.length)&&decide (l.length<=6))=false by rw[<-Bool.not_eq_true,Bool.and_eq_true,decide_eq_true_eq,decide_eq_true_eq];exact a4];rfl
  rw[r];by_cases h1:1<=l.length
  ·exact E8
  ·exact E8
 obtain⟨a7,a8⟩:=a4;refine go ?_;refine Ah (α:=Nat) (fun k=>[(0,.slice a l.length c),(3,.bool true),(4,iV (BE (l.take k))),(16,iV (l.length:Int)),(17,iV (k:Int))]) (fun k W=>k<=l.length/\Ext w W/\∀i,i<k->okI l i=true) (fun k=>l.length-k) 0 ⟨rfl,rfl,rfl,rfl,rfl,trivial⟩ ⟨by simp,Ext.refl _,fun i H=>by omega⟩ ?_;rintro k w1 f1⟨hk,g,N⟩;refine go ?_;by_cases B:k<l.length
 ·refine go ?_;obtain⟨x,T⟩:∃x,l[k]?=some x:=⟨_,List.getElem?_eq_getElem B⟩
  have E:∀W,Ext w W->∀j y,l[j]?=some y->∃b o,a=some ⟨b,o,none⟩/\W.cell? ⟨b,o+j*3+0,none⟩=some (AK y.name)/\W.cell? ⟨b,o+j*3+2,none⟩=some (iV y.size):=by
   intro W f j y F;have p:=(List.getElem?_eq_some_iff.1 F).1;obtain⟨A,a0⟩:∃A,L[j]?=some A:=⟨_,List.getElem?_eq_getElem (by rw[K.1];exact p)⟩;obtain rfl:A=sgnC y:=K.2 j A y a0 F;obtain⟨b,o,e,_,V⟩:=(hS.ext f).recs (K.ext f) (sz:=3) rfl a0 p;exact⟨b,o,e,V 0 _ rfl,V 2 _ rfl⟩
  obtain⟨b,o,rfl,d,D⟩:=E w1 g k x T;have s:okI l k=true↔_:=DK T
  have a5:=prodS_six (l:=l.take k) (fun i H=>by
   rw[List.length_take]at H;have a2:i<k:=by omega
   obtain⟨y,F⟩:∃y,l[i]?=some y:=⟨_,List.getElem?_eq_getElem U⟩;have b1:(l.take k)[i]?=some y:=by rw[List.getElem?_take,if_pos a2];exact F
   have:=(DK F).1 (N i a2);refine(DK b1).2 ⟨this.1,this.2.1,this.2.2.1,fun j z p m=>?_⟩;rw[List.getElem?_take,if_pos U]at m;exact this.2.2.2 j z p m) (Nat.le_refl _) EU
  rw[List.take_length]at a5;have b0:=prodS_take T;refine go ?_;refine AE (DL x.name w1 (hK.E g O)) rfl ?_;rintro _ _⟨rfl,rfl⟩;have t:okI l k=false->A5 l=false:=valid_false B;cases hnm:CH x.name with
  |false=>
   have S:=t (by rw[<-Bool.not_eq_true,s];simp[hnm]);refine go ?_;exact AB rfl ⟨by rw[S];rfl,g⟩
  |true=>
  refine go ?_;by_cases Z:2<=x.size
  case neg=>
   have S:=t (by rw[<-Bool.not_eq_true,s];simp[Z]);refine go ?_;exact AB rfl ⟨by rw[S];rfl,g⟩
  refine go ?_;by_cases G:x.size<=4
  case neg=>
   have S:=t (by rw[<-Bool.not_eq_true,s];simp[G]);refine go ?_;exact AB rfl ⟨by rw[S];rfl,g⟩
  refine go ?_;refine Ah (α:=Nat) (fun j=>[(0,.slice (some ⟨b,o,none⟩) l.length c),(3,.bool true),(4,iV (BE (l.take k))),(5,iV (k:Int)),(16,iV (l.length:Int)),(17,iV (k:Int)),(43,iV (k:Int)),(44,iV (j:Int))]) (fun j W=>j<=k/\Ext w W/\∀i y,i<j->l[i]?=some y->y.name≠x.name) (fun j=>k-j) 0 ⟨rfl,rfl,rfl,rfl,rfl,rfl,rfl,rfl,trivial⟩ ⟨by simp,g,fun i y H=>by omega⟩ ?_;clear d D g;rintro j w2 f2⟨p,n,a1⟩;refine go ?_;by_cases a3:j<k
  ·obtain⟨y,F⟩:∃y,l[j]?=some y:=⟨_,List.getElem?_eq_getElem U⟩;refine go ?_;generalize C:decide (y.name=x.name)=cc;repeat' first|refine AA ?_|refine Q_then ?_|refine C_seq ?_
   refine DF (α:=Unit) (fun _=>[(0,.slice (some ⟨b,o,none⟩) l.length c),(3,.bool true),(4,iV (BE (l.take k))),(5,iV (k:Int)),(16,iV (l.length:Int)),(17,iV (k:Int)),(43,iV (k:Int)),(44,iV (j:Int)),(57,.bool cc)]) (fun _ W=>Ext w W) ?_ ?_
   ·refine AX (rd 0 11 .done) An Dv (fun P I ed=>⟨Ext P,?_,?_⟩)
    ·exact Ew
    have Q:∀W,Ext P W->W.cell? ⟨b,o+j*3+0,none⟩=some (AK y.name):=fun W e=>by
     obtain⟨b',o',R,q,_⟩:=E W ((n.trans I).trans e) j y F;cases R;exact q
    have X:∀W,Ext P W->W.cell? ⟨b,o+k*3+0,none⟩=some (AK x.name):=fun W e=>by
     obtain⟨b',o',R,q,_⟩:=E W ((n.trans I).trans e) k x T;cases R;exact q
    ((apply D_R rfl rfl;(intro W f;refine Av rfl ?_;exact AA ⟨rfl,rfl,rfl⟩))<;>(apply D_R rfl rfl;(intro W f;refine AY rfl ?_;exact AA ⟨rfl,rfl,rfl⟩)))
    refine D_R rfl rfl (fun W f=>by refine Cd (k:=j) rfl rfl rfl U ?_;exact AA ⟨rfl,rfl,rfl⟩) ?_;((apply D_R rfl rfl;(intro W f;refine AD rfl ?_;exact AA ⟨rfl,rfl,rfl⟩))<;>(apply D_R rfl rfl;(intro W f;refine AL rfl (Q W f) ?_;exact AA ⟨rfl,rfl,rfl⟩))<;>(apply D_R rfl rfl;(intro W f;refine Av rfl ?_;exact AA ⟨rfl,rfl,rfl⟩))<;>(apply D_R rfl rfl;(intro W f;refine AY rfl ?_;exact AA ⟨rfl,rfl,rfl⟩)))
    refine D_R rfl rfl (fun W f=>by refine Cd (k:=k) rfl rfl rfl U ?_;exact AA ⟨rfl,rfl,rfl⟩) ?_;((apply D_R rfl rfl;(intro W f;refine AD rfl ?_;exact AA ⟨rfl,rfl,rfl⟩))<;>(apply D_R rfl rfl;(intro W f;refine AL rfl (X W f) ?_;exact AA ⟨rfl,rfl,rfl⟩)))
    ((refine D_seql rfl rfl rfl rfl (fun V=>?_) (fun V=>?_))<;>refine Bq ?_)
    ·have e:cc=true:=by rw[<-C];exact decide_eq_true Dz
     subst e;refine go ?_;exact Ao () ⟨rfl,rfl,rfl,rfl,rfl,rfl,rfl,rfl,rfl,trivial⟩ (n.trans I)
    ·have e:cc=false:=by rw[<-C];exact decide_eq_false Dz
     subst e;refine go ?_;exact Ao () ⟨rfl,rfl,rfl,rfl,rfl,rfl,rfl,rfl,rfl,trivial⟩ (n.trans I)
   rintro _ w3 f3 k3;cases cc with
   |true=>
    have S:=t (by
     rw[<-Bool.not_eq_true,s];exact fun q=>q.2.2.2 j y a3 F (of_decide_eq_true C))
    refine go ?_;exact AB rfl ⟨by rw[S];rfl,k3⟩
   |false=>
    refine go ?_;refine⟨j+1,⟨rfl,⟨rfl,rfl,rfl,rfl,rfl,rfl,rfl,?_,trivial⟩,⟨a3,k3,fun i z H m=>?_⟩⟩,by omega⟩
    ·show iV ((j:Int)+1)=_;rw[Int.natCast_add];rfl
    ·by_cases M:i=j
     ·subst M;rw[F]at m;cases m;exact of_decide_eq_false C
     ·exact a1 i z U m
  ·obtain rfl:j=k:=by omega
   have a9:okI l j=true:=s.2 ⟨hnm,Z,G,a1⟩;obtain⟨_,_,R,d,D⟩:=E w2 n j x T;cases R;refine go ?_
   have b3:BE (l.take j)*x.size<=16384:=by
    have:=Int.mul_le_mul a5.2 G U U;omega
   have b4:0<=BE (l.take j)*x.size:=Int.mul_nonneg U U;refine go ?_;refine⟨j+1,⟨rfl,⟨rfl,rfl,?_,rfl,?_,trivial⟩,⟨B,n,fun i H=>?_⟩⟩,by omega⟩
   ·exact congrArg (Value.int .i64) b0.symm
   ·show iV ((j:Int)+1)=_;rw[Int.natCast_add];rfl
   ·by_cases M:i=j
    ·subst M;exact a9
    ·exact N i U
 ·obtain rfl:k=l.length:=by omega
  rw[List.take_length]
  have a6:(List.range l.length).all (okI l)=true:=by
   rw[List.all_eq_true];exact fun i H=>N i (List.mem_range.1 H)
  have r:A5 l=decide (BE l<=64):=by
   unfold A5;rw[a6,decide_eq_true a7,decide_eq_true a8];simp
  rw[r];refine go ?_;by_cases hp:BE l<=64
  ·refine go ?_;exact AB rfl ⟨by rw[decide_eq_true hp];rfl,g⟩
  ·refine go ?_;exact AB rfl ⟨by rw[decide_eq_false hp];rfl,g⟩
structure WtsR(yv:Value)(X:List Nat)(B:Nat)(l:List Sgn)(J:Nat->World->Prop)(D:World->Prop):Prop where
 fn:∃y,yv=.func (.yield y) #[] #[]
 E:∀{k:Nat}{W W':World}{Y:List Nat},J k W->Keep Y W W'->(∀y∈Y,B<=y)->J k W'
 step:∀{k:Nat}{W:World}{x:Sgn},J k W->l[k]?=some x->YldP Zp yv [iV (k:Int),iV (BE (l.take k))] W (fun v W'=>Keep X W W'/\((v=.bool true/\J (k+1) W')\/(v=.bool false/\D W'))) (fun _ _=>False)
theorem prod_bound{l:List Sgn}(q:A5 l=true){k:Nat}{x:Sgn}(T:l[k]?=some x):1<=BE (l.take k)/\BE (l.take k)<=4096/\2<=x.size/\x.size<=4/\0<=BE (l.take k)*x.size/\BE (l.take k)*x.size<=16384:=by
 obtain⟨X,V,c,_⟩:=DP q;have P:=(List.getElem?_eq_some_iff.1 T).1;have v:=prodS_six c (k:=k) U V;have R:=(DK T).1 (c k P);have W:=Int.mul_le_mul v.2 R.2.2.1 U U;exact⟨v.1,v.2,R.2.1,R.2.2.1,Int.mul_nonneg U U,by omega⟩
theorem SlAt.E{α:Type}{R:Rp α}{ok:Nat->Prop}{X:List Nat}{w w':World}{v:Value}{l:List α}(h:SlAt R ok w v l)(k:Keep X w w')(W:∀b,ok b->b∉X):SlAt R ok w' v l:=by
 obtain⟨a,c,L,e,d,f⟩:=h;exact⟨a,c,L,e,d.E k W,f.E k W⟩
theorem SlAt.lt{α:Type}{R:Rp α}{ok:Nat->Prop}{w:World}{v:Value}{l:List α}(q:0<R.size)(h:SlAt R ok w v l):SlAt R (fun b=>ok b/\b<w.heap.size) w v l:=by
 obtain⟨a,c,L,e,X,W⟩:=h;exact⟨a,c,L,e,Sl_ltR q X W,W.lt⟩
theorem SlAt.sig{ok:Nat->Prop}{w:World}{a:Option Addr}{n c:Nat}{l:List Sgn}{k:Nat}{x:Sgn}(h:SlAt sgnR ok w (.slice a n c) l)(T:l[k]?=some x):n=l.length/\∃b o,a=some ⟨b,o,none⟩/\ok b/\Cells w b (o+k*3) (sgnC x):=by
 obtain⟨X,f,L,e,j,d⟩:=h;cases e;have z:=(List.getElem?_eq_some_iff.1 T).1;obtain⟨y,N⟩:∃y,L[k]?=some y:=⟨_,List.getElem?_eq_getElem (by rw[d.1];exact z)⟩;obtain rfl:y=sgnC x:=d.2 k y x N T;obtain⟨b,o,e,S,V⟩:=j.recs d (sz:=3) rfl N z;exact⟨rfl,b,o,e,S,V⟩
theorem SlAt.len{α:Type}{R:Rp α}{ok:Nat->Prop}{w:World}{v:Value}{l:List α}(h:SlAt R ok w v l):∃a c,v=.slice a l.length c/\l.length<=9223372036854775807:=by
 obtain⟨a,c,L,rfl,j,_⟩:=h;refine⟨a,c,rfl,?_⟩;obtain⟨_,_,q,F,b,_⟩:=j;cases q;omega
theorem weights_ok(w:World)(v:Value)(K:v.oneCell'=true):Fn Zp 187 [v] w fun u w'=>u=.func (.func 242) #[] #[pt w.heap.size]/\New w w' 22 [v]:=by
 refine AG Tryz.func187 rfl Tryz.ntmps187 (go ?_);refine Ai (L:=[v]) (by cases v<;>simp_all [Value.cells,Value.oneCell',ev,argF]) (fun R E=>?_);refine go ?_;exact AB rfl ⟨rfl,E⟩
theorem weightsIt_ok{L:Value}{X:List Nat}{g:Nat->World->Prop}{D:World->Prop}(w:World)(M:Nat)(v:Value)(l:List Sgn)(H:WtsR L X w.heap.size l g D)(m:Blk w M 22 [v])(q:SlAt sgnR (fun b=>b∉X) w v l)(r:A5 l=true)(j:g 0 w)(A:M∉X):
  Fn Zp 242 [L,pt M] w fun _ w'=>Keep X w w'/\(g l.length w'\/D w'):=by
 obtain⟨y,rfl⟩:=H.fn;obtain⟨a,c,rfl,C⟩:=q.len;refine AG Tryz.func242 rfl Tryz.ntmps242 (go ?_);have d:=m.cell (o:=0) rfl;refine go ?_;refine Ah (α:=Nat) (fun k=>[(0,.func (.yield y) #[] #[]),(1,pt M),(3,iV (BE (l.take k))),(6,iV (l.length:Int)),(7,iV (k:Int))]) (fun k W=>k<=l.length/\Keep X w W/\g k W) (fun k=>l.length-k) 0 ⟨rfl,rfl,rfl,rfl,rfl,trivial⟩ ⟨by simp,Keep.refl _ _,j⟩ ?_;rintro k W K⟨P,V,z⟩;refine go ?_;by_cases B:k<l.length
 ·obtain⟨x,T⟩:∃x,l[k]?=some x:=⟨_,List.getElem?_eq_getElem B⟩;obtain⟨E,e,F,G,s,N⟩:=prod_bound r T;refine go ?_;refine W_yield rfl rfl (H.step z T) ?_;rintro _ W1⟨f,p⟩;have R:=V.trans f (fun _ h _=>h);rcases p with⟨rfl,I⟩|⟨rfl,i⟩
  case inr=>
   refine go ?_;exact fin_ret0 rfl ⟨R,.inr i⟩
  obtain⟨_,b,o,rfl,_,n⟩:=(q.E R (fun _ h=>h)).sig T;have t:=R.cell d A;have u:W1.cell? ⟨b,o+k*3+2,none⟩=some (iV x.size):=n 2 _ rfl;refine go ?_;refine⟨k+1,⟨rfl,⟨rfl,rfl,?_,rfl,?_,trivial⟩,⟨B,R,I⟩⟩,by omega⟩
  ·exact congrArg (Value.int .i64) (prodS_take T).symm
  ·show iV ((k:Int)+1)=_;rw[Int.natCast_add];rfl
 ·obtain rfl:k=l.length:=by omega
  refine go ?_;exact BF rfl ⟨V,.inl z⟩
end
section
variable {mk:Prop}[MK mk]
end
section
variable {mk:Prop}[MK mk]
theorem SlAt.pf{ok:Nat->Prop}{w:World}{a:Option Addr}{n c:Nat}{l:LF}{k:Nat}{x:Fml}(h:SlAt fmlR ok w (.slice a n c) l)(T:l[k]?=some x):∃b o,a=some ⟨b,o,none⟩/\PF ok w b (o+k*5) x:=by
 obtain⟨X,i,L,e,j,f⟩:=h;cases e;have z:=(List.getElem?_eq_some_iff.1 T).1;obtain⟨d,C⟩:∃d,L[k]?=some d:=⟨_,List.getElem?_eq_getElem (by rw[f.1];exact z)⟩;obtain⟨b,o,rfl,S,g⟩:=j.recs f (sz:=5) rfl C z;have V:=f.2 k d x C T;exact⟨b,o,rfl,S,d,V.1,g,V.2⟩
def pastN(x:Nd):Bool:= !(BK x.1.op).future
def layN(x:Nd):Bool:= !((BK x.1.op).future&&x.2)
def pastG(f:Fml):Bool:=(De false f).all pastN
def layG(f:Fml):Bool:=(De false f).all layN
def validG(f:Fml):Bool:=decide (szF f<=60)&&decide (dpF f<=20)&&(De false f).all fun x=>Dm x.1
theorem fpast_ok(w:World)(v:Value)(f:Fml)(K:FAt AV w v f)(C:GF w)(hN:10<=w.heap.size)(G:dpF f<=5000):Fn Zp 186 [v] w fun u w'=>u=.bool (pastG f)/\Ext w w':=by
 have H:=K.lt;obtain⟨r,rfl,F,a0⟩:=K.cells;refine DB Tryz.func186 rfl Tryz.ntmps186 nlr Dv (go ?_);refine Ai (L:=r) rfl (fun R j=>?_);refine AS (fun k N=>go ?_);have z1:=j.size;have z2:=N.size;have m:=j.D.E N.E O;have d:Blk k R.heap.size 4 [.bool false]:=N.D;have c:=j.E.trans N.E;have P:PF (fun b=>b≠R.heap.size) k w.heap.size 0 f:=⟨by omega,r,F,m.cells,(H.ext c).mono fun x T=>by have:=T.2;omega⟩;refine go ?_;refine AE (nodes_ok k w.heap.size 0) rfl ?_;rintro _ w4⟨rfl,E⟩;refine go ?_;refine C_allNodes pastN rfl Dv rfl (d.E E.E O) E.D (P.E E.E (fun _ _=>by simp)) (C.ext (c.trans E.E)) U G (fun l b' o' x i W a1=>?_) (fun W M B g=>?_)
 ·refine go ?_;refine⟨rfl,fun q A T S=>?_⟩;have D:=C.ext ((c.trans E.E).trans A);refine go ?_;have c0:=T.opc;refine go ?_;refine AE (formOf_ok q x.op D) rfl ?_;rintro _ W3⟨rfl,z⟩;refine go ?_;refine Au (cs:=Br (BK x.op)) rfl rfl Dx (formC_one _) (fun W4 I=>go ?_);have t:=I.D;have V:=z.trans I.E;have p:pastN (x,i)= !(BK x.op).future:=rfl;rw[p];generalize BK x.op=y at t⊢;obtain⟨xl,xm,xv,xb,xn,xp,Z,xo⟩:=y;cases Z with
  |true=>
   exact FB
  |false=>
   refine go ?_;exact⟨rfl,V⟩
 ·have z4:=E.size;unfold pastG;have n:Ext w W:=(c.trans E.E).E M (fun x T=>by simp at T;omega);cases p:(De false f).all pastN with
  |true=>
   exact Ez
  |false=>
   exact Fs
theorem flay_ok(w:World)(v:Value)(f:Fml)(K:FAt AV w v f)(C:GF w)(hN:10<=w.heap.size)(G:dpF f<=5000):Fn Zp 95 [v] w fun u w'=>u=.bool (layG f)/\Ext w w':=by
 have H:=K.lt;obtain⟨r,rfl,F,a0⟩:=K.cells;refine DB Tryz.func95 rfl Tryz.ntmps95 nlr Dv (go ?_);refine Ai (L:=r) rfl (fun R j=>?_);refine AS (fun k N=>go ?_);have z1:=j.size;have z2:=N.size;have m:=j.D.E N.E O;have d:Blk k R.heap.size 4 [.bool false]:=N.D;have c:=j.E.trans N.E;have P:PF (fun b=>b≠R.heap.size) k w.heap.size 0 f:=⟨by omega,r,F,m.cells,(H.ext c).mono fun x T=>by have:=T.2;omega⟩;refine go ?_;refine AE (nodes_ok k w.heap.size 0) rfl ?_;rintro _ w4⟨rfl,E⟩;refine go ?_;refine C_allNodes layN rfl Dv rfl (d.E E.E O) E.D (P.E E.E (fun _ _=>by simp)) (C.ext (c.trans E.E)) U G (fun l b' o' x i W a1=>?_) (fun W M B g=>?_)
 ·refine go ?_;refine⟨rfl,fun q A T S=>?_⟩;have D:=C.ext ((c.trans E.E).trans A);refine go ?_;have c0:=T.opc;refine go ?_;refine AE (formOf_ok q x.op D) rfl ?_;rintro _ W3⟨rfl,z⟩;refine go ?_;refine Au (cs:=Br (BK x.op)) rfl rfl Dx (formC_one _) (fun W4 I=>go ?_);have t:=I.D;have V:=z.trans I.E;have p:layN (x,i)= !((BK x.op).future&&i):=rfl;rw[p];generalize BK x.op=y at t⊢;obtain⟨xl,xm,xv,xb,xn,xp,Z,xo⟩:=y;cases Z<;>cases i
  case true.true=>
   exact FB
  all_goals
   refine go ?_;exact⟨rfl,V⟩
 ·have z4:=E.size;unfold layG;have n:Ext w W:=(c.trans E.E).E M (fun x T=>by simp at T;omega);cases p:(De false f).all layN with
  |true=>
   exact Ez
  |false=>
   exact Fs
theorem fvalid_ok(w:World)(v:Value)(f:Fml)(K:FAt AV w v f)(C:GF w)(F:KY w)(hN:10<=w.heap.size):Fn Zp 94 [v] w fun u w'=>u=.bool (validG f)/\Ext w w':=by
 have z:=K.lt;obtain⟨r,rfl,y,a0⟩:=K.cells;refine DB Tryz.func94 rfl Tryz.ntmps94 nlr Dv (go ?_);refine Ai (L:=r) rfl (fun R p=>?_);refine AS (fun q N=>go ?_);have z1:=p.size;have z2:=N.size;have m:=p.D.E N.E O;have d:Blk q R.heap.size 4 [.bool false]:=N.D;have c:=p.E.trans N.E;have P:PF (fun b=>b≠R.heap.size) q w.heap.size 0 f:=⟨by omega,r,y,m.cells,(z.ext c).mono fun x T=>by have:=T.2;omega⟩;refine go ?_;refine AE (within_ok q w.heap.size 0 f 60 20 U U ⟨by omega,r,y,m.cells,(z.ext c).mono fun x T=>by have:=T.2;omega⟩) rfl ?_;rintro _ X⟨rfl,g⟩;unfold validG;cases hsz:(decide (szF f<=60)&&decide (dpF f<=20))with
 |false=>
  refine go ?_;refine AR (v:=.bool false) rfl rfl rfl (d.E g O) O (fun e s=>go ?_);exact BB (A9 rfl (s.D.cell (o:=0) rfl) ⟨rfl,(c.trans g).E s.E Dw⟩)
 |true=>
 simp at hsz;refine go ?_;refine AE (nodes_ok X w.heap.size 0) rfl ?_;rintro _ w4⟨rfl,E⟩;refine go ?_;have z3:=g.size;refine C_allNodes (fun x=>Dm x.1) rfl Dv rfl (d.E (g.trans E.E) O) E.D (P.E (g.trans E.E) (fun _ _=>by simp)) (C.ext ((c.trans g).trans E.E)) U U (fun l n I x i W a1=>?_) (fun W H B k=>?_)
 ·refine go ?_;refine⟨rfl,fun D A T S=>?_⟩;have Q:=((c.trans g).trans E.E).trans A;have G:=Bz x.args;have a2:=BJ x;refine go ?_;refine AE (shaped_ok D n I x (T.mono fun _ _=>trivial) (C.ext Q) (F.E Q O) U) rfl ?_;rintro _ j⟨rfl,V⟩;show AT _ _ _ _ _ _ _ _;cases hp:Dm x with
  |false=>
   exact FB
  |true=>
   refine go ?_;exact⟨rfl,V⟩
 ·have z4:=E.size;have t:Ext w W:=((c.trans g).trans E.E).E H (fun x T=>by simp at T;omega);cases hp:(De false f).all (fun x=>Dm x.1)with
  |true=>
   rw[if_pos rfl];refine go ?_;refine AR (v:=.bool true) rfl rfl rfl B O (fun e s=>go ?_);refine B0 ((s.E.block _ (Array.getElem?_eq_some_iff.1 k).1 Dw).trans k) fun Z a M=>?_;exact BB (A9 rfl ((s.D.E a Dw).cell (o:=0) rfl) ⟨rfl,(t.E s.E (fun x T=>by simp at T;omega)).E a (fun x T=>by simp at T;omega)⟩)
  |false=>
   rw[if_neg O];refine go ?_;refine B0 k fun Z a M=>?_;exact BB (A9 rfl ((B.E a Dw).cell (o:=0) rfl) ⟨rfl,t.E a (fun x T=>by simp at T;omega)⟩)
def negOk(f:Fml):Bool:=match f.args with
 |a::_=>decide (a.op=3)
 | []=>false
def bareN(x:Nd):Bool:=((BK x.1.op).loose&&Dm x.1&& !((BK x.1.op).future&&x.2))&&(if x.1.op=4 then negOk x.1 else true)
def bareG(f:Fml):Bool:=(De false f).all bareN
theorem bare_ok(w:World)(b o:Nat)(f:Fml)(hf:PF AV w b o f)(C:GF w)(hK:KY w)(hN:10<=w.heap.size)(hd:dpF f<=5000)(hz:szF f<=1000000):Fn Zp 84 [.pointer (some ⟨b,o,none⟩)] w fun u w'=>u=.bool (bareG f)/\Ext w w':=by
 have a1:=hf.lt;refine DB Tryz.func84 rfl Tryz.ntmps84 nlr Dv (go ?_);refine AS (fun L N=>go ?_);have z2:=N.size;have d:Blk L w.heap.size 4 [.bool false]:=N.D;have k:=N.E;have a0:PF (fun b=>b≠w.heap.size) L b o f:=(a1.E k (fun _ _=>by simp)).mono fun x T=>by have:=T.2;omega
 refine go ?_;refine AE (nodes_ok L b o) rfl ?_;rintro _ w4⟨rfl,E⟩;refine go ?_;refine C_allNodes bareN rfl Dv rfl (d.E E.E O) E.D (a0.E E.E (fun _ _=>by simp)) (C.ext (k.trans E.E)) U hd (fun l X o' x i W b1=>?_) (fun W kW p r=>?_)
 ·refine go ?_;refine⟨rfl,fun P Z T S=>?_⟩;have Q:=(k.trans E.E).trans Z;have G:=C.ext Q;refine go ?_;have c0:=T.opc;refine go ?_;refine AE (formOf_ok P x.op G) rfl ?_;rintro _ W3⟨rfl,e3⟩;refine go ?_;refine Au (cs:=Br (BK x.op)) rfl rfl Dx (formC_one _) (fun j M=>go ?_);have e:=M.D;have V:=e3.trans M.E;have m:bareN (x,i)=(((BK x.op).loose&&Dm x&& !((BK x.op).future&&i))&&(if x.op=4 then negOk x else true)):=rfl;have a8:=Bz x.args;have b0:=BJ x;have a4:=shaped_ok j X o' x ((T.E V (fun _ _=>by simp)).mono fun _ _=>trivial) (G.ext V) (hK.E (Q.trans V) O) U
  have a5:x.op=4->Dm x=true->x.args.length=1:=fun z D=>by
   unfold Dm at D;rw[z]at D;simp[BK,isOpB,formsL,shapeX]at D;omega
  rw[m];clear m;generalize BK x.op=y at e⊢;obtain⟨xl,xm,xv,xb,xn,xp,B,xo⟩:=y;cases xo with
  |false=>
   refine go ?_;refine AR (v:=.bool false) rfl rfl rfl (S.E V O) O (fun q n=>go ?_);exact⟨rfl,(V).any.trans n.E (fun _ h _=>h),n.D⟩
  |true=>
   refine go ?_;refine AE a4 rfl ?_;rintro _ R⟨rfl,H⟩;have c:=V.trans H;cases D:Dm x with
   |false=>
    exact Fv
   |true=>
   replace e:=e.E H O;by_cases K:B=true/\i=true
   ·obtain⟨rfl,rfl⟩:=K;exact Fv
   have a9:(!(B&&i))=true:=by cases B<;>cases i<;>simp_all
   have a6:=T.E c (fun _ _=>by simp);obtain⟨aa,cc,_,q0,_,_,_,q4,qa⟩:=a6.all;cases B<;>cases i
   case true.true=>simp at K
   all_goals
    refine go ?_;by_cases z:x.op=4
    ·have a2:=a5 z D
     obtain⟨a,I⟩:∃a,x.args=[a]:=by
      match hxa:x.args,a2 with
      | [a],_=>exact⟨a,rfl⟩
     obtain⟨a7,b2,rfl,a3⟩:=qa 0 a (by rw[I];rfl);have q5:=a3.opc;have A:negOk x=decide (a.op=3):=by unfold negOk;rw[I]
     by_cases F:a.op=3
     ·rw[if_pos z,A,decide_eq_true F];refine go ?_;exact⟨rfl,c⟩
     ·rw[if_pos z,A,decide_eq_false F];refine go ?_;refine AR (v:=.bool false) rfl rfl rfl (S.E c O) O (fun q n=>go ?_);exact⟨rfl,c.any.trans n.E (fun _ h _=>h),n.D⟩
    ·rw[if_neg z];refine go ?_;exact⟨rfl,c⟩
 ·have z4:=E.size;unfold bareG;have t:Ext w W:=(k.trans E.E).E kW (fun x T=>by simp at T;omega);cases m:(De false f).all bareN with
  |true=>
   rw[if_pos rfl];refine go ?_;refine AR (v:=.bool true) rfl rfl rfl p O (fun R s=>go ?_);refine B0 ((s.E.block _ (Array.getElem?_eq_some_iff.1 r).1 Dw).trans r) fun w9 g s9=>?_;exact BB (A9 rfl ((s.D.E g Dw).cell (o:=0) rfl) ⟨rfl,(t.E s.E (fun x T=>by simp at T;omega)).E g (fun x T=>by simp at T;omega)⟩)
  |false=>
   rw[if_neg O];refine go ?_;refine B0 r fun w9 g s9=>?_;exact BB (A9 rfl ((p.E g Dw).cell (o:=0) rfl) ⟨rfl,t.E g (fun x T=>by simp at T;omega)⟩)
def BA(f:Fml):Bool:=decide (szF f<=400)&&decide (dpF f<=60)&&bareG f
def kernG(f:Fml):Bool:=decide (szF f<=60)&&decide (dpF f<=20)&&bareG f
theorem loose_ok(w:World)(b o:Nat)(f:Fml)(K:PF AV w b o f)(C:GF w)(s:KY w)(e:10<=w.heap.size):Fn Zp 51 [.pointer (some ⟨b,o,none⟩)] w fun u w'=>u=.bool (BA f)/\Ext w w':=by
 refine AG Tryz.func51 rfl Tryz.ntmps51 (go ?_);refine AE (within_ok w b o f 400 60 U U (K.lt.mono fun _ h=>h.2)) rfl ?_;rintro _ R⟨rfl,a⟩;unfold BA;cases hsz:(decide (szF f<=400)&&decide (dpF f<=60))with
 |false=>
  refine go ?_;exact AB rfl ⟨rfl,a⟩
 |true=>
  simp at hsz;refine go ?_;refine AE (bare_ok R b o f (K.E a (fun _ _=>by simp)) (C.ext a) (s.E a O) (Nat.le_trans e a.size) U U) rfl ?_;rintro _ L⟨rfl,l⟩;refine go ?_;exact AB rfl ⟨rfl,a.trans l⟩
theorem iskernel_ok(w:World)(v:Value)(f:Fml)(K:FAt AV w v f)(C:GF w)(s:KY w)(e:10<=w.heap.size):Fn Zp 140 [v] w fun u w'=>u=.bool (kernG f)/\Ext w w':=by
 obtain⟨r,rfl,x,o⟩:=K.cells;refine AG Tryz.func140 rfl Tryz.ntmps140 (go ?_);refine Ai (L:=r) rfl (fun y t=>go ?_);have a:=t.E;have c:PF AV y w.heap.size 0 f:=⟨trivial,r,x,t.D.cells,K.ext a⟩;refine go ?_;refine AE (within_ok y w.heap.size 0 f 60 20 U U (c.lt.mono fun _ h=>h.2)) rfl ?_;rintro _ R⟨rfl,b⟩;unfold kernG;cases hsz:(decide (szF f<=60)&&decide (dpF f<=20))with
 |false=>
  refine go ?_;exact AB rfl ⟨rfl,a.trans b⟩
 |true=>
  simp at hsz;refine go ?_;refine AE (bare_ok R w.heap.size 0 f (c.E b (fun _ _=>by simp)) (C.ext (a.trans b)) (s.E (a.trans b) O) (Nat.le_trans e (a.trans b).size) U U) rfl ?_;rintro _ d⟨rfl,l⟩;refine go ?_;exact AB rfl ⟨rfl,(a.trans b).trans l⟩
theorem own_last{w:World}{B e n:Nat}{v:Value}{xs c cs:LV}(h:w.ownsRow B e 5 v (n+1) (xs++c))(T:xs.length=n*5)(V:cs.length=5):
  ∃g cap L,v=.slice (sm g) (n+1) cap/\B<=g/\Blk w g e L/\n*5+5<=L.length/\∀w',Put w w' g e (splice L (n*5) cs)->w'.ownsRow B e 5 v (n+1) (xs++cs):=by
 obtain⟨M,q⟩:=h;rcases q with⟨_,s⟩|⟨g,cap,b,rfl,f,t,X,W,Q,z⟩
 ·omega
 ·have l:n*5+5<=b.toList.length:=by
   have:(n+1)*5<=cap*5:=Nat.mul_le_mul_right 5 X;simp;omega
  refine⟨g,cap,b.toList,rfl,f,by simpa[Blk]using t,l,fun w' a=>⟨by simp[T,V];omega,.inr ⟨g,cap,(splice b.toList (n*5) cs).toArray,rfl,f,a.D,X,W,?_,?_⟩⟩⟩
  ·simp[splice,V];simp at l;omega
  ·have P:b.toList.take (n*5)=xs:=by
    have:=congrArg (List.take (n*5)) z;rw[List.take_take,Nat.min_eq_left U,List.take_append_of_le_length U,<-T,List.take_length]at this;rw[<-T];exact this
   simp only[splice,P];rw[<-List.append_assoc,List.take_append_of_le_length (by simp[T,V];omega),List.take_of_length_le (by simp[T,V];omega)]
end
section
variable {mk:Prop}[MK mk]
end
theorem strMK:MK True:=⟨trivial⟩

section
variable {mk:Prop}[MK mk]
end
section
variable {mk:Prop}[MK mk]
end
section
variable {mk:Prop}[MK mk]
end
section
variable {mk:Prop}[MK mk]
end
section
variable {mk:Prop}[MK mk]
end
section
variable {mk:Prop}[MK mk]
end
section
variable {mk:Prop}[MK mk]
def CQ(l:List Sgn):Int:=if A5 l then BE l else 0
theorem letters1_ok(w:World)(c:LV):Fn Zp 143 [.agg c.toArray] w fun v w'=>v=.bool true/\Ext w w':=by
 refine AG Tryz.func143 rfl Tryz.ntmps143 (go ?_);refine Ai (L:=c) rfl (fun R E=>go ?_);exact AB rfl ⟨rfl,E.E⟩
set_option maxHeartbeats 800000 in
theorem count_ok(w:World)(v:Value)(l:List Sgn)(h:SlAt sgnR AV w v l)(hK:KY w)(hN:10<=w.heap.size):Fn Zp 142 [v,.func (.func 143) #[] #[]] w fun u w'=>u=iV (CQ l)/\Ext w w':=by
 have a3:=h.lt (show(0:Nat)<3 by omega);obtain⟨a,c,rfl,b0⟩:=h.len;refine DB Tryz.func142 rfl Tryz.ntmps142 nlr Dv (go ?_);refine Ai (L:=[.slice a l.length c]) rfl (fun w1 n1=>?_);refine Ai (L:=[.func (.func 143) #[] #[]]) rfl (fun w2 n2=>go ?_);have z1:=n1.size;have z2:=n2.size;have k2:Ext w w2:=n1.E.trans n2.E;have r:=n1.D.E n2.E O;have d:=n2.D;refine go ?_;refine AE (Dt w2 _ l (h.ext k2) (hK.E k2 O)) rfl ?_;rintro _ g⟨rfl,k3⟩;have p:CQ l=if A5 l then BE l else 0:=rfl;cases hv:A5 l with
 |false=>
  rw[hv]at p;refine go ?_;exact finD_ret1 rfl ⟨by rw[p];rfl,k2.trans k3⟩
 |true=>
 rw[hv]at p;refine go ?_;refine AS (fun w4 n4=>?_);refine AR (v:=iV 1) rfl rfl rfl n4.D O (fun K p5=>go ?_);have z3:=k3.size;have z4:=n4.size;have z5:=p5.size;have a6:Ext g K:=n4.E.E p5.E O;have a1:=k3.trans a6;replace r:=r.E a1 O;replace d:=d.E a1 O;have D:Blk K g.heap.size 3 [iV 1]:=p5.D;have k5:=k2.trans a1;refine go ?_;refine AE (weights_ok K _ rfl) rfl ?_;rintro _ q⟨rfl,S⟩;refine go ?_;have z6:=S.size;replace r:=r.E S.E O;replace d:=d.E S.E O;replace D:=D.E S.E O;have Q:=S.D;have k6:=k5.trans S.E;refine C_range [] [pt K.heap.size] rfl Dv fun a4 a8 a9 w7 C G s7 m7 r7=>?_;replace r:=r.E G O;replace d:=d.E G O;replace D:=D.E G O;replace Q:=Q.E G O;have e7:=k6.trans G;obtain⟨P,s⟩:∃P:Nat->World->Prop,∀k W,P k W↔(Ext w W/\Blk W g.heap.size 3 [iV (BE (l.take k))]/\Blk W w.heap.size 22 [.slice a l.length c]/\Blk W w1.heap.size 202 [.func (.func 143) #[] #[]]/\a4 W/\W.heap[q.heap.size]?=some (.deferred (some []))/\w7.heap.size<=W.heap.size):=⟨_,fun _ _=>Iff.rfl⟩
 have H:WtsR (.func (.yield (q.heap.size+1)) #[] #[]) [g.heap.size,q.heap.size+1] w7.heap.size l P (fun _=>False):=by
  refine⟨⟨_,rfl⟩,fun z k n=>?_,fun{k W x}z T=>?_⟩
  ·obtain⟨F,N,M,j,X,m,j7⟩:=(s _ _).1 z;exact(s _ _).2 ⟨F.E k (fun x T=>by have:=n x T;omega),N.E k (fun h=>by have:=n _ h;omega),M.E k (fun h=>by have:=n _ h;omega),j.E k (fun h=>by have:=n _ h;omega),C.rdy X k (fun h=>by have:=n _ h;omega),(k.block _ (by have:=C.lt X;omega) (fun h=>by have:=n _ h;omega)).trans m,Nat.le_trans j7 k.size⟩
  ·obtain⟨F,N,M,j,X,m,j7⟩:=(s _ _).1 z;have b2:=C.lt X;have a2:=(List.getElem?_eq_some_iff.1 T).1;obtain⟨p1,p2,p3,p4,p5,p6⟩:=prod_bound hv T;refine YldP.mono (R:=fun v W'=>v=.bool true/\Keep [g.heap.size,q.heap.size+1] W W'/\P (k+1) W') (Y:=fun _ _=>False) (C.round X rfl ?_) (fun v W' h=>⟨h.2.1,.inl ⟨h.1,h.2.2⟩⟩) (fun _ _ h=>h);refine go ?_;refine⟨X,fun W2 y b7 y2=>?_⟩;replace N:=N.E y Dw;replace M:=M.E y Dw;replace j:=j.E y Dw;replace m:=(y.block _ U O).trans m;have A:=F.E y Dw;have a7:Keep [g.heap.size,q.heap.size+1] W W2:=y.mono (fun x T=>by simp at T;simp[T]);obtain⟨_,b,o,rfl,hb,a0⟩:=(a3.ext A).sig T;refine go ?_;refine AX (rd 0 5 (.alt 5 .done .stop)) An Dv (fun i I ed=>⟨Ext i,?_,?_⟩)
   ·exact Ew
   have f1:∀V,Ext i V->V.cell? ⟨w1.heap.size,0,none⟩=some (.func (.func 143) #[] #[]):=fun V e=>(j.E (I.trans e) O).cell rfl;have Z:∀V,Ext i V->V.cell? ⟨w.heap.size,0,none⟩=some (.slice (some ⟨b,o,none⟩) l.length c):=fun V e=>(M.E (I.trans e) O).cell rfl;have f3:∀V,Ext i V->Cells V b (o+k*3) (sgnC x):=fun V e=>(a0.E (I.trans e) O);((apply D_R rfl rfl;(intro W f;refine AL rfl (f1 W f) ?_;exact AA ⟨rfl,rfl,rfl⟩))<;>(apply D_R rfl rfl;(intro W f;refine AL rfl (Z W f) ?_;exact AA ⟨rfl,rfl,rfl⟩))<;>(apply D_R rfl rfl;(intro W f;refine AY rfl ?_;exact AA ⟨rfl,rfl,rfl⟩)))
   refine D_R rfl rfl (fun V hV=>by refine Cd (k:=k) rfl rfl rfl a2 ?_;exact AA ⟨rfl,rfl,rfl⟩) ?_;refine D_R (v:=.agg (sgnC x).toArray) rfl rfl (fun V hV=>by refine AQ (L:=sgnC x) rfl rfl (f3 V hV) ?_;exact AA ⟨rfl,rfl,rfl⟩) ?_;refine D_E rfl ?_;refine Az (v1:=[]) (v2:=[]) (vs:=[.agg (sgnC x).toArray]) rfl (letters1_ok i (sgnC x)) rfl ?_;rintro _ W3⟨rfl,E⟩;refine AA ⟨Ext i,fun _ e=>e,E,?_⟩;refine go ?_;have q3:=a7.trans (I.trans E) (fun x T=>by cases T);replace N:=N.E (I.trans E) O;replace M:=M.E (I.trans E) O;replace j:=j.E (I.trans E) O;replace m:=((I.trans E).block _ U O).trans m;replace A:=A.trans (I.trans E);replace y2:=C.bsy y2 (I.trans E) O;replace a0:=a0.E (I.trans E) O;clear f1 Z f3 E I;refine AX (rd 1 5 (.alt 0 (.read 6 (.alt 7 .done .stop)) .stop)) An Dv (fun i I ed=>⟨Keep [g.heap.size] i,?_,?_⟩)
   ·exact FK
   have Z:∀V,Keep [g.heap.size] i V->V.cell? ⟨w.heap.size,0,none⟩=some (.slice (some ⟨b,o,none⟩) l.length c):=fun V e=>((M.E I O).E e Dw).cell rfl;have f3:∀V,Keep [g.heap.size] i V->V.cell? ⟨b,o+k*3+2,none⟩=some (iV x.size):=fun V e=>((a0.E I O).E e (by have:=hb.2;simp;omega)) 2 _ rfl;((apply D_R rfl rfl;(intro W f;refine AL rfl (Z W f) ?_;exact AA ⟨rfl,rfl,rfl⟩))<;>(apply D_R rfl rfl;(intro W f;refine AY rfl ?_;exact AA ⟨rfl,rfl,rfl⟩)))
   refine D_R rfl rfl (fun V hV=>by refine Cd (k:=k) rfl rfl rfl a2 ?_;exact AA ⟨rfl,rfl,rfl⟩) ?_;((apply D_R rfl rfl;(intro W f;refine AD rfl ?_;exact AA ⟨rfl,rfl,rfl⟩))<;>(apply D_R rfl rfl;(intro W f;refine AL rfl (f3 W f) ?_;exact AA ⟨rfl,rfl,rfl⟩)))
   refine D_E rfl ?_;refine AL rfl ((N.E I O).cell rfl) ?_;refine AA ⟨Keep [g.heap.size] i,fun _ e=>e,Keep.refl _ _,?_⟩;refine go ?_;refine D_E rfl ?_;refine AR (v:=iV (BE (l.take k)*x.size)) rfl rfl rfl (N.E I O) O (fun W5 pp=>?_);refine AA ⟨Keep [g.heap.size] i,fun _ e=>e,pp.E,?_⟩;refine go ?_;have t:Keep [g.heap.size] W3 W5:=I.any.trans pp.E (fun x T _=>T);have y3:=C.bsy y2 t Dw;have q5:Keep [g.heap.size,q.heap.size+1] W W5:=q3.trans t (fun x T _=>by simp at T;simp[T]);replace M:=M.E t Dw;replace j:=j.E t Dw;replace m:=(t.block _ (by have:=q3.size;omega) Dw).trans m;replace A:=A.E t Dw;have N:Blk W5 g.heap.size 3 [iV (BE (l.take k)*x.size)]:=pp.D;have b3:=q5.size;refine go ?_;refine Q_rnd y3 fun W6 B z6 y6=>⟨rfl,q5.trans B (fun x T _=>by simp at T;simp[T]),(s _ _).2 ⟨A.E B Dw,?_,M.E B Dw,j.E B Dw,y6,(B.block _ U O).trans m,by omega⟩⟩;rw[prodS_take T];exact N.E B Dw
 have b4:w7.heap.size=q.heap.size+2:=s7;refine Fn.mono (weightsIt_ok w7 K.heap.size (.slice a l.length c) l H Q (((a3.ext e7)).mono fun x T=>by have:=T.2;simp;omega) hv ((s _ _).2 ⟨e7,D,r,d,r7,m7,Nat.le_refl _⟩) Dw) ?_;rintro v w8⟨_,z|hh⟩
 case inr=>exact hh.elim
 obtain⟨F,N,M,j,X,m,j7⟩:=(s _ _).1 z;have b1:=C.lt X;refine .inl ⟨X,fun w9 k9 s9=>?_⟩;clear s H z C r7 m7 Q;rw[List.take_length]at N;replace N:=N.E k9 Dw;replace m:=(k9.block _ U O).trans m;have e9:=F.E k9 Dw;refine go ?_;refine B0 m fun b6 a5 b5=>?_;exact finD_ret1 rfl ⟨by rw[p];rfl,e9.E a5 Dw⟩
theorem letters_ok(w:World)(v:Value)(l:List Sgn)(h:SlAt sgnR AV w v l)(s:KY w)(e:10<=w.heap.size):Fn Zp 98 [v] w fun u w'=>u=iV (CQ l)/\Ext w w':=by
 obtain⟨a,c,rfl,X⟩:=h.len;refine AG Tryz.func98 rfl Tryz.ntmps98 (go ?_);refine AE (count_ok w _ l h s e) rfl ?_;rintro _ R⟨rfl,f⟩;exact FA
def valS(l:List Sgn)(x:Int)(i:Nat):Int:=match l[i]? with
 |some s=>x/BE (l.take i)%s.size
 |none=>0
theorem num_valid{l:List Sgn}(h:A5 l=true):CQ l=BE l/\BE l<=64:=by
 unfold CQ;rw[if_pos h];exact⟨rfl,(DP h).2.2.2⟩
set_option maxHeartbeats 1600000 in
theorem value_ok(w:World)(v:Value)(l:List Sgn)(x:Int)(i:Nat)(h:SlAt sgnR AV w v l)(hK:KY w)(hN:10<=w.heap.size)(hv:A5 l=true)(a3:0<=x)(b8:x<CQ l)(hi:i<l.length):
  Fn Zp 144 [v,iV x,iV (i:Int)] w fun u w'=>u=iV (valS l x i)/\Ext w w':=by
 have a2:=h.lt (show(0:Nat)<3 by omega);obtain⟨a,c,rfl,b5⟩:=h.len;obtain⟨s,hs⟩:∃s,l[i]?=some s:=⟨_,List.getElem?_eq_getElem hi⟩;have b2:valS l x i=x/BE (l.take i)%s.size:=by unfold valS;rw[hs]
 obtain⟨c0,c1⟩:=num_valid hv;refine DB Tryz.func144 rfl Tryz.ntmps144 nlr Dv (go ?_);refine Ai (L:=[.slice a l.length c]) rfl (fun w1 n1=>?_);refine Ai (L:=[iV x]) rfl (fun w2 n2=>?_);refine Ai (L:=[iV (i:Int)]) rfl (fun g Z=>?_);refine AS (fun w4 E=>go ?_);have z1:=n1.size;have z2:=n2.size;have z3:=Z.size;have z4:=E.size;have r:=n1.D.E (n2.E.trans (Z.E.trans E.E)) O;have d:=n2.D.E (Z.E.trans E.E) O;have B:=Z.D.E E.E O;have t:Blk w4 g.heap.size 3 [iV 0]:=E.D;have k4:Ext w w4:=((n1.E.trans n2.E).trans Z.E).trans E.E;refine AX (rd 0 5 (.alt 5 (rd 6 12 .done) .stop)) An Dv (fun j I ed=>⟨Ext j,?_,?_⟩)
 ·exact Ew
 have f1:∀V,Ext j V->V.cell? ⟨w.heap.size,0,none⟩=some (.slice a l.length c):=fun V e=>(r.E (I.trans e) O).cell rfl;have f2:∀V,Ext j V->V.cell? ⟨w1.heap.size,0,none⟩=some (iV x):=fun V e=>(d.E (I.trans e) O).cell rfl;have f3:∀V,Ext j V->V.cell? ⟨w2.heap.size,0,none⟩=some (iV (i:Int)):=fun V e=>(B.E (I.trans e) O).cell rfl;((apply D_R rfl rfl;(intro W f;refine AL rfl (f2 W f) ?_;exact AA ⟨rfl,rfl,rfl⟩))<;>(refine C8 rfl rfl rfl rfl (fun G=>?_) (fun G=>?_)<;>try omega)<;>(apply D_R rfl rfl;(intro W f;refine AI rfl ?_;exact AA ⟨rfl,rfl,rfl⟩))<;>(apply D_R rfl rfl;(intro W f;(refine AN rfl ?_;refine AL rfl (f2 W f) ?_);exact AA ⟨rfl,rfl,rfl⟩))<;>(apply D_R rfl rfl;(intro W f;(refine AN rfl ?_;refine AL rfl (f1 W f) ?_);exact AA ⟨rfl,rfl,rfl⟩)))
 refine D_E rfl (go ?_);refine AE (letters_ok j _ l (h.ext (k4.trans I)) (hK.E (k4.trans I) O) (Nat.le_trans hN (k4.trans I).size)) rfl ?_;rintro _ w5⟨rfl,k5⟩;refine AA ⟨Ext j,fun _ e=>e,k5,?_⟩;((refine D_geq rfl rfl rfl rfl (fun G=>?_) (fun G=>?_)<;>try omega)<;>(apply D_R rfl rfl;(intro W f;(refine Al rfl ?_;refine AI rfl ?_);exact AA ⟨rfl,rfl,rfl⟩))<;>(apply D_R rfl rfl;(intro W f;refine AI rfl ?_;exact AA ⟨rfl,rfl,rfl⟩))<;>(apply D_R rfl rfl;(intro W f;(refine AN rfl ?_;refine AL rfl (f3 W f) ?_);exact AA ⟨rfl,rfl,rfl⟩))<;>(refine C8 rfl rfl rfl rfl (fun G=>?_) (fun G=>?_)<;>try omega)<;>(apply D_R rfl rfl;(intro W f;(refine Al rfl ?_;refine AI rfl ?_);exact AA ⟨rfl,rfl,rfl⟩))<;>(apply D_R rfl rfl;(intro W f;refine AI rfl ?_;exact AA ⟨rfl,rfl,rfl⟩))<;>(apply D_R rfl rfl;(intro W f;(refine AN rfl ?_;refine AL rfl (f3 W f) ?_);exact AA ⟨rfl,rfl,rfl⟩))<;>(apply D_R rfl rfl;(intro W f;(refine AN rfl ?_;refine AL rfl (f1 W f) ?_);exact AA ⟨rfl,rfl,rfl⟩))<;>(apply D_R rfl rfl;(intro W f;(refine AN rfl ?_;refine Bt rfl ?_);exact AA ⟨rfl,rfl,rfl⟩))<;>(refine D_geq rfl rfl rfl rfl (fun G=>?_) (fun G=>?_)<;>try omega)<;>(apply D_R rfl rfl;(intro W f;(refine Al rfl ?_;refine AI rfl ?_);exact AA ⟨rfl,rfl,rfl⟩))<;>refine Bq ?_)
 refine go ?_;have a0:=I.trans k5;clear f1 f2 f3;replace r:=r.E a0 O;replace d:=d.E a0 O;replace B:=B.E a0 O;replace t:=t.E a0 O;have e5:=k4.trans a0;refine go ?_;refine AE (weights_ok w5 _ rfl) rfl ?_;rintro _ q⟨rfl,S⟩;refine go ?_;have z5:=a0.size;have z6:=S.size;replace r:=r.E S.E O;replace d:=d.E S.E O;replace B:=B.E S.E O;replace t:=t.E S.E O;have b6:=S.D;have e6:=e5.trans S.E;refine C_range [] [pt w5.heap.size] rfl Dv fun a7 b3 a6 Q C k7 s7 m7 r7=>?_;replace r:=r.E k7 O;replace d:=d.E k7 O;replace B:=B.E k7 O;replace t:=t.E k7 O;replace b6:=b6.E k7 O;have e7:=e6.trans k7;obtain⟨a1,F⟩:∃a1:Nat->World->Prop,∀k W,a1 k W↔(k<=i/\Ext w W/\Blk W g.heap.size 3 [iV 0]/\Blk W w.heap.size 22 [.slice a l.length c]/\Blk W w1.heap.size 3 [iV x]/\Blk W w2.heap.size 3 [iV (i:Int)]/\a7 W/\W.heap[q.heap.size]?=some (.deferred (some []))/\Q.heap.size<=W.heap.size):=⟨_,fun _ _=>Iff.rfl⟩;obtain⟨D,hD⟩:∃D:World->Prop,∀W,D W↔(Ext w W/\Blk W g.heap.size 3 [iV (valS l x i)]/\a6 .ret W/\W.heap[q.heap.size]?=some (.deferred (some []))/\Q.heap.size<=W.heap.size):=⟨_,fun _=>Iff.rfl⟩
 have H:WtsR (.func (.yield (q.heap.size+1)) #[] #[]) [g.heap.size,q.heap.size+1] Q.heap.size l a1 D:=by
  refine⟨⟨_,rfl⟩,fun z k n=>?_,fun{k W y}z hy=>?_⟩
  ·obtain⟨j0,j1,N,M,j4,K,X,m,j7⟩:=(F _ _).1 z;exact(F _ _).2 ⟨j0,j1.E k (fun x T=>by have:=n x T;omega),N.E k (fun h=>by have:=n _ h;omega),M.E k (fun h=>by have:=n _ h;omega),j4.E k (fun h=>by have:=n _ h;omega),K.E k (fun h=>by have:=n _ h;omega),C.rdy X k (fun h=>by have:=n _ h;omega),(k.block _ (by have:=C.lt X;omega) (fun h=>by have:=n _ h;omega)).trans m,Nat.le_trans j7 k.size⟩
  ·obtain⟨j0,j1,N,M,j4,K,X,m,j7⟩:=(F _ _).1 z;have hltl:=C.lt X;have b1:=(List.getElem?_eq_some_iff.1 hy).1;obtain⟨p1,p2,p3,p4,p5,p6⟩:=prod_bound hv hy;refine YldP.mono (R:=fun v W'=>Keep [g.heap.size,q.heap.size+1] W W'/\((v=.bool true/\a1 (k+1) W')\/(v=.bool false/\D W'))) (Y:=fun _ _=>False) (C.round X rfl ?_) (fun v W' h=>h) (fun _ _ h=>h);refine go ?_;refine⟨X,fun W2 P c4 y2=>?_⟩;replace N:=N.E P Dw;replace M:=M.E P Dw;replace j4:=j4.E P Dw;replace K:=K.E P Dw;replace m:=(P.block _ U O).trans m;have A:=j1.E P Dw;have a5:Keep [g.heap.size,q.heap.size+1] W W2:=P.mono (fun x T=>by simp at T;simp[T]);refine go ?_;have ci:=K.cell (o:=0) rfl;by_cases b0:k=i
   ·subst b0;rw[hs]at hy;cases hy;refine go ?_;obtain⟨_,b,o,rfl,hb,a9⟩:=(a2.ext A).sig hs;have b4:0<=x/BE (l.take k)/\x/BE (l.take k)<=x:=⟨Int.ediv_nonneg a3 U,Int.ediv_le_self _ a3⟩;refine AX (rd 0 9 (.alt 9 .done .stop)) An Dv (fun j I ed=>⟨Keep [g.heap.size] j,?_,?_⟩)
    ·exact FK
    have g1:∀V,Keep [g.heap.size] j V->V.cell? ⟨w.heap.size,0,none⟩=some (.slice (some ⟨b,o,none⟩) l.length c):=fun V e=>((M.E I O).E e Dw).cell rfl;have g2:∀V,Keep [g.heap.size] j V->V.cell? ⟨w1.heap.size,0,none⟩=some (iV x):=fun V e=>((j4.E I O).E e Dw).cell rfl;have g3:∀V,Keep [g.heap.size] j V->V.cell? ⟨w2.heap.size,0,none⟩=some (iV (k:Int)):=fun V e=>((K.E I O).E e Dw).cell rfl;have g4:∀V,Keep [g.heap.size] j V->V.cell? ⟨b,o+k*3+2,none⟩=some (iV s.size):=fun V e=>((a9.E I O).E e (by have:=hb.2;simp;omega)) 2 _ rfl;((apply D_R rfl rfl;(intro W f;refine AL rfl (g2 W f) ?_;exact AA ⟨rfl,rfl,rfl⟩))<;>(apply D_R rfl rfl;(intro W f;refine AY rfl ?_;exact AA ⟨rfl,rfl,rfl⟩))<;>(apply D_R rfl rfl;(intro W f;refine W_quo rfl rfl U U D8 ?_;exact AA ⟨rfl,rfl,rfl⟩))<;>(apply D_R rfl rfl;(intro W f;refine AL rfl (g1 W f) ?_;exact AA ⟨rfl,rfl,rfl⟩))<;>(apply D_R rfl rfl;(intro W f;refine AL rfl (g3 W f) ?_;exact AA ⟨rfl,rfl,rfl⟩)))
    refine D_R rfl rfl (fun V hV=>by refine Cd (k:=k) rfl rfl rfl b1 ?_;exact AA ⟨rfl,rfl,rfl⟩) ?_;((apply D_R rfl rfl;(intro W f;refine AD rfl ?_;exact AA ⟨rfl,rfl,rfl⟩))<;>(apply D_R rfl rfl;(intro W f;refine AL rfl (g4 W f) ?_;exact AA ⟨rfl,rfl,rfl⟩))<;>(apply D_R rfl rfl;(intro W f;refine W_rem rfl rfl U U ?_;exact AA ⟨rfl,rfl,rfl⟩)))
    refine D_E rfl ?_;refine AR (v:=iV (x/BE (l.take k)%s.size)) rfl rfl rfl (N.E I O) O (fun W5 pp=>?_);refine AA ⟨Keep [g.heap.size] j,fun _ e=>e,pp.E,?_⟩;refine go ?_;have kk:Keep [g.heap.size] W2 W5:=I.any.trans pp.E (fun x T _=>T);have y3:=C.bsy y2 kk Dw;have q5:Keep [g.heap.size,q.heap.size+1] W W5:=a5.trans kk (fun x T _=>by simp at T;simp[T]);replace m:=(kk.block _ U Dw).trans m;replace A:=A.E kk Dw;have N:Blk W5 g.heap.size 3 [iV (x/BE (l.take k)%s.size)]:=pp.D;have b7:=q5.size;refine go ?_;refine Q_rnd_ret y3 fun W6 p z6 y6=>⟨q5.trans p (fun x T _=>by simp at T;simp[T]),.inr ⟨rfl,(hD _).2 ⟨A.E p Dw,?_,y6,(p.block _ U O).trans m,by omega⟩⟩⟩;rw[b2];exact N.E p Dw
   ·refine go ?_;refine Q_rnd y2 fun W6 p z6 y6=>⟨a5.trans p (fun x T _=>by simp at T;simp[T]),.inl ⟨rfl,(F _ _).2 ⟨by omega,A.E p Dw,N.E p Dw,M.E p Dw,j4.E p Dw,K.E p Dw,y6,(p.block _ U O).trans m,by omega⟩⟩⟩
 have b9:Q.heap.size=q.heap.size+2:=s7;refine Fn.mono (weightsIt_ok Q w5.heap.size (.slice a l.length c) l H b6 (((a2.ext e7)).mono fun x T=>by have:=T.2;simp;omega) hv ((F _ _).2 ⟨by omega,e7,t,r,d,B,r7,m7,Nat.le_refl _⟩) Dw) ?_;rintro v w8⟨_,z|hd⟩
 ·obtain⟨j0,_⟩:=(F _ _).1 z;omega
 obtain⟨j1,N,X,m,j7⟩:=(hD _).1 hd;refine .inr ⟨.ret,X,fun w9 k9 s9=>?_⟩;clear F H hD hd C r7 m7 b6;replace N:=N.E k9 Dw;replace m:=(k9.block _ U O).trans m;have e9:=j1.E k9 Dw;unfold behind;simp only;refine go ?_;refine B0 m fun c3 a4 c2=>?_;have a8:=(N.E a4 Dw).cell (o:=0) rfl;exact BB (A9 rfl a8 ⟨rfl,e9.E a4 Dw⟩)
def valsC(S:List Sgn)(x:Int)(n:Nat):LV:=(List.range n).map fun i=>iV (valS S x i)
theorem valsC_succ(S:List Sgn)(x:Int)(n:Nat):valsC S x (n+1)=valsC S x n++[iV (valS S x n)]:=by
 unfold valsC;rw[List.range_succ,List.map_append];rfl
theorem valsC_len(S:List Sgn)(x:Int)(n:Nat):(valsC S x n).length=n:=by simp[valsC]
theorem madeInt:(madeCells (iV 0).cells (1*1)).toList=[iV 0]:=by kernel_rfl
theorem own_oneC'{w:World}{B e size n:Nat}{v:Value}{xs:LV}(h:w.ownsRow B e size v n xs):v.oneCell'=true:=by
 rcases h.2 with⟨rfl,_⟩|⟨g,a,b,rfl,_⟩<;>rfl
end
section
variable {mk:Prop}[MK mk]
end
section
variable {mk:Prop}[MK mk]
def vlS(S:List Sgn)(x:Int):Vl:=fun p=>match S.findIdx? (fun y=>decide (y.name=p))with
 |some i=>valS S x i
 |none=>0
def knS(S:List Sgn)(nm:LU)(v:Int):Bool:=match S.findIdx? (fun y=>decide (y.name=nm))with
 |some i=>match S[i]? with
  |some s=>decide (v<s.size)
  |none=>false
 |none=>false
theorem kn_find{S:List Sgn}{nm:LU}{v:Int}(h:knS S nm v=true):∃i s,S.findIdx? (fun y=>decide (y.name=nm))=some i/\S[i]?=some s/\v<s.size:=by
 unfold knS at h
 split at h
 ·rename_i i hi
  split at h
  ·rename_i s hs;exact⟨i,s,hi,hs,by simpa using h⟩
  ·cases h
 ·cases h
theorem own_ints{w:World}{B e n:Nat}{v:Value}{L:LV}(h:w.ownsRow B e 1 v n L):∃a c,v=.slice a n c/\∀i u,L[i]?=some u->∃g o,a=some ⟨g,o,none⟩/\w.cell? ⟨g,o+i,none⟩=some u:=by
 obtain⟨a,c,rfl,_,_,_,z⟩:=Aa (ok:=AV) h fun _ _=>trivial;refine⟨a,c,rfl,fun i u d=>?_⟩;rcases z with s|⟨b,o,e,_,V⟩
 ·have:=(List.getElem?_eq_some_iff.1 d).1;have:=h.1;omega
 ·exact⟨b,o,e,V i u d⟩
theorem formM_kind(N:Int):(BK N).past=pstB N/\(BK N).future=futB N/\(BK N).loose=DC N:=by
 by_cases h:isOpB N=true
 ·have X:1<=N/\N<20:=by simpa[isOpB]using h
  have y:BK N=formsL.getD N.toNat zeroForm:=by unfold BK;rw[if_pos h]
  rw[y];have:N=1\/N=2\/N=3\/N=4\/N=5\/N=6\/N=7\/N=8\/N=9\/N=10\/N=11\/N=12\/N=13\/N=14\/N=15\/N=16\/N=17\/N=18\/N=19:=by omega
  rcases this with rfl|rfl|rfl|rfl|rfl|rfl|rfl|rfl|rfl|rfl|rfl|rfl|rfl|rfl|rfl|rfl|rfl|rfl|rfl<;>exact⟨rfl,rfl,rfl⟩
 ·have X:¬(1<=N/\N<20):=by simpa[isOpB]using h
  have y:BK N=zeroForm:=by unfold BK;rw[if_neg h]
  rw[y];refine⟨?_,?_,?_⟩
  ·show false=pstB N
   symm;simp[pstB];omega
  ·show false=futB N
   symm;simp[futB];omega
  ·show false=DC N
   symm;simp[DC];omega
theorem bareB_eq(i:Bool)(N:Int)(nm:LU)(v b:Int)(args:LF):BC i (.mk N nm v b args)=(DC N&&BX N nm v b args.length&& !(i&&futB N)&&(if N=4 then negOk (.mk N nm v b args)else true)&&bareL (i||pstB N) args):=by
 cases args<;>simp only[BC]<;>rfl
theorem bareN_eq(N:Int)(nm:LU)(v b:Int)(args:LF)(i:Bool)(o:args.length<=1000000):bareN (.mk N nm v b args,i)=(DC N&&BX N nm v b args.length&& !(i&&futB N)&&(if N=4 then negOk (.mk N nm v b args)else true)):=by
 obtain⟨_,W,Q⟩:=formM_kind N;unfold bareN;simp only;rw[shapeF_eq (.mk N nm v b args) o];show((BK N).loose&&BX N nm v b args.length&& !((BK N).future&&i)&&(if N=4 then negOk (.mk N nm v b args)else true))=_;rw[W,Q,Bool.and_comm (futB N) i]
theorem bareG_aux:∀(n:Nat)(f:Fml)(i:Bool),szF f<=n->n<=1000000->(De i f).all bareN=BC i f
 |0,f,i,hz,_=>by rw[BJ]at hz;omega
 |n+1,.mk op nm v b args,i,hz,hn=>by
  rw[BJ]at hz;have H:szL args+1<=n+1:=hz
  have M:∀(l:LF)(j:Bool),(∀a∈l,a∈args)->(DH j l).all bareN=bareL j l:=by
   intro l
   induction l with
   |nil=>intro j _;rfl
   |cons a l ih=>
    intro j y;have X:=BO (y a O);rw[DH,List.all_append,bareG_aux n a j U U,bareL,ih j fun c V=>y c D9]
  rw[De,List.all_cons,bareN_eq _ _ _ _ _ _ (by have:=Bz args;omega),M args _ (fun a h=>h),bareB_eq,(formM_kind op).1]
theorem bareG_eq{f:Fml}(o:szF f<=1000000):bareG f=BC false f:=bareG_aux _ f false o (Nat.le_refl _)
end
instance weakMK:MK False:=⟨trivial⟩
section
open Go.Shelf Go.Sort
theorem ext_grow{w w':World}(k:Ext w w'):∃q P,w'=grow (w.drewN q) P:=by
 refine⟨w'.drawn-w.drawn,w'.heap.extract w.heap.size w'.heap.size,?_⟩;have X:=k.os;have W:=k.tape;have Q:=k.output;have z:=k.drawn;have S:=k.size;have V:=k.block;obtain⟨a,c,p,P,o⟩:=w;obtain⟨n,m,l,b,j⟩:=w';simp only at X W Q z S V;subst X W Q;simp only[grow,World.drewN,World.mk.injEq,and_true,true_and];refine⟨?_,by omega⟩;apply Array.ext_getElem?;intro i;rw[Array.getElem?_append];by_cases H:i<a.size
 ·rw[if_pos H];exact V i H O
 ·rw[if_neg H];simp only[Array.getElem?_extract];by_cases L:i<n.size
  ·rw[if_pos U];congr 1;omega
  ·rw[if_neg U];exact Array.getElem?_eq_none U
def Cel(ok:Nat->Prop)(w:World):Type:={p:LV×Fml//p.1.length=5/\szF p.2<=1000000/\FAt ok w (.agg p.1.toArray) p.2}
instance (ok:Nat->Prop)(w:World):Inhabited (Cel ok w):=⟨⟨(zero5,Ag),rfl,by decide,FAt.leaf ok w 0 [] 0 0⟩⟩
section
variable {ok:Nat->Prop}{w:World}
def encC(x:Cel ok w):LV:=x.1.1
def fmlC(x:Cel ok w):Fml:=x.1.2
theorem encC_len(x:Cel ok w):(encC x).length=5:=x.2.1
theorem encC_one(x:Cel ok w):∀v∈encC x,v.oneCell'=true:=by
 obtain⟨c,e,_,h⟩:=x.2.2.2.cells;have:x.1.1=c:=by simpa using e
 unfold encC;rw[this];exact h
theorem cel_list:∀{l:LF}{L:List (LV)},FsAt ok w L l->(∀x∈l,szF x<=1000000)->∃D:List (Cel ok w),D.map encC=L/\D.map fmlC=l
 | [],L,h,_=>⟨[],by have:=List.eq_nil_of_length_eq_zero (l:=L) (by simpa using h.1);simp[this],rfl⟩
 |x::l,[],h,_=>by have:=h.1;simp at this
 |x::l,c::L,h,hz=>by
  obtain⟨D,X,W⟩:=cel_list (l:=l) (L:=L) ⟨by simpa using h.1,fun c V=>h.2.1 c D9,fun i c g V t=>h.2.2 (i+1) c g (by simpa using V) EP⟩ (fun y F=>hz y (by simp[F]));exact⟨⟨(c,x),h.2.1 c O,hz x O,h.2.2 0 c x rfl rfl⟩::D,congrArg (c:: ·) X,congrArg (x:: ·) W⟩
theorem cel_fs(D:List (Cel ok w)):FsAt ok w (D.map encC) (D.map fmlC):=by
 refine⟨by simp,fun c V=>?_,fun i c g V t=>?_⟩
 ·obtain⟨x,_,rfl⟩:=List.mem_map.1 V;exact encC_len x
 ·rw[List.getElem?_map]at V t;cases hx:D[i]? with
  |none=>rw[hx]at V;cases V
  |some x=>
   rw[hx]at V t;cases V;cases t;exact x.2.2.2
end
theorem flatK_list{α:Type}[Inhabited α](enc:α->LV)(S:∀x,(enc x).length=5)(D:Array α):(flatK enc 5 D).toList=(D.toList.map enc).flatten:=by
 have M:((D.toList.map enc).flatten).length=D.size*5:=by rw[CM 5 _ (fun c V=>by obtain⟨x,_,rfl⟩:=List.mem_map.1 V;exact S x)];simp
 refine List.ext_getElem? fun t=>?_;by_cases P:t<D.size*5
 ·have C:t/5<D.size:=by omega
  have b:(flatK enc 5 D).toList[t]?=some (enc D[t/5]!)[t%5]! :=by
   have a:t<(flatK enc 5 D).size:=by simpa using P
   rw[Array.getElem?_toList,Array.getElem?_eq_getElem a,<-get_flatK enc 5 D t P,getElem!_pos (flatK enc 5 D) t a]
  rw[b]
  symm
  have E:(enc D[t/5]!)[t%5]?=some (enc D[t/5]!)[t%5]! :=by
   have y:t%5<(enc D[t/5]!).length:=by rw[S];omega
   rw[List.getElem?_eq_getElem y,getElem!_pos (enc D[t/5]!) (t%5) y]
  have A:=CR 5 (D.toList.map enc) (t/5) (t%5) (enc D[t/5]!) (enc D[t/5]!)[t%5]! (fun c V=>by obtain⟨x,_,rfl⟩:=List.mem_map.1 V;exact S x) (by rw[List.getElem?_map,Array.getElem?_toList,Array.getElem?_eq_getElem C,getElem!_pos D (t/5) C];rfl) E;rw[show t/5*5+t%5=t by omega]at A;exact A
 ·rw[List.getElem?_eq_none Dw,List.getElem?_eq_none U]
theorem swo_cmp{ok:Nat->Prop}{w:World}:SWO (ltOf fun(x y:Cel ok w)=>BY (fmlC x) (fmlC y)) where
 irrefl x:=by simp only[ltOf,decide_eq_false_iff_not];exact cmp_irr _
 trans x y z h1 h2:=by
  simp only[ltOf,decide_eq_true_eq]at h1 h2⊢;exact DQ _ _ _ h1 h2
 ntrans x y z h1 h2:=by
  simp only[ltOf,decide_eq_false_iff_not]at h1 h2⊢;intro Q;have K:=cmpF_flip (fmlC x) (fmlC y);by_cases s:BY (fmlC x) (fmlC y)=0
  ·rw[(Bs _ _).1 s]at Q;exact h2 Q
  ·exact h2 (DQ _ _ _ U Q)
theorem sortW_at{ok:Nat->Prop}{w:World}{g e:Nat}{a:Array Value}{D:Array (Cel ok w)}(d:w.heap[g]?=some (.cells a e (0,0)))(i:D.size*5<=a.size)(m:Nat)(P:Array Obj):
  Keep [g] w (sortWorldK encC 5 w g 0 m D P)/\∃A:Array Value,(sortWorldK encC 5 w g 0 m D P).heap[g]?=some (.cells A e (0,0))/\A.size=a.size/\A.toList.take (D.size*5)=(D.toList.map encC).flatten:=by
 have B:g<w.heap.size:=(Array.getElem?_eq_some_iff.1 d).1;have x:(sortWorldK encC 5 w g 0 m D P).heap=w.heap.modify g (onCells (putCells id 0 (flatK encC 5 D)))++P:=rfl;refine⟨⟨rfl,rfl,rfl,by rw[x];simp,fun b S T=>?_,fun h=>h.elim,Nat.le_add_right _ _⟩,putCells id 0 (flatK encC 5 D) a,?_,by simp[putCells],?_⟩
 ·rw[x,Array.getElem?_append_left (by simpa using S),Array.getElem?_modify,if_neg (by simp at T;omega)]
 ·rw[x,Array.getElem?_append_left (by simpa using B),Array.getElem?_modify,if_pos rfl,d];rfl
 ·rw[<-flatK_list encC encC_len];refine List.ext_getElem? fun t=>?_;rw[List.getElem?_take];by_cases c:t<D.size*5
  ·rw[if_pos c];have f:t<(flatK encC 5 D).size:=by simpa using c
   have V:t<a.size:=by omega
   simp only[putCells,Array.getElem?_toList,Array.getElem?_mapIdx,Array.getElem?_eq_getElem V,Option.map_some];rw[if_pos ⟨Nat.zero_le _,by omega⟩,Array.getElem?_eq_getElem f,Nat.sub_zero,getElem!_pos (flatK encC 5 D) t f];rfl
  ·rw[if_neg c,List.getElem?_eq_none Dw]
def Srt(l:LF):Prop:=l.Pairwise fun a b=>¬BY b a<0
abbrev cmpV:Value:=.func (.func 16) #[] #[]
theorem sort_ok(w:World)(B:Nat)(v:Value)(l:LF)(L:List (LV))(ok:Nat->Prop)(R:w.ownsRow B 36 5 v l.length L.flatten)(Z:FsAt ok w L l)
  (C:∀b,ok b->Unm w b/\b<w.heap.size/\v.ownBlock≠some b)(hz:∀x∈l,szF x<=1000000)(hn:l.length<4611686018427387904):
  Fn Zp 180 [v,cmpV] w fun u w'=>u=.tuple #[]/\Keep v.ownBlock.toList w w'/\∃E H,H.Perm l/\Srt H/\w'.ownsRow B 36 5 v l.length E.flatten/\FsAt ok w' E H:=by
 rcases R.2 with⟨rfl,h0⟩|⟨g,M,N,rfl,hB,t,W,a4,a1,ht⟩
 ·have d:=AnyF.slices_SortFunc_none (P:=Zp) Tryz.sortF none 0 cmpV w;change Calls Zp 180 _ _ _ at d;have hl:l=[]:=List.eq_nil_of_length_eq_zero h0;subst hl;refine Calls.mono d ?_;rintro e w'⟨rfl,rfl⟩;exact⟨rfl,Keep.refl _ _,L,[],List.Perm.refl _,List.Pairwise.nil,R,Z⟩
 ·obtain⟨D,a3,X⟩:=cel_list Z hz;have f:D.length=l.length:=by rw[<-X];simp
  have a7:g<w.heap.size:=(Array.getElem?_eq_some_iff.1 t).1;have A:∀b,ok b->b∉[g]:=fun b S T=>by simp at T;exact(C b S).2.2 (by rw[T];rfl)
  have a0:l.length*5<=N.size:=by rw[a1];exact Nat.mul_le_mul_right _ W
  have hH:HoldsK encC 5 w g 0 D.toArray:=by
   intro j z;have s:j<l.length*5:=by simpa[f]using z
   have p:j<(flatK encC 5 D.toArray).size:=z
   have o:(flatK encC 5 D.toArray).toList[j]?=N.toList[j]?:=by
    rw[flatK_list encC encC_len];show(D.map encC).flatten[j]?=_;rw[a3,<-ht,List.getElem?_take,if_pos s]
   rw[Array.getElem?_toList,Array.getElem?_toList,Array.getElem?_eq_getElem p]at o;constructor
   ·rw[Nat.zero_add,getElem!_pos _ j p];simp only[World.cell?,t];exact o.symm
   ·simp[World.frozen?,t]
  have eg:∀I w,(callFunc 16 I).run Zp w=.ok (.enter 16 I) w:=enters_of Tryz.func16 Dv rfl
  have a5:CmpLays Zp 16 #[] (encC (ok:=ok) (w:=w)) 5 (fun x y=>BY (fmlC x) (fmlC y)) g 0 D.toArray.size w:=by
   intro m q Q a6 x y;obtain⟨V,_⟩:=sortW_at t (D:=Q) (by rw[a6];simpa[f]using a0) m q;have h:=DO (sortWorldK encC 5 w g 0 m Q q) (.agg (encC x).toArray) (.agg (encC y).toArray) (fmlC x) (fmlC y) ok ok (x.2.2.2.E V A) (y.2.2.2.E V A) (.inl fun b S=>(C b S).1.eq (V.block b (C b S).2.1 (A b S))) x.2.2.1;refine Calls.mono h ?_;intro e w' F;cases e with
   |returned u=>
    obtain⟨rfl,k⟩:=F;exact⟨rfl,ext_grow k⟩
   |panicked ch=>exact F.elim
   |outgrown=>exact F.elim
  have d:=AnyQ.slices_SortFunc (P:=Zp) Tryz.sortF 5 Tryz.isAgg36 Tryz.sizeOf36 encC encC_len encC_one (fun x y=>BY (fmlC x) (fmlC y)) swo_cmp 16 #[] g 0 M D.toArray w eg a5 hH a7 (by simpa[f]using hn);change Calls Zp 180 _ _ _ at d;have G:D.toArray.size=l.length:=by simpa using f
  rw[G]at d;refine Calls.mono d ?_;rintro e w'⟨rfl,a,n,q,hp,p,rfl⟩;obtain⟨p1,_,K⟩:=hp;have r:a.size=l.length:=by rw[p1,G]
  obtain⟨V,a2,g1,g2,g3⟩:=sortW_at t (D:=a) (by rw[r];exact a0) n q
  have b0:a.toList.Perm D:=by
   have o:a.extract 0 l.length=a:=by rw[<-r];simp
   have e2:D.toArray.extract 0 l.length=D.toArray:=by rw[<-G];simp
   rw[o,e2]at K;exact K
  refine⟨rfl,V,a.toList.map encC,a.toList.map fmlC,by rw[<-X];exact b0.map fmlC,?_,⟨?_,.inr ⟨g,M,a2,rfl,hB,g1,W,a4,g2.trans a1,?_⟩⟩,?_⟩
  ·unfold Srt;rw[List.pairwise_map,List.pairwise_iff_getElem];intro i j hi z a9;have a8:i<a.size:=by simpa using hi
   have s:j<a.size:=by simpa using z
   have h:=p i j (Nat.zero_le _) a9 U;rw[getElem!_pos a j s,getElem!_pos a i a8]at h;simp only[ltOf,decide_eq_false_iff_not]at h;simpa using h
  ·rw[CM 5 _ (fun c hc=>by obtain⟨x,_,rfl⟩:=List.mem_map.1 hc;exact encC_len x)];simp[r]
  ·rw[<-r];exact g3
  ·exact(cel_fs a.toList).E V A
end
section
variable {mk:Prop}[MK mk]
section
attribute [local semireducible] WC AT Bo BI Bj Cw DV Be
variable {P:Program}{all:Array Oper}{Z:Fr->DS->List PanicEntry->World->Prop}{K:Fr->DS->World->Prop}{rest:List Oper}{f:Fr}{ds:DS}{w:World}
 {d:Nat}{ty xt yt:TypeId}{pos:String}{af:Array Edge}{x y:Operand}
theorem W_slice_hm{T e size F:Nat}{z:Value}{H G:Operand}{a:Option Addr}{n c:Nat}{k A:IntKind}{h m:Nat}[hT:SlT P T e size F z](l:ev f x=.slice a n c)(b:ev f H=.int k (h:Int))(i:ev f G=.int A (m:Int))(X:h<=m)(W:m<=c)
  (g:AT P all Z K rest (upd f d (.slice a h m)) ds w):AT P all Z K (⟨some d,.slice T x none (some H) (some G),ty,pos,af,none⟩::rest) f ds w:=by
 obtain⟨q,j,_,D,_⟩:=hT.out;refine Aw rfl ?_ g;simp only[execOp,l,b,i,Option.map_some,Option.map_none,Instr.sliceAt,Sem.run_bind,run_underlying hT.und,Result.andThen_ok,Instr.slice,Instr.sliceBounds,Instr.sliceBound,asIntOf,Sem.run_pure,sizeOf,typeInfo,program]
 have e:(if m=0 then a else a.map fun(x:Addr)=>x.add 0)=a:=by
  split
  ·rfl
  ·cases a with
   |none=>rfl
   |some a=>simp[Addr.add]
 simp[Sem.run,j,D,show(m:Int)<=c by omega,X,e]
theorem W_slice_lS{T e size F:Nat}{z:Value}{a:Operand}{b o n c l:Nat}{k:IntKind}[hT:SlT P T e size F z](g:ev f x=.slice (some ⟨b,o,none⟩) n c)(M:ev f a=.int k (l:Int))(X:l<=n)(W:l<c)
  (h:AT P all Z K rest (upd f d (.slice (some ⟨b,o+l*size,none⟩) (n-l) (c-l))) ds w):AT P all Z K (⟨some d,.slice T x (some a) none none,ty,pos,af,none⟩::rest) f ds w:=by
 have e:adv c (l:Int).toNat size (some ⟨b,o,none⟩)=some ⟨b,o+l*size,none⟩:=by
  unfold adv;rw[Int.toNat_natCast,if_neg U];simp[Addr.add_lit]
 refine W_slice_l g M U U ?_;rw[e];exact h
theorem W_clear{T e size F:Nat}{z:Value}{b o n c:Nat}{p:TypeId}{L L0:LV}[hT:SlT P T e size F z][hz:Bf P e L0](N:ev f x=.slice (some ⟨b,o,none⟩) n c)(G:0<n)(u:oneC L0)(S:Blk w b p L)(M:o+n*L0.length<=L.length)
  (h:∀w' X,X.length=n*L0.length->Put w w' b p (splice L o X)->AT P all Z K rest f ds w'):AT P all Z K (⟨none,.call ⟨.builtin .clear,#[x],#[T]⟩,ty,pos,af,none⟩::rest) f ds w:=by
 obtain⟨j,a,A⟩:=run_zero (P:=P) (T:=e) w;have s:(Builtin.zeroCells j.cells n).size=n*L0.length:=by simp[Builtin.zeroCells,A]
 have E:∀v∈(Builtin.zeroCells j.cells n).toList,v.oneCell'=true:=by
  intro v q;simp only[Builtin.zeroCells,A,Array.toList_map,List.mem_map]at q;obtain⟨i,H,rfl⟩:=q;have C:i<n*L0.length:=by simpa using H
  have I:0<L0.length:=by
   rcases Nat.eq_zero_or_pos L0.length with h|h
   ·rw[h]at C;omega
   ·exact h
  have B:i%L0.length<L0.length:=Nat.mod_lt _ I;rw[List.size_toArray,getElem!_pos _ _ (by simpa using B)];exact u _ O
 have t:w.heap[b]?=some (.cells L.toArray p (0,0)):=S;have r:=run_storeCells_at P b o p (Builtin.zeroCells j.cells n).toList 0 L.toArray w t (by simp only[Array.length_toList,s,List.size_toArray];omega) E;simp only[Nat.add_zero]at r;refine Aw (v:=.tuple #[]) (w':=w.setRow b (splice L o (Builtin.zeroCells j.cells n).toList).toArray) rfl ?_ (h _ _ (by simp[s]) ⟨⟨rfl,rfl,rfl,by simp[World.setRow],fun k _ l=>setRow_other w b k _ (by simpa using l),fun _=>mark_put (g:=b) (by simp[World.setRow]) (fun k l=>setRow_other w b k _ l) (Unm.cells (setRow_heap w b _ _ p _ t)),Nat.le_refl _⟩,by simp[World.setRow],setRow_heap w b _ _ p _ t⟩);have D:∃m,n=m+1:=⟨n-1,by omega⟩;obtain⟨m,rfl⟩:=D;simp only[execOp,resolve,invoke,builtin,Sem.run_bind,Sem.run_pure,Result.andThen_ok];simp[N,Builtin.clear_,run_underlying hT.und,a];rw[r];simp[splice]
theorem W_eqlD{k:IntKind}{a b:Int}(T:ev f x=.int k a)(F:ev f y=.int k b)(h:AT P all Z K rest (upd f d (.bool (decide (a=b)))) ds w):AT P all Z K (⟨some d,.binOp .eql xt x y yt,ty,pos,af,none⟩::rest) f ds w:=
 Bm T F (fun e=>by rw[decide_eq_true e]at h;exact h) (fun e=>by rw[decide_eq_false e]at h;exact h)
theorem W_field{T i p H:Nat}{L:LV}{v:Value}[hT:Ar P T i p H][he:Ck P H](c:ev f x=.agg L.toArray)(q:L[p]?=some v)(h:AT P all Z K rest (upd f d v) ds w):
  AT P all Z K (⟨some d,.field T x i,ty,pos,af,none⟩::rest) f ds w:=by
 refine Aw rfl ?_ h;obtain⟨k,G,X,W,a,z,_⟩:=hT.out;obtain⟨Q,F,e⟩:=he.out
 have I:(isAgg H).run P w=.ok false w:=by
  simp only[isAgg,Sem.run_bind,run_underlying F,Result.andThen_ok];cases Q<;>simp_all [aggD]
 have b:(part H L.toArray p).run P w=.ok v w:=by
  simp only[part,Sem.run_bind,I,Result.andThen_ok];simp[q]
 simp only[execOp,c,Instr.field,Sem.run_bind,run_underlying X,Result.andThen_ok,W,a,z,asAgg,Sem.run_pure,b]
theorem inR_u64{n:Int}(X:0<=n)(W:n<=18446744073709551615):inR .u64 n:=by
 unfold inR;constructor
 ·show IntKind.min .u64<=n;have:IntKind.min .u64=0:=rfl;omega
 ·show n<=IntKind.max .u64;have:IntKind.max .u64=18446744073709551615:=by decide
  omega
theorem W_shrU{A:IntKind}{m n:Nat}(T:ev f x=.int .u64 (m:Int))(F:ev f y=.int A (n:Int))(G:n<=60)(h:AT P all Z K rest (upd f d (.int .u64 ((m/2^n:Nat):Int))) ds w):
  AT P all Z K (⟨some d,.binOp .shr xt x y yt,ty,pos,af,none⟩::rest) f ds w:=by
 have e:(m:Int).fdiv (2^n)=((m/2^n:Nat):Int):=by
  rw[Int.fdiv_eq_ediv_of_nonneg _ (by exact Int.pow_nonneg U)];simp
 exact Aw rfl (by simp only[execOp,T,F,eqGuard,binOp,Op.shift,if_neg (show¬(n:Int)<0 by omega),show min (n:Int).toNat IntKind.u64.bits=n from by rw[Int.toNat_natCast];exact Nat.min_eq_left (by show n<=64;omega),e];simp) h
end
end
def cpN(l:LF):Nat->LF
 |0=>[]
 |p+1=>cpN l p++if 0<p/\BY (l.getD p Ag) (l.getD (p-1) Ag)=0 then[]else[l.getD p Ag]
theorem cpN_take{l:LF}:∀p,p<=l.length->(∀i,0<i->i<p->BY (l.getD i Ag) (l.getD (i-1) Ag)≠0)->cpN l p=l.take p
 |0,_,_=>by simp[cpN]
 |p+1,hp,h=>by
  rw[cpN,cpN_take p U fun i s H=>h i s U,List.take_add_one,if_neg (fun x=>h p x.1 U x.2)];have:l[p]?=some (l.getD p Ag):=by rw[List.getD_eq_getElem?_getD,List.getElem?_eq_getElem (by omega:p<l.length)];rfl
  rw[this];rfl
theorem inc_snoc{x:Fml}:∀{l:LF},Inc (l++[x])↔Inc l/\∀a∈l,BY a x<0
 | []=>by simp[Inc]
 |c::l=>by
  rw[List.cons_append,Inc,Inc,inc_snoc (l:=l)];constructor
  ·rintro⟨X,W,Q⟩
   exact⟨⟨fun d C=>X d (by simp[C]),W⟩,fun a I=>by
    rcases List.mem_cons.1 I with rfl|I
    ·exact X x O
    ·exact Q a I⟩
  ·rintro⟨⟨X,W⟩,Q⟩;refine⟨fun d C=>?_,W,fun a I=>Q a (by simp[I])⟩;rcases List.mem_append.1 C with C|C
   ·exact X d C
   ·obtain rfl:d=x:=by simpa using C
    exact Q c O
theorem cpN_inc{l:LF}(D:Srt l):∀p,p<=l.length->Inc (cpN l p)/\∀x,x∈cpN l p↔x∈l.take p
 |0,_=>⟨trivial,by simp[cpN]⟩
 |p+1,hp=>by
  obtain⟨X,W⟩:=cpN_inc D p U;have B:p<l.length:=by omega
  have t:∀i(H:i<l.length),l.getD i Ag=l[i]:=fun i H=>by rw[List.getD_eq_getElem?_getD,List.getElem?_eq_getElem H];rfl
  have Z:∀i j(H:i<l.length)(z:j<l.length),i<j->¬BY l[j] l[i]<0:=fun i j H z L=>(List.pairwise_iff_getElem.1 D) i j H z L;have c:l.take (p+1)=l.take p++[l[p]]:=by rw[List.take_add_one,List.getElem?_eq_getElem B];rfl
  rw[cpN,t p B];by_cases V:0<p/\BY l[p] (l.getD (p-1) Ag)=0
  ·rw[if_pos V,List.append_nil];refine⟨X,fun x=>?_⟩;rw[W,c,List.mem_append,List.mem_singleton];constructor
   ·exact .inl
   ·rintro(h|rfl)
    ·exact h
    ·rw[t (p-1) U]at V;have:=(Bs _ _).1 V.2;rw[this];exact List.mem_take_iff_getElem.2 ⟨p-1,by omega,rfl⟩
  ·rw[if_neg V];refine⟨inc_snoc.2 ⟨X,fun a I=>?_⟩,fun x=>?_⟩
   ·obtain⟨i,H,rfl⟩:=List.mem_take_iff_getElem.1 ((W a).1 I);have m:i<p:=by omega
    have f:i<l.length:=by omega
    have w:p-1<l.length:=by omega
    have A:BY l[p] l[p-1]≠0:=fun e=>V ⟨by omega,by rw[t (p-1) w];exact e⟩;have S:=Z (p-1) p w B U;have K:=cmpF_flip l[p] l[p-1];have b:BY l[p-1] l[p]<0:=by omega
    by_cases F:i=p-1
    ·subst F;exact b
    ·have k:=Z i (p-1) f w U;have g:=cmpF_flip l[p-1] l[i];by_cases d:BY l[p-1] l[i]=0
     ·rw[<-(Bs _ _).1 d];exact b
     ·exact DQ _ _ _ U b
   ·rw[List.mem_append,W,c,List.mem_append]
theorem cpN_dist{l m:LF}(D:Srt l)(v:l.Perm m):cpN l l.length=dist m:=by
 obtain⟨X,W⟩:=cpN_inc D l.length (Nat.le_refl _);refine inc_ext X (inc_dist m) fun x=>?_;rw[W,mem_dist,List.take_length,v.mem_iff]
theorem FAt.v5{ok:Nat->Prop}{w:World}{c:LV}{f:Fml}(h:FAt ok w (.agg c.toArray) f):∃T R d b a,c=[T,R,d,b,a]:=by
 obtain⟨z,e,S,_⟩:=h.cells;have:c=z:=by simpa using e
 subst this;exact Ab S
theorem FAt.one{ok:Nat->Prop}{w:World}{c:LV}{f:Fml}(h:FAt ok w (.agg c.toArray) f):oneC c:=by
 obtain⟨z,e,_,X⟩:=h.cells;have:c=z:=by simpa using e
 rw[this];exact X
abbrev eqV(B:Nat):Value:=.func (.func 182) #[] #[pt B]
theorem eq_ok(w:World)(B:Nat)(c d:LV)(f g:Fml)(ok:Nat->Prop)(K:FAt ok w (.agg c.toArray) f)(t:FAt ok w (.agg d.toArray) g)(n:∀b,ok b->Unm w b)(o:szF f<=1000000)(S:Blk w B 49 [cmpV]):
  Fn Zp 182 [.agg c.toArray,.agg d.toArray,pt B] w fun u w'=>u=.bool (decide (BY f g=0))/\Ext w w':=by
 obtain⟨T,R,i,j,a,rfl⟩:=K.v5;obtain⟨y,I,k,M,q,rfl⟩:=t.v5;have l:=K.lt;have p:=t.lt;refine AG Tryz.func182 rfl Tryz.ntmps182 (go ?_);refine Ai (L:=[T,R,i,j,a]) rfl (fun v E=>?_);refine Ai (L:=[y,I,k,M,q]) rfl (fun r N=>go ?_);have m:=E.D.E N.E O;have s:=N.D;have e:=E.E.trans N.E;have F:=S.E e O;refine go ?_;refine Az (v1:=[]) (v2:=[]) (vs:=[.agg #[T,R,i,j,a],.agg #[y,I,k,M,q]]) rfl (DO r _ _ f g _ _ (l.E e (fun _ _=>by simp)) (p.E e (fun _ _=>by simp)) (.inl fun b S=>(n b S.1).eq (e.block b S.2 O)) o) rfl ?_;rintro _ x⟨rfl,h⟩;by_cases V:BY f g=0
 ·refine go ?_;exact AB rfl ⟨by rw[decide_eq_true V];rfl,e.trans h⟩
 ·refine go ?_;exact AB rfl ⟨by rw[decide_eq_false V];rfl,e.trans h⟩
theorem row_cells{w:World}{g e n p:Nat}{R:LV}{L:List (LV)}{c:LV}(a:Blk w g e R)(P:R.take (n*5)=L.flatten)(S:∀c∈L,c.length=5)(v:L[p]?=some c)(G:L.length=n):Cells w g (p*5) c:=by
 intro i u b;refine a.cell ?_;have X:=CR 5 L p i c u S v b;rw[<-P,List.getElem?_take]at X
 split at X
 ·exact X
 ·cases X
theorem row_cells2{w:World}{g e n p q:Nat}{R:LV}{L E:List (LV)}{c:LV}(a:Blk w g e (E.flatten++R.drop (q*5)))(T:E.flatten.length=q*5)(d:q<=p)(P:R.take (n*5)=L.flatten)(S:∀c∈L,c.length=5)(v:L[p]?=some c)(G:L.length=n):Cells w g (p*5) c:=by
 intro i u b;refine a.cell ?_;have X:=CR 5 L p i c u S v b;rw[<-P,List.getElem?_take]at X
 split at X
 ·rw[List.getElem?_append_right (by rw[T];omega),T,List.getElem?_drop];rw[show q*5+(p*5+i-q*5)=p*5+i by omega];exact X
 ·cases X
theorem take_flat(L:List (LV))(S:∀c∈L,c.length=5)(k:Nat):(L.take k).flatten=L.flatten.take (k*5):=by
 by_cases P:k<=L.length
 ·have e:L.flatten=(L.take k).flatten++(L.drop k).flatten:=by rw[<-List.flatten_append,List.take_append_drop]
  have M:(L.take k).flatten.length=k*5:=by rw[CM 5 _ fun c V=>S c (List.mem_of_mem_take V),List.length_take,Nat.min_eq_left P]
  rw[e,<-M,List.take_left]
 ·rw[List.take_of_length_le U,List.take_of_length_le (by rw[CM 5 L S];omega)]
theorem FsAt.take{ok:Nat->Prop}{w:World}{L:List (LV)}{l:LF}(h:FsAt ok w L l)(k:Nat):FsAt ok w (L.take k) (l.take k):=by
 refine⟨by simp[h.1],fun c V=>h.2.1 c (List.mem_of_mem_take V),fun i c g V t=>?_⟩;rw[List.getElem?_take]at V t
 split at V
 ·rename_i hi;rw[if_pos hi]at t;exact h.2.2 i c g V t
 ·cases V
theorem FsAt.at{ok:Nat->Prop}{w:World}{L:List (LV)}{l:LF}(h:FsAt ok w L l){k:Nat}(P:k<l.length):∃T R d b a,L[k]?=some [T,R,d,b,a]/\l[k]?=some (l.getD k Ag)/\FAt ok w (.agg [T,R,d,b,a].toArray) (l.getD k Ag):=by
 have e:l[k]?=some (l.getD k Ag):=by rw[List.getD_eq_getElem?_getD,List.getElem?_eq_getElem P];rfl
 have f:k<L.length:=by rw[h.1];exact P
 obtain⟨c,A⟩:∃c,L[k]?=some c:=⟨_,List.getElem?_eq_getElem f⟩;have K:=h.2.2 k c _ A e;obtain⟨T,R,d,b,a,rfl⟩:=K.v5;exact⟨T,R,d,b,a,A,e,K⟩
theorem compact_ok(w:World)(B:Nat)(v:Value)(l:LF)(L:List (LV))(ok:Nat->Prop)(m:Nat)(ho:w.ownsRow B 36 5 v l.length L.flatten)(C:FsAt ok w L l)
  (a0:∀b,ok b->Unm w b/\b<w.heap.size/\v.ownBlock≠some b)(hz:∀x∈l,szF x<=1000000)(b1:Blk w m 49 [cmpV])(b6:v.ownBlock≠some m):
  Fn Zp 181 [v,eqV m] w fun u w'=>Keep v.ownBlock.toList w w'/\u.ownBlock=v.ownBlock/\∃L',w'.ownsRow B 36 5 u (cpN l l.length).length L'.flatten/\FsAt ok w L' (cpN l l.length):=by
 obtain⟨p,n,A,hv,c3⟩:∃p n A,v=.slice p n A/\n=l.length:=by
  rcases ho.2 with⟨e,s⟩|⟨g,A,j,e,_⟩
  ·exact⟨_,_,_,e,s.symm⟩
  ·exact⟨_,_,_,e,rfl⟩
 have Z:=C.2.1;have a1:=C.1;by_cases h2:l.length<2
 ·have M:cpN l l.length=l:=by rw[cpN_take l.length (Nat.le_refl _) (fun i s hi=>by omega),List.take_length]
  rw[M];subst hv c3;refine AG Tryz.func181 rfl Tryz.ntmps181 (go ?_);exact AB rfl ⟨Keep.refl _ _,rfl,L,ho,C⟩
 ·rcases ho.2 with⟨e,s⟩|⟨g,c4,j,e,hB,hg,d0,b2,b8,P⟩
  ·omega
  subst e;cases hv;have a2:Blk w g 36 j.toList:=hg;have b0:∀b,ok b->b∉[g]:=fun b S hx=>by simp at hx;exact(a0 b S).2.2 (by rw[hx];rfl)
  have c5:m≠g:=fun e=>b6 (by rw[e];rfl);have c6:=a2.lt;have a6:j.toList.length=A*5:=by simpa using b8
  have c9:A<=9223372036854775807:=by unfold maxLen at b2;omega
  refine AG Tryz.func181 rfl Tryz.ntmps181 (go ?_);refine Ah (α:=Nat) (fun k=>[(0,.slice (sm g) l.length A),(1,eqV m),(5,iV (k:Int))]) (fun k W=>1<=k/\k<=l.length/\Ext w W/\∀i,0<i->i<k->BY (l.getD i Ag) (l.getD (i-1) Ag)≠0) (fun k=>l.length-k) 1 ⟨rfl,rfl,rfl,trivial⟩ ⟨by omega,by omega,Ext.refl _,fun i s hi=>by omega⟩ ?_;rintro k W fr⟨c7,hk,kW,a7⟩;refine go ?_;by_cases c1:k<l.length
  ·refine go ?_;obtain⟨T,R,o,z,a,a4,a9,G⟩:=C.at c1;obtain⟨y0,y1,y2,y3,y4,a5,c0,a8⟩:=C.at (k:=k-1) U;refine AX (rd 0 10 (.alt 10 .done .stop)) An Dv (fun H kd ed=>⟨Ext H,?_,?_⟩)
   ·exact Ew
   have d:=kW.trans kd
   have s1:∀V,Ext H V->Cells V g (0+k*5) [T,R,o,z,a]:=fun V e=>by
    rw[Nat.zero_add];exact row_cells (a2.E (d.trans e) O) P Z a4 a1
   have s2:∀V,Ext H V->Cells V g (0+((k:Int)-1).toNat*5) [y0,y1,y2,y3,y4]:=fun V e=>by
    rw[Nat.zero_add,show((k:Int)-1).toNat=k-1 by omega];exact row_cells (a2.E (d.trans e) O) P Z a5 a1
   ((apply D_R rfl rfl;(intro W f;refine M_func rfl ?_;exact AA ⟨rfl,rfl,rfl⟩))<;>(apply D_R rfl rfl;(intro W f;refine Av rfl ?_;exact AA ⟨rfl,rfl,rfl⟩))<;>(apply D_R rfl rfl;(intro W f;refine AY rfl ?_;exact AA ⟨rfl,rfl,rfl⟩))<;>(apply D_R rfl rfl;(intro W f;refine Cd rfl rfl rfl U ?_;exact AA ⟨rfl,rfl,rfl⟩))<;>(apply D_R rfl rfl;(intro W f;refine AQ rfl Dx (s1 W f) ?_;exact AA ⟨rfl,rfl,rfl⟩))<;>(apply D_R rfl rfl;(intro W f;refine Av rfl ?_;exact AA ⟨rfl,rfl,rfl⟩))<;>(apply D_R rfl rfl;(intro W f;refine AY rfl ?_;exact AA ⟨rfl,rfl,rfl⟩))<;>(apply D_R rfl rfl;(intro W f;refine W_sub rfl rfl D8 ?_;exact AA ⟨rfl,rfl,rfl⟩))<;>(apply D_R rfl rfl;(intro W f;refine Bd rfl rfl U U ?_;exact AA ⟨rfl,rfl,rfl⟩))<;>(apply D_R rfl rfl;(intro W f;refine AQ rfl Dx (s2 W f) ?_;exact AA ⟨rfl,rfl,rfl⟩)))
   refine D_E rfl ?_;refine Az (v1:=[]) (v2:=[pt m]) (vs:=[.agg [T,R,o,z,a].toArray,.agg [y0,y1,y2,y3,y4].toArray]) rfl (eq_ok H m _ _ _ _ ok (G.ext d) (a8.ext d) (fun b S=>(a0 b S).1.eq (d.block b (a0 b S).2.1 O)) (hz _ (List.mem_of_getElem? a9)) (b1.E d O)) rfl ?_;rintro _ w4⟨rfl,K⟩;refine AA ⟨Ext H,fun _ e=>e,K,?_⟩;have Q:=d.trans K;by_cases D:BY (l.getD k Ag) (l.getD (k-1) Ag)=0
   ·rw[decide_eq_true D];refine Bq ?_;repeat refine nx rfl ?_
    refine AJ (Av rfl (AY rfl ?_));refine W_slice_lS rfl rfl U U ?_;((refine AO ?_;refine Av rfl ?_))
    repeat refine nx rfl ?_
    refine AJ (AO (AY rfl ?_));repeat refine nx rfl ?_
    have M:cpN l (k+1)=l.take k:=by rw[cpN,if_pos ⟨by omega,D⟩,List.append_nil,cpN_take k hk a7]
    have b7:(L.take k).flatten++j.toList.drop (k*5)=j.toList:=by
     rw[take_flat L Z,<-P,List.take_take,Nat.min_eq_left U,List.take_append_drop]
    refine Ah (α:=Nat×Nat×List (LV)) (fun|(q,r,_)=>[(0,.slice (some ⟨g,0,none⟩) l.length A),(1,eqV m),(5,.int .i64 (q:Int)),(6,.slice (some ⟨g,0+k*5,none⟩) (l.length-k) (A-k)),(7,.int .i64 (r:Int))])
     (fun y V=>1<=y.2.1/\k+y.2.1<=l.length/\y.1<k+y.2.1/\y.1=(cpN l (k+y.2.1)).length/\Keep [g] w V/\Blk V g 36 (y.2.2.flatten++j.toList.drop (y.1*5))/\FsAt ok w y.2.2 (cpN l (k+y.2.1))) (fun y=>l.length-y.2.1) (k,1,L.take k) ⟨rfl,rfl,rfl,rfl,rfl,trivial⟩
     ⟨by simp,by simp only;omega,by simp only;omega,by simp only;rw[M,List.length_take];omega,Q.any,by simp only;rw[b7];exact a2.E Q O,by simp only;rw[M];exact C.take k⟩ ?_
    rintro⟨q,r,E⟩V fr⟨c2,hr,b3,I,kV,bV,t⟩;simp only at c2 hr b3 I kV bV t;have c:E.flatten.length=q*5:=by rw[t.flat,<-I]
    repeat refine nx rfl ?_
    by_cases c8:r<l.length-k
    ·(refine AJ (AY rfl (Av rfl (Bt rfl ?_)))<;>(refine Dh rfl rfl (fun D=>?_) (fun D=>?_)<;>try omega))
     repeat refine nx rfl ?_
     obtain⟨T,R,o,z,a,a4,a9,G⟩:=C.at (k:=k+r) U;obtain⟨y0,y1,y2,y3,y4,a5,c0,a8⟩:=C.at (k:=k+r-1) U;refine AX (rd 0 10 (.alt 10 (.read 11 .done) .stop)) An Dv (fun H kd ed=>⟨Ext H,?_,?_⟩)
     ·exact Ew
     have d:=kV.ext kd;have bd:=bV.E kd O
     have s1:∀F,Ext H F->Cells F g (0+k*5+r*5) [T,R,o,z,a]:=fun F e=>by
      rw[show 0+k*5+r*5=(k+r)*5 by omega];exact row_cells2 (bd.E e O) c U P Z a4 a1
     have s2:∀F,Ext H F->Cells F g (0+k*5+((r:Int)-1).toNat*5) [y0,y1,y2,y3,y4]:=fun F e=>by
      rw[show 0+k*5+((r:Int)-1).toNat*5=(k+r-1)*5 by omega];exact row_cells2 (bd.E e O) c U P Z a5 a1
     ((apply D_R rfl rfl;(intro W f;refine M_func rfl ?_;exact AA ⟨rfl,rfl,rfl⟩))<;>(apply D_R rfl rfl;(intro W f;refine Av rfl ?_;exact AA ⟨rfl,rfl,rfl⟩))<;>(apply D_R rfl rfl;(intro W f;refine AY rfl ?_;exact AA ⟨rfl,rfl,rfl⟩))<;>(apply D_R rfl rfl;(intro W f;refine Cd rfl rfl rfl U ?_;exact AA ⟨rfl,rfl,rfl⟩))<;>(apply D_R rfl rfl;(intro W f;refine AQ rfl Dx (s1 W f) ?_;exact AA ⟨rfl,rfl,rfl⟩))<;>(apply D_R rfl rfl;(intro W f;refine Av rfl ?_;exact AA ⟨rfl,rfl,rfl⟩))<;>(apply D_R rfl rfl;(intro W f;refine AY rfl ?_;exact AA ⟨rfl,rfl,rfl⟩))<;>(apply D_R rfl rfl;(intro W f;refine W_sub rfl rfl D8 ?_;exact AA ⟨rfl,rfl,rfl⟩))<;>(apply D_R rfl rfl;(intro W f;refine Bd rfl rfl U U ?_;exact AA ⟨rfl,rfl,rfl⟩))<;>(apply D_R rfl rfl;(intro W f;refine AQ rfl Dx (s2 W f) ?_;exact AA ⟨rfl,rfl,rfl⟩)))
     refine D_E rfl ?_;refine Az (v1:=[]) (v2:=[pt m]) (vs:=[.agg [T,R,o,z,a].toArray,.agg [y0,y1,y2,y3,y4].toArray]) rfl (eq_ok H m _ _ _ _ ok (G.E d b0) (a8.E d b0) (fun b S=>(a0 b S).1.eq (d.block b (a0 b S).2.1 (b0 b S))) (hz _ (List.mem_of_getElem? a9)) (b1.E d Dw)) rfl ?_;rintro _ w4⟨rfl,K⟩;refine AA ⟨Ext H,fun _ e=>e,K,?_⟩;have Q:=d.ext K;have b5:=bd.E K O
     have N:cpN l (k+(r+1))=cpN l (k+r)++if BY (l.getD (k+r) Ag) (l.getD (k+r-1) Ag)=0 then[]else[l.getD (k+r) Ag]:=by
      show cpN l (k+r+1)=_;rw[cpN];by_cases h:BY (l.getD (k+r) Ag) (l.getD (k+r-1) Ag)=0
      ·rw[if_pos ⟨by omega,h⟩,if_pos h]
      ·rw[if_neg (fun hh=>h hh.2),if_neg h]
     by_cases a3:BY (l.getD (k+r) Ag) (l.getD (k+r-1) Ag)=0
     ·rw[decide_eq_true a3];rw[if_pos a3,List.append_nil]at N;((apply D_R rfl rfl;(intro W f;refine W_not rfl ?_;exact AA ⟨rfl,rfl,rfl⟩))<;>refine Bq ?_)
      repeat first|refine nx rfl ?_|refine nf rfl ?_
      (refine AJ (AY rfl ?_)<;>refine W_add rfl rfl D8 ?_<;>refine AO (AY rfl ?_))
      repeat refine nx rfl ?_
      refine⟨(q,r+1,E),⟨rfl,⟨rfl,rfl,rfl,rfl,?_,trivial⟩,⟨by simp,by simp only;omega,by simp only;omega,by simp only;rw[N];exact I,Q,b5,by simp only;rw[N];exact t⟩⟩,by simp only;omega⟩;show iV ((r:Int)+1)=_;rw[Int.natCast_add];rfl
     ·rw[decide_eq_false a3];rw[if_neg a3]at N;((apply D_R rfl rfl;(intro W f;refine W_not rfl ?_;exact AA ⟨rfl,rfl,rfl⟩))<;>refine Bq ?_)
      repeat refine nx rfl ?_
      (refine AJ (Av rfl (AY rfl (Av rfl (AY rfl ?_))))<;>refine Cd rfl rfl rfl U ?_)
      refine AQ (L:=[T,R,o,z,a]) rfl rfl (s1 w4 K) ?_;(refine Cd rfl rfl rfl U ?_)
      have b4:q*5+5<=(E.flatten++j.toList.drop (q*5)).length:=by rw[List.length_append,c,List.length_drop,a6];omega
      refine AH (cs:=[T,R,o,z,a]) rfl rfl rfl G.one b5 (by show 0+q*5+5<=_;omega) (fun w5 p5=>?_);repeat refine nx rfl ?_
      (refine AJ (AY rfl ?_)<;>refine W_add rfl rfl D8 ?_<;>refine AO (AY rfl ?_))
      repeat refine nx rfl ?_
      (refine AJ (AY rfl ?_)<;>refine W_add rfl rfl D8 ?_<;>refine AO (AY rfl ?_))
      repeat refine nx rfl ?_
      have e5:splice (E.flatten++j.toList.drop (q*5)) (0+q*5) [T,R,o,z,a]=(E++[[T,R,o,z,a]]).flatten++j.toList.drop ((q+1)*5):=by
       unfold splice;rw[Nat.zero_add,<-c,List.take_left,List.drop_append,List.drop_of_length_le U,List.drop_drop,c,List.nil_append,List.flatten_append];simp[show(q+1)*5=q*5+5 by omega]
      have X:=p5.D;rw[e5]at X;refine⟨(q+1,r+1,E++[[T,R,o,z,a]]),⟨rfl,⟨rfl,rfl,?_,rfl,?_,trivial⟩,⟨by simp,by simp only;omega,by simp only;omega,by simp only;rw[N,List.length_append,<-I];rfl,Q.trans p5.E (fun _ h _=>h),X,by simp only;rw[N];exact t.snoc G rfl⟩⟩,by simp only;omega⟩
      ·show iV ((q:Int)+1)=_;rw[Int.natCast_add];rfl
      ·show iV ((r:Int)+1)=_;rw[Int.natCast_add];rfl
    ·(refine AJ (AY rfl (Av rfl (Bt rfl ?_)))<;>(refine Dh rfl rfl (fun D=>?_) (fun D=>?_)<;>try omega))
     repeat first|refine nx rfl ?_|refine nf rfl ?_
     obtain rfl:r=l.length-k:=by omega
     rw[show k+(l.length-k)=l.length by omega]at I t b3;refine AJ (Av rfl (AY rfl ?_));refine W_slice_lS rfl rfl U U ?_;have b4:0+q*5+(l.length-q)*5<=(E.flatten++j.toList.drop (q*5)).length:=by rw[List.length_append,c,List.length_drop,a6];omega
     refine W_clear (L0:=zero5) rfl U (AW rfl) bV (by rw[show zero5.length=5 from rfl];exact b4) (fun w5 zs hzs p5=>?_);repeat refine nx rfl ?_
     (refine AJ (Av rfl (AY rfl ?_))<;>refine W_slice_h rfl rfl U U ?_<;>refine AO (Av rfl ?_))
     repeat refine nx rfl ?_
     have X:=p5.D;rw[show zero5.length=5 from rfl]at hzs
     have e5:splice (E.flatten++j.toList.drop (q*5)) (0+q*5) zs=E.flatten++(zs++(j.toList.drop (q*5)).drop zs.length):=by
      unfold splice;rw[Nat.zero_add,<-c,List.take_left,List.drop_append,List.drop_of_length_le U,c,List.nil_append,show q*5+zs.length-q*5=zs.length by omega]
     rw[e5]at X;refine AB rfl ⟨kV.trans p5.E (fun _ h _=>h),rfl,E,⟨by rw[t.flat],.inr ⟨g,A,_,?_,hB,X,by omega,b2,?_,?_⟩⟩,t⟩
     ·rw[<-I];rfl
     ·simp only[List.size_toArray,List.length_append,List.length_drop,a6,c,hzs];omega
     ·rw[<-I,<-c];simp
   ·rw[decide_eq_false D];refine go ?_;refine⟨k+1,⟨rfl,⟨rfl,rfl,?_,trivial⟩,⟨by omega,by omega,Q,fun i s hi=>?_⟩⟩,by omega⟩
    ·show iV ((k:Int)+1)=_;rw[Int.natCast_add];rfl
    ·by_cases b9:i=k
     ·subst b9;exact D
     ·exact a7 i s U
  ·refine go ?_;obtain rfl:k=l.length:=by omega
   refine go ?_;have M:cpN l l.length=l:=by rw[cpN_take l.length (Nat.le_refl _) a7,List.take_length]
   rw[M];exact AB rfl ⟨kW.any,rfl,L,Ae ho kW,C⟩
section
variable {mk:Prop}[MK mk]
open Go.ChangeMaps (setBlock)
attribute [local semireducible] WC AT Bo BI Bj Cw DV Be
variable {P:Program}{all:Array Oper}{Z:Fr->DS->List PanicEntry->World->Prop}{K:Fr->DS->World->Prop}{rest:List Oper}{f:Fr}{ds:DS}{w:World}
 {d:Nat}{ty:TypeId}{pos:String}{af:Array Edge}
class VMapT (P:Program) (T:TypeId) (z:outParam Value):Prop where
 out:∃kt et i,P.underlying T=some (.map kt et)/\P.underlying kt=some (.int .i64)/\P.info? et=some i/\i.zero=some z
theorem vmapT_of{T c b:TypeId}{z:Value}(X:P.underlying T=some (.map c b))(W:P.underlying c=some (.int .i64))(Q:(P.info? b).map (·.zero)=some (some z)):VMapT P T z:=by
 obtain⟨i,H,o⟩:=Option.map_eq_some_iff.1 Q;exact⟨c,b,i,X,W,H,o⟩
def encV(p:Int×Value):Value×Value:=(iV p.1,p.2)
theorem intK_inj{a b:Int}(h:iV a=iV b):a=b:=by simpa using h
def rdV(e:MapEntry):Value×Value:=(e.key,e.val)
def VMap(w:World)(r:Nat)(L:List (Int×Value)):Prop:=
 ∃a T,w.heap[r]?=some (.map a T)/\MapKept.Stamped a T/\a.toList.map rdV=L.map encV
theorem VMap.lt{r:Nat}{L:List (Int×Value)}(h:VMap w r L):r<w.heap.size:=by
 obtain⟨a,c,X,_⟩:=h;exact(Array.getElem?_eq_some_iff.1 X).1
theorem VMap.E{X:List Nat}{w':World}{r:Nat}{L:List (Int×Value)}(h:VMap w r L)(k:Keep X w w')(x:r∉X):VMap w' r L:=by
 obtain⟨a,c,b,W,Q⟩:=id h;exact⟨a,c,(k.block r h.lt x).trans b,W,Q⟩
theorem keys_vint{a:List MapEntry}{L:List (Int×Value)}(h:a.map rdV=L.map encV):∀x∈a,MapKept.IsKey (.int .i64) x.key:=by
 intro x T;have:rdV x∈L.map encV:=by rw[<-h];exact List.mem_map.2 ⟨x,T,rfl⟩
 obtain⟨p,_,e⟩:=List.mem_map.1 this;have:x.key=iV p.1:=(congrArg Prod.fst e).symm;rw[this];trivial
theorem vlookup_none{L:List (Int×Value)}{x:Int}(h:∀p∈L,p.1≠x):L.lookup x=none:=by
 induction L with
 |nil=>rfl
 |cons q L ih=>
  exact Fw
theorem vlookup_at{L:List (Int×Value)}(G:(L.map (·.1)).Nodup){p:Int×Value}(v:p∈L):L.lookup p.1=some p.2:=by
 induction L with
 |nil=>cases v
 |cons q L ih=>
  simp only[List.map_cons,List.nodup_cons]at G;obtain⟨a,b⟩:=q;rcases List.mem_cons.1 v with rfl|v
  ·simp[List.lookup]
  ·exact GE
theorem nodup_vint{r:Nat}{L:List (Int×Value)}(h:VMap w r L):(L.map (·.1)).Nodup:=by
 obtain⟨g,c,_,⟨_,_,W⟩,Q⟩:=h
 have e:g.toList.map (·.key)=L.map (fun p=>iV p.1):=by
  have:=congrArg (List.map Prod.fst) Q;simpa[rdV,encV,List.map_map,Function.comp_def]using this
 rw[e]at W;have z:((L.map (·.1)).map (fun x=>iV x)).Nodup:=by rw[List.map_map];exact W
 exact List.Pairwise.of_map _ (fun a b i e=>i (by rw[e])) z
theorem find_vint{c:TypeId}{L:List (Int×Value)}(h:P.underlying c=some (.int .i64)){a:Array MapEntry}(y:a.toList.map rdV=L.map encV)(G:(L.map (·.1)).Nodup)(x:Int)(w:World):
  (L.lookup x=none/\(Instr.findKey c (iV x) a.toList).run P w=.ok none w/\∀e∈a.toList,e.key≠iV x)\/
  ∃i v,L.lookup x=some v/\(Instr.findKey c (iV x) a.toList).run P w=.ok (some (i,v)) w:=by
 have o:∀(i:Nat)(e:MapEntry),a.toList[i]?=some e->∃p,L[i]?=some p/\e.key=iV p.1/\e.val=p.2:=by
  exact FH
 rcases MapKept.findNow_spec (d:=.int .i64) (k:=iV x) rfl a.toList 0 (keys_vint y)with⟨X,W⟩|⟨j,e,X,W,Q⟩
 ·refine .inl ⟨vlookup_none fun p g B=>?_,MapKept.run_findKey h X,W⟩;obtain⟨i,H⟩:=List.getElem?_of_mem g;have:=congrArg (fun l=>l[i]?) y;simp only[List.getElem?_map,H,Option.map_some]at this;obtain⟨e,F,A⟩:=Option.map_eq_some_iff.1 this;refine W e (List.mem_of_getElem? F) ?_;rw[show e.key=iV p.1 from congrArg Prod.fst A,B]
 ·obtain⟨p,g,b,A⟩:=o j e W;rw[Q]at b;have T:=intK_inj b;refine .inr ⟨j,p.2,?_,?_⟩
  ·rw[T];exact vlookup_at G (List.mem_of_getElem? g)
  ·have:=MapKept.run_findKey (P:=P) (w:=w) h X;rw[this,A,Nat.zero_add]
theorem W_makeMapV{T:TypeId}(h:∀w',Ext w w'->w'.heap.size=w.heap.size+1->VMap w' w.heap.size []->AT P all Z K rest (upd f d (.map (some w.heap.size))) ds w'):
  AT P all Z K (⟨some d,.makeMap T none,ty,pos,af,none⟩::rest) f ds w:=by
 refine Aw (v:=.map (some w.heap.size)) (w':=w.alloc (.map #[] 0)) rfl ?_ (h _ ⟨rfl,rfl,rfl,by simp,fun k a _=>heap_alloc_old w _ a,fun _=>mark_new O (fun k a=>heap_alloc_old w _ a) (fun c t b e=>by rw[heap_alloc_new]at e;cases e),Nat.le_refl _⟩ O ⟨#[],0,heap_alloc_new w _,MapKept.stamped_empty 0,rfl⟩);have x:(Instr.makeMap T none).run P w=.ok (.map (some w.heap.size)) (w.alloc (.map #[] 0)):=rfl;simp[execOp,x]
theorem setBlkV_keep{w:World}{r:Nat}{l:Obj}(R:∀c t a,l≠ .cells c t a):Keep [r] w {w with heap:=w.heap.setIfInBounds r l}:=
 ⟨rfl,rfl,rfl,by simp,fun k _ b=>by simp[Ne.symm (show k≠r by simpa using b)],fun _=>mark_obj R,Nat.le_refl _⟩
theorem Ay{T:TypeId}{m k v:Operand}{r:Nat}{x:Int}{y z:Value}{L:List (Int×Value)}[hT:VMapT P T z](t:ev f m=.map (some r))(s:ev f k=iV x)(q:ev f v=y)(e:VMap w r L)(n:L.lookup x=none)
  (h:∀w',Keep [r] w w'->w'.heap.size=w.heap.size->VMap w' r (L++[(x,y)])->AT P all Z K rest f ds w'):AT P all Z K (⟨none,.insert T m k v,ty,pos,af,none⟩::rest) f ds w:=by
 obtain⟨c,u,i,X,W,Q,B⟩:=hT.out;have G:=nodup_vint e;obtain⟨o,a,S,D,g⟩:=e;have p:=MapKept.run_checkKey (P:=P) (w:=w) (k:=iV x) W rfl false 9999;rcases find_vint W g G x w with⟨b,A,E⟩|⟨j,l,b,A⟩
 ·refine W_skp (w':={w with heap:=w.heap.setIfInBounds r (.map (o.push {key:=iV x,val:=y,born:=a}) (a+1))}) rfl ?_ (h _ (setBlkV_keep fun _ _ _ h=>by cases h) O ⟨_,_,(MapKept.heap_set S).1,MapKept.stamped_push D E,?_⟩)
  ·simp[execOp,t,s,q,Instr.mapUpdate,run_underlying X,MapKept.run_getObj_map S,p,A,MapKept.run_setObj_map _ S]
  ·rw[Array.toList_push,List.map_append,g];simp[rdV,encV]
 ·rw[b]at n;cases n
end
section
variable {mk:Prop}[MK mk]
section
attribute [local semireducible] WC AT Bo BI Bj Cw DV Be
variable {P:Program}{all:Array Oper}{Z:Fr->DS->List PanicEntry->World->Prop}{K:Fr->DS->World->Prop}{rest:List Oper}{f:Fr}{ds:DS}{w:World}{d:Nat}{ty:TypeId}{pos:String}{af:Array Edge}
theorem W_lookupV{T:TypeId}{m k:Operand}{r:Nat}{x:Int}{y z:Value}{L:List (Int×Value)}[hT:VMapT P T z](o:ev f m=.map (some r))(n:ev f k=iV x)(e:VMap w r L)(a:L.lookup x=some y)
  (h:AT P all Z K rest (upd f d y) ds w):AT P all Z K (⟨some d,.lookup T m k false,ty,pos,af,none⟩::rest) f ds w:=by
 obtain⟨c,s,i,X,W,Q,t⟩:=hT.out;have G:=nodup_vint e;obtain⟨g,q,S,D,p⟩:=e;refine Aw rfl ?_ h;have l:=MapKept.run_checkKey (P:=P) (w:=w) (k:=iV x) W rfl g.isEmpty 9999;rcases find_vint W p G x w with⟨b,A,_⟩|⟨j,v,b,A⟩
 ·rw[b]at a;cases a
 ·rw[b]at a;cases a;simp[execOp,o,n,Instr.lookup,run_underlying X,MapKept.run_getObj_map S,l,A]
end
instance :VMapT Zp 203 .nilFunc:=vmapT_of Tryz.underlying203 Tryz.underlying3 Dv
instance :VMapT Zp 204 .nilFunc:=vmapT_of Tryz.underlying204 Tryz.underlying3 Dv
abbrev mvR(F:FuncId)(r:Nat):Value:=.func (.func F) #[pt r] #[]
def truT(r:Nat):List (Int×Value):=[(1,mvR 145 r),(2,mvR 146 r),(3,mvR 147 r),(4,mvR 148 r),(5,mvR 149 r),(6,mvR 150 r),(15,mvR 151 r),(16,mvR 152 r),(17,mvR 153 r)]
def rawT(r:Nat):List (Int×Value):=[(5,mvR 154 r),(6,mvR 154 r),(8,mvR 155 r),(9,mvR 156 r),(10,mvR 157 r)]
def Rdr(w:World)(r:Nat)(S:List Sgn)(x:Int):Prop:=∃L K G H s a,Blk w r 206 [.slice L S.length K,.slice G S.length H,.map (some s),.map (some a)]/\SlAt sgnR AV w (.slice L S.length K) S/\
 (∀i,i<S.length->∃g o,G=some ⟨g,o,none⟩/\w.cell? ⟨g,o+i,none⟩=some (iV (valS S x i)))/\VMap w s (truT r)/\VMap w a (rawT r)
theorem Rdr.ext{w w':World}{r:Nat}{S:List Sgn}{x:Int}(h:Rdr w r S x)(k:Ext w w'):Rdr w' r S x:=by
 obtain⟨L,K,G,c,s,b,X,W,Q,z,a⟩:=h;refine⟨L,K,G,c,s,b,X.E k O,W.ext k,fun i H=>?_,z.E k O,a.E k O⟩;obtain⟨g,o,e,V⟩:=Q i H;exact⟨g,o,e,k.cell V O⟩
theorem readerOf_ok(w:World)(sv:Value)(S:List Sgn)(x:Int)(N:SlAt sgnR AV w sv S)(hv:A5 S=true)(a4:0<=x)(a5:x<CQ S)(hK:KY w)(hN:10<=w.heap.size):
  Fn Zp 99 [sv,iV x] w fun u w'=>∃r,u=pt r/\Ext w w'/\Rdr w' r S x:=by
 obtain⟨sa,sc,rfl,_⟩:=N.len;refine AG Tryz.func99 rfl Tryz.ntmps99 (go ?_);refine Ai (L:=[.slice sa S.length sc,.slice none 0 0,.map none,.map none]) rfl (fun b n3=>go ?_);have k3:=n3.E;have z3:=n3.size;have h6:S.length<=6:=(DP hv).2.1;refine Ah (α:=Nat×Value) (fun y=>[(0,.slice sa S.length sc),(1,iV x),(5,pt w.heap.size),(11,iV (S.length:Int)),(12,iV (y.1:Int))]) (fun y W=>y.1<=S.length/\Ext w W/\Blk W w.heap.size 206 [.slice sa S.length sc,y.2,.map none,.map none]/\W.ownsRow b.heap.size 3 1 y.2 y.1 (valsC S x y.1)/\b.heap.size<=W.heap.size) (fun y=>S.length-y.1) (0,.slice none 0 0) ⟨rfl,rfl,rfl,rfl,rfl,trivial⟩ ⟨by simp,k3,n3.D,⟨rfl,.inl ⟨rfl,rfl⟩⟩,Nat.le_refl _⟩ ?_;rintro⟨k,r⟩W fr⟨hk,kW,Q,p,hW⟩;simp only at hk kW Q p hW;refine go ?_;by_cases hlt:k<S.length
 ·refine go ?_;refine AX (rd 0 4 (rd 5 3 (.alt 4 (.alt 8 (.alt 9 (.alt 10 (.read 11 (.read 12 (.alt 13 .done .stop))) .stop) .stop) .stop) (.alt 8 (.alt 4 (.alt 9 (.alt 10 (.read 11 (.read 12 (.alt 13 .done .stop))) .stop) .stop) (.alt 9 (.alt 4 (.alt 10 (.read 11 (.read 12 (.alt 13 .done .stop))) .stop) .stop) .stop)) .stop)))) An Dv (fun wd I ed=>⟨fun _=>True,?_,?_⟩)
  ·trivial
  have P:=kW.trans I;have a1:=Q.E I O;have a6:=Ae p I;have b1:=I.size;refine go ?_;refine D_A rfl ?_ (D_E rfl ?_)
  ·refine AL rfl (a1.cell (o:=1) rfl) ?_;refine wNl trivial ?_;refine D_E rfl ?_;refine AE (value_ok wd _ S x k (N.ext P) (hK.E P O) (Nat.le_trans hN (P).size) hv a4 a5 hlt) rfl ?_;rintro _ wC⟨rfl,kC⟩;have M:=P.trans kC;have K:=a1.E kC O;have a0:=Ae a6 kC;have a9:=kC.size;refine wNl trivial ?_;refine D_E rfl ?_;refine AP (out:=[iV (valS S x k)]) rfl U (by rw[madeInt];rfl) (fun wB G=>?_);have kB:=G.E;have C:=G.own (n:=1) (size:=1) rfl D3 (Nat.le_refl _);have z:=M.trans kB;have E:=K.E kB O;have D:=Ae a0 kB;have a7:=kB.size;refine wNl trivial ?_;refine D_E rfl ?_;refine Ap (ok:=AV) rfl rfl D (Aa C fun _ _=>trivial) U rfl rfl (AW rfl) U U U (fun B w7 c=>?_);refine wNl trivial ?_;refine go ?_;refine D_E rfl ?_;have a:∀g,r.ownBlock=some g->b.heap.size<=g:=fun g t=>(Ad D t).1;have z7:=c.E.size;have A:∀g,B.ownBlock=some g->b.heap.size<=g:=fun g t=>(Ad c.own t).1;refine AR (v:=B) rfl rfl (own_oneC' c.own) (E.E c.E (fun T=>by have:=a _ (Option.mem_toList.1 T);omega)) O (fun w8 d=>?_);refine wNl trivial ?_;refine go ?_;refine⟨(k+1,B),⟨rfl,⟨rfl,rfl,rfl,rfl,?_,trivial⟩,⟨by(try simp only);omega,?_,d.D,?_,by have:=d.size;(try simp only);omega⟩⟩,by simp only;omega⟩
   ·show iV ((k:Int)+1)=_;rw[Int.natCast_add];rfl
   ·exact FF
   ·exact Ff
  refine AE (value_ok wd _ S x k (N.ext P) (hK.E P O) (Nat.le_trans hN (P).size) hv a4 a5 hlt) rfl ?_;rintro _ wC⟨rfl,kC⟩;have M:=P.trans kC;have K:=a1.E kC O;have a0:=Ae a6 kC;have a9:=kC.size;refine wNl trivial ?_;refine D_A rfl ?_ (D_E rfl ?_)
  ·refine AL rfl (K.cell (o:=1) rfl) ?_;refine wNl trivial ?_;refine D_E rfl ?_;refine AP (out:=[iV (valS S x k)]) rfl U (by rw[madeInt];rfl) (fun wB G=>?_);have kB:=G.E;have C:=G.own (n:=1) (size:=1) rfl D3 (Nat.le_refl _);have z:=M.trans kB;have E:=K.E kB O;have D:=Ae a0 kB;have a7:=kB.size;refine wNl trivial ?_;refine D_E rfl ?_;refine Ap (ok:=AV) rfl rfl D (Aa C fun _ _=>trivial) U rfl rfl (AW rfl) U U U (fun B w7 c=>?_);refine wNl trivial ?_;refine go ?_;refine D_E rfl ?_;have a:∀g,r.ownBlock=some g->b.heap.size<=g:=fun g t=>(Ad D t).1;have z7:=c.E.size;have A:∀g,B.ownBlock=some g->b.heap.size<=g:=fun g t=>(Ad c.own t).1;refine AR (v:=B) rfl rfl (own_oneC' c.own) (E.E c.E (fun T=>by have:=a _ (Option.mem_toList.1 T);omega)) O (fun w8 d=>?_);refine wNl trivial ?_;refine go ?_;refine⟨(k+1,B),⟨rfl,⟨rfl,rfl,rfl,rfl,?_,trivial⟩,⟨by(try simp only);omega,?_,d.D,?_,by have:=d.size;(try simp only);omega⟩⟩,by simp only;omega⟩
   ·show iV ((k:Int)+1)=_;rw[Int.natCast_add];rfl
   ·exact FF
   ·exact Ff
  refine AP (out:=[iV (valS S x k)]) rfl U (by rw[madeInt];rfl) (fun wB G=>?_);have kB:=G.E;have C:=G.own (n:=1) (size:=1) rfl D3 (Nat.le_refl _);have z:=M.trans kB;have E:=K.E kB O;have D:=Ae a0 kB;have a7:=kB.size;refine wNl trivial ?_;refine D_E rfl ?_;refine AL rfl (E.cell (o:=1) rfl) ?_;refine wNl trivial ?_;refine D_E rfl ?_;refine Ap (ok:=AV) rfl rfl D (Aa C fun _ _=>trivial) U rfl rfl (AW rfl) U U U (fun B w7 c=>?_);refine wNl trivial ?_;refine go ?_;refine D_E rfl ?_;have a:∀g,r.ownBlock=some g->b.heap.size<=g:=fun g t=>(Ad D t).1;have z7:=c.E.size;have A:∀g,B.ownBlock=some g->b.heap.size<=g:=fun g t=>(Ad c.own t).1;refine AR (v:=B) rfl rfl (own_oneC' c.own) (E.E c.E (fun T=>by have:=a _ (Option.mem_toList.1 T);omega)) O (fun w8 d=>?_);refine wNl trivial ?_;refine go ?_;refine⟨(k+1,B),⟨rfl,⟨rfl,rfl,rfl,rfl,?_,trivial⟩,⟨by(try simp only);omega,?_,d.D,?_,by have:=d.size;(try simp only);omega⟩⟩,by simp only;omega⟩
  ·show iV ((k:Int)+1)=_;rw[Int.natCast_add];rfl
  ·exact FF
  ·exact Ff
 ·refine go ?_;obtain rfl:k=S.length:=by omega
  obtain⟨ra,rc,er,_⟩:=own_ints p;subst er;refine go ?_;refine W_makeMapV (fun wa ya za ma=>go ?_);refine Ay rfl rfl rfl ma rfl (fun wb X f mb=>?_);have yb:=(ya).E X O;replace f:=f.trans za;refine go ?_;refine Ay rfl rfl rfl mb rfl (fun wc Z l mc=>?_);have yc:=(yb).E Z O;replace l:=l.trans f;refine go ?_;refine Ay rfl rfl rfl mc rfl (fun wd I j md=>?_);have yd:=(yc).E I O;replace j:=j.trans l;refine go ?_;refine Ay rfl rfl rfl md rfl (fun we ke q me=>?_);have ye:=(yd).E ke O;replace q:=q.trans j;refine go ?_;refine Ay rfl rfl rfl me rfl (fun wf kf m mf=>?_);have e:=(ye).E kf O;replace m:=m.trans q;refine go ?_;refine Ay rfl rfl rfl mf rfl (fun wg kg zg mg=>?_);have yg:=(e).E kg O;replace zg:=zg.trans m;refine go ?_;refine Ay rfl rfl rfl mg rfl (fun wh kh zh mh=>?_);have yh:=(yg).E kh O;replace zh:=zh.trans zg;refine go ?_;refine Ay rfl rfl rfl mh rfl (fun wi ki zi mi=>?_);have yi:=(yh).E ki O;replace zi:=zi.trans zh;refine go ?_;refine Ay rfl rfl rfl mi rfl (fun wj kj zj mj=>?_);have yj:=(yi).E kj O;replace zj:=zj.trans zi;have b0:=Q.lt;refine go ?_;refine AR (v:=.map (some W.heap.size)) rfl rfl rfl (Q.E yj O) O (fun V s=>go ?_);have zV:V.heap.size=W.heap.size+1:=by rw[s.size,zj]
  have m1:VMap V W.heap.size (truT w.heap.size):=mj.E s.E Dw;have eV:Ext w V:=(kW.trans yj).E s.E O;have oV:=Ac (Ac p yj (fun g t=>by simp)) s.E (fun g t=>by have:=(Ad p t).1;simp;omega);have bV:=s.D;clear mj ma mb mc md me mf mg mh mi yj s Q p ya yb yc yd ye e yg yh yi X Z I ke kf kg kh ki kj;refine go ?_;refine W_makeMapV (fun wa ya za ma=>go ?_);refine Ay rfl rfl rfl ma rfl (fun wb X f mb=>?_);have yb:=(ya).E X O;replace f:=f.trans za;refine go ?_;refine Ay rfl rfl rfl mb rfl (fun wc Z l mc=>?_);have yc:=(yb).E Z O;replace l:=l.trans f;refine go ?_;refine Ay rfl rfl rfl mc rfl (fun wd I j md=>?_);have yd:=(yc).E I O;replace j:=j.trans l;refine go ?_;refine Ay rfl rfl rfl md rfl (fun we ke q me=>?_);have ye:=(yd).E ke O;replace q:=q.trans j;refine go ?_;refine Ay rfl rfl rfl me rfl (fun wf kf m mf=>?_);have e:=(ye).E kf O;replace m:=m.trans q;refine go ?_;refine AR (v:=.map (some V.heap.size)) rfl rfl rfl (bV.E e O) O (fun H R=>go ?_);have m2:VMap H V.heap.size (rawT w.heap.size):=mf.E R.E Dw;have m3:VMap H W.heap.size (truT w.heap.size):=(m1.E e O).E R.E Dw;have eU:Ext w H:=(eV.trans e).E R.E O;have oU:=Ac (Ac oV e (fun g t=>by simp)) R.E (fun g t=>by have:=(Ad oV t).1;simp;omega);have T:=own_ints oU;have bU:=R.D;clear R oU oV;obtain⟨a2,c2,er,a3⟩:=T;have e1:ra=a2:=(Value.slice.inj er).1;rw[<-e1]at a3;have a8:∀i,i<S.length->∃g o,ra=some ⟨g,o,none⟩/\H.cell? ⟨g,o+i,none⟩=some (iV (valS S x i)):=fun i hi=>a3 i _ (by simp[valsC,hi]);exact AB rfl ⟨_,rfl,eU,sa,sc,ra,rc,_,_,bU,N.ext eU,a8,m3,m2⟩
end
end Go.Proofs.YtohodbnnhlddpaaGreatDoor
