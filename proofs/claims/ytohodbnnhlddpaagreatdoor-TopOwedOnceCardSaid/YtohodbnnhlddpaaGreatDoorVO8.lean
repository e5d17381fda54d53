/- TopOwedOnce, part 8 of 14: rules, lemmas, walks. Conditions: none. -/
import Derived.Test.YtohodbnnhlddpaaGreatDoorVO7
namespace Go.Proofs.YtohodbnnhlddpaaGreatDoor
open Go.RowKit
set_option linter.unusedVariables false
section
variable {mk:Prop}[MK mk]
section
variable {α:Type}{p:α->Bool}{l:List α}{k:Nat}{y:α}
theorem all_stop(F:l[k]?=some y)(q:p y=false):l.all p=false:=by
 rw[<-Bool.not_eq_true,List.all_eq_true];intro h;have:=h _ (List.mem_of_getElem? F);rw[q]at this;cases this
theorem all_done(h:∀(i:Nat)(y:α),i<l.length->l[i]?=some y->p y=true):l.all p=true:=by
 rw[List.all_eq_true];intro z o;obtain⟨i,H⟩:=List.getElem?_of_mem o;exact h i z (List.getElem?_eq_some_iff.1 H).1 H
theorem any_stop(F:l[k]?=some y)(q:p y=true):l.any p=true:=by
 rw[List.any_eq_true];exact⟨y,List.mem_of_getElem? F,q⟩
theorem any_done(h:∀(i:Nat)(y:α),i<l.length->l[i]?=some y->p y=false):l.any p=false:=by
 rw[List.any_eq_false];intro z o;obtain⟨i,H⟩:=List.getElem?_of_mem o;rw[h i z (List.getElem?_eq_some_iff.1 H).1 H];exact Bool.false_ne_true
end
theorem pastL_all:∀l:LF,pastL l=l.all CC
 | []=>rfl
 |a::l=>by rw[pastL,pastL_all l];rfl
theorem rpast_ok:∀(n:Nat)(w:World)(b o:Nat)(f:Fml),dpF f<=n->PF AV w b o f->Fn Zp 191 [.pointer (some ⟨b,o,none⟩)] w fun u w'=>u=.bool (CC f)/\Ext w w':=by
 intro n
 induction n with
 |zero=>intro w b o f G;rw[BQ]at G;omega
 |succ n ih=>
 intro w b o f G K;rw[BQ]at G;obtain⟨r,S,a0,q0,q1,q2,q3,Q,Z⟩:=K.all;obtain⟨N,nm,v,m,c⟩:=f;simp only[Fml.op,Fml.name,Fml.val,Fml.args]at*
 have t:∀(k:Nat)(a:Fml),c[k]?=some a->∀W,Ext w W->∃d h,r=some ⟨d,h,none⟩/\Fn Zp 191 [.pointer (some ⟨d,h+k*5,none⟩)] W fun u w'=>u=.bool (CC a)/\Ext W w':=fun k a I W D=>by
  obtain⟨d,h,e,M⟩:=Z k a I;have L:=List.mem_of_getElem? I;have:=Bi L;exact⟨d,h,e,ih W d _ a U (M.E D (fun _ _=>by simp))⟩
 refine AG Tryz.func191 rfl Tryz.ntmps191 (go ?_);rw[CC];by_cases B:N=8
 ·subst B;exact E8
 by_cases q:N=9
 ·subst q;exact E8
 by_cases j:N=10
 ·subst j;exact E8
 have P:(!(decide (N=8)||decide (N=9)||decide (N=10))&&pastL c)=c.all CC:=by
  rw[pastL_all];simp[B,q,j]
 rw[P];refine go ?_;refine Ah (α:=Nat) (fun k=>[(0,.pointer (some ⟨b,o,none⟩)),(27,iV (c.length:Int)),(28,iV (k:Int))]) (fun k W=>k<=c.length/\Ext w W/\∀(i:Nat)(y:Fml),i<k->c[i]?=some y->CC y=true) (fun k=>c.length-k) 0 (by repeat (first|exact trivial|refine⟨rfl,?_⟩)) ⟨by omega,Ext.refl _,fun i y H=>by omega⟩ ?_;rintro k W T⟨X,V,E⟩;have a1:=V.cell Q O;refine go ?_;by_cases C:k<c.length
 ·refine go ?_;obtain⟨y,F⟩:∃y,c[k]?=some y:=⟨_,List.getElem?_eq_getElem C⟩;obtain⟨d,h,rfl,x⟩:=t k y F W V;refine go ?_;refine AE x rfl ?_;rintro _ w4⟨rfl,R⟩;have s:=V.trans R;cases hv:CC y with
  |true=>
   refine go ?_;refine⟨k+1,⟨rfl,⟨(by repeat (first|exact trivial|refine⟨rfl,?_⟩)),⟨by omega,s,fun i z H g=>?_⟩⟩⟩,by omega⟩;by_cases A:i=k
   ·subst A;rw[F]at g;cases g;exact hv
   ·exact E i z U g
  |false=>
   refine go ?_;exact AB rfl ⟨congrArg Value.bool (all_stop F hv).symm,s⟩
 ·refine go ?_;exact AB rfl ⟨congrArg Value.bool (all_done fun i z H g=>E i z U g).symm,V⟩
theorem rnow_of(w:World)(r:Nat)(S:List Sgn)(x:Int)(F:FuncId)[hF:AF Zp F](b o:Nat)(f:Fml)(q:Rdr w r S x)(K:PF AV w b o f)(M:(truT r).lookup f.op=some (mvR F r))(v:Bool)
  (A:∀W,Ext w W->Fn Zp F [pt r,.pointer (some ⟨b,o,none⟩)] W fun u w'=>u=.bool v/\Ext W w'):Fn Zp 188 [pt r,.pointer (some ⟨b,o,none⟩)] w fun u w'=>u=.bool v/\Ext w w':=by
 obtain⟨L,D,B,C,s,t,d,j,n,h,z⟩:=q;have g:=K.opc;refine AG Tryz.func188 rfl Tryz.ntmps188 (go ?_);refine AX (rd 0 10 (.alt 10 (.read 11 .done) .stop)) An Dv (fun H I G=>⟨Ext H,?_,?_⟩)
 ·exact Ew
 have m:∀V,Ext H V->V.cell? ⟨r,0+2,none⟩=some (.map (some s)):=fun V e=>(d.E (I.trans e) O).cell rfl;have N:∀V,Ext H V->V.cell? ⟨b,o+0,none⟩=some (iV f.op):=fun V e=>(I.trans e).cell g O;((apply D_R rfl rfl;(intro W c;refine Af rfl ?_;exact AA ⟨rfl,rfl,rfl⟩))<;>(apply D_R rfl rfl;(intro W c;refine AM rfl ?_;exact AA ⟨rfl,rfl,rfl⟩))<;>(apply D_R rfl rfl;(intro W c;refine AD rfl ?_;exact AA ⟨rfl,rfl,rfl⟩))<;>(apply D_R rfl rfl;(intro W c;refine AL rfl (m W c) ?_;exact AA ⟨rfl,rfl,rfl⟩))<;>(apply D_R rfl rfl;(intro W c;refine Af rfl ?_;exact AA ⟨rfl,rfl,rfl⟩))<;>(apply D_R rfl rfl;(intro W c;refine AM rfl ?_;exact AA ⟨rfl,rfl,rfl⟩))<;>(apply D_R rfl rfl;(intro W c;refine AD rfl ?_;exact AA ⟨rfl,rfl,rfl⟩))<;>(apply D_R rfl rfl;(intro W c;refine AL rfl (N W c) ?_;exact AA ⟨rfl,rfl,rfl⟩)))
 refine D_R rfl rfl (fun V i=>by refine W_lookupV rfl rfl (h.E (I.trans i) O) M ?_;exact AA ⟨rfl,rfl,rfl⟩) ?_;refine go ?_;refine D_E rfl ?_;refine Az (v1:=[pt r]) (v2:=[]) (vs:=[.pointer (some ⟨b,o,none⟩)]) rfl (A H I) rfl ?_;rintro _ E⟨rfl,a⟩;refine AA ⟨Ext H,fun _ e=>e,a,?_⟩;refine go ?_;exact AB rfl ⟨rfl,I.trans a⟩
theorem ralways_ok(w:World)(r:Nat)(p:Value):Fn Zp 145 [pt r,p] w fun u w'=>u=.bool true/\Ext w w':=by
 refine AG Tryz.func145 rfl Tryz.ntmps145 (go ?_);exact AB rfl ⟨rfl,Ext.refl _⟩
theorem rnever_ok(w:World)(r:Nat)(p:Value):Fn Zp 146 [pt r,p] w fun u w'=>u=.bool false/\Ext w w':=by
 refine AG Tryz.func146 rfl Tryz.ntmps146 (go ?_);exact AB rfl ⟨rfl,Ext.refl _⟩
theorem ryest_ok(w:World)(r b o:Nat)(f:Fml)(K:PF AV w b o f):Fn Zp 151 [pt r,.pointer (some ⟨b,o,none⟩)] w fun u w'=>u=.bool (decide (f.val=1))/\Ext w w':=by
 obtain⟨_,_,_,_,_,X,_⟩:=K.all;by_cases q:f.val=1
 ·refine AG Tryz.func151 rfl Tryz.ntmps151 (go ?_);exact AB rfl ⟨by rw[decide_eq_true q];rfl,Ext.refl _⟩
 ·refine AG Tryz.func151 rfl Tryz.ntmps151 (go ?_);exact AB rfl ⟨by rw[decide_eq_false q];rfl,Ext.refl _⟩
def ArgN(w:World)(r:Nat)(x:Vl)(c:Option Addr)(args:LF):Prop:=∀(k:Nat)(a:Fml),args[k]?=some a->∀W,Ext w W->∃n b,c=some ⟨n,b,none⟩/\Fn Zp 188 [pt r,.pointer (some ⟨n,b+k*5,none⟩)] W fun u Z=>u=.bool (Bw x a)/\Ext W Z
theorem rnot_ok(w:World)(r b o:Nat)(x:Vl)(args:LF)(a:Fml)(c:Option Addr)(z:Nat)(q4:w.cell? ⟨b,o+4,none⟩=some (.slice c args.length z))(F:ArgN w r x c args)(I:args=[a]):
  Fn Zp 148 [pt r,.pointer (some ⟨b,o,none⟩)] w fun u w'=>u=.bool (!Bw x a)/\Ext w w':=by
 subst I;obtain⟨n,d,rfl,E⟩:=F 0 a rfl w (Ext.refl _);simp only[List.length_singleton]at q4;refine AG Tryz.func148 rfl Tryz.ntmps148 (go ?_);refine AE E rfl ?_;rintro _ R⟨rfl,f⟩;exact FA
theorem rand_ok(w:World)(r b o:Nat)(x:Vl)(args:LF)(d:Option Addr)(f:Nat)(G:args.length<=9223372036854775807)(q4:w.cell? ⟨b,o+4,none⟩=some (.slice d args.length f))(g:ArgN w r x d args):
  Fn Zp 149 [pt r,.pointer (some ⟨b,o,none⟩)] w fun u w'=>u=.bool (args.all (Bw x))/\Ext w w':=by
 refine AG Tryz.func149 rfl Tryz.ntmps149 (go ?_);refine Ah (α:=Nat) (fun k=>[(0,pt r),(1,.pointer (some ⟨b,o,none⟩)),(10,iV (args.length:Int)),(11,iV (k:Int))]) (fun k W=>k<=args.length/\Ext w W/\∀(i:Nat)(y:Fml),i<k->args[i]?=some y->Bw x y=true) (fun k=>args.length-k) 0 (by repeat (first|exact trivial|refine⟨rfl,?_⟩)) ⟨by omega,Ext.refl _,fun i y H=>by omega⟩ ?_;rintro k W Z⟨j,V,E⟩;have q:=V.cell q4 O;refine go ?_;by_cases B:k<args.length
 ·refine go ?_;obtain⟨y,F⟩:∃y,args[k]?=some y:=⟨_,List.getElem?_eq_getElem B⟩;obtain⟨n,m,rfl,h⟩:=g k y F W V;refine go ?_;refine AE h rfl ?_;rintro _ s⟨rfl,a⟩;have e:=V.trans a;cases hv:Bw x y with
  |true=>
   refine go ?_;refine⟨k+1,⟨rfl,⟨(by repeat (first|exact trivial|refine⟨rfl,?_⟩)),⟨by omega,e,fun i z H c=>?_⟩⟩⟩,by omega⟩;by_cases I:i=k
   ·subst I;rw[F]at c;cases c;exact hv
   ·exact E i z U c
  |false=>
   refine go ?_;exact AB rfl ⟨congrArg Value.bool (all_stop F hv).symm,e⟩
 ·refine go ?_;exact AB rfl ⟨congrArg Value.bool (all_done fun i z H c=>E i z U c).symm,V⟩
theorem ror_ok(w:World)(r b o:Nat)(x:Vl)(args:LF)(d:Option Addr)(f:Nat)(G:args.length<=9223372036854775807)(q4:w.cell? ⟨b,o+4,none⟩=some (.slice d args.length f))(g:ArgN w r x d args):
  Fn Zp 150 [pt r,.pointer (some ⟨b,o,none⟩)] w fun u w'=>u=.bool (args.any (Bw x))/\Ext w w':=by
 refine AG Tryz.func150 rfl Tryz.ntmps150 (go ?_);refine Ah (α:=Nat) (fun k=>[(0,pt r),(1,.pointer (some ⟨b,o,none⟩)),(10,iV (args.length:Int)),(11,iV (k:Int))]) (fun k W=>k<=args.length/\Ext w W/\∀(i:Nat)(y:Fml),i<k->args[i]?=some y->Bw x y=false) (fun k=>args.length-k) 0 (by repeat (first|exact trivial|refine⟨rfl,?_⟩)) ⟨by omega,Ext.refl _,fun i y H=>by omega⟩ ?_;rintro k W Z⟨j,V,E⟩;have q:=V.cell q4 O;refine go ?_;by_cases B:k<args.length
 ·refine go ?_;obtain⟨y,F⟩:∃y,args[k]?=some y:=⟨_,List.getElem?_eq_getElem B⟩;obtain⟨n,m,rfl,h⟩:=g k y F W V;refine go ?_;refine AE h rfl ?_;rintro _ s⟨rfl,a⟩;have e:=V.trans a;cases hv:Bw x y with
  |false=>
   refine go ?_;refine⟨k+1,⟨rfl,⟨(by repeat (first|exact trivial|refine⟨rfl,?_⟩)),⟨by omega,e,fun i z H c=>?_⟩⟩⟩,by omega⟩;by_cases I:i=k
   ·subst I;rw[F]at c;cases c;exact hv
   ·exact E i z U c
  |true=>
   refine go ?_;exact AB rfl ⟨congrArg Value.bool (any_stop F hv).symm,e⟩
 ·refine go ?_;exact AB rfl ⟨congrArg Value.bool (any_done fun i z H c=>E i z U c).symm,V⟩
theorem rsince_ok(w:World)(r b o:Nat)(x:Vl)(v:Int)(args:LF)(a c:Fml)(d:Option Addr)(z:Nat)(q2:w.cell? ⟨b,o+2,none⟩=some (iV v))(q4:w.cell? ⟨b,o+4,none⟩=some (.slice d args.length z))(F:ArgN w r x d args)(I:args=[a,c]):
  Fn Zp 152 [pt r,.pointer (some ⟨b,o,none⟩)] w fun u w'=>u=.bool (Bw x c||(decide (v=1)&&Bw x a))/\Ext w w':=by
 subst I;obtain⟨n,h,rfl,E⟩:=F 1 c rfl w (Ext.refl _);simp only[List.length_cons,List.length_nil]at q4;refine AG Tryz.func152 rfl Tryz.ntmps152 (go ?_);refine AE E rfl ?_;rintro _ R⟨rfl,f⟩;have i:=f.cell q2 O;have t:=f.cell q4 O;obtain⟨_,_,A,e⟩:=F 0 a rfl R f;cases A;cases hc1:Bw x c with
 |true=>
  exact FA
 |false=>
  by_cases q:v=1
  ·subst q;refine go ?_;refine AE e rfl ?_;rintro _ L⟨rfl,g⟩;refine go ?_;exact AB rfl ⟨rfl,f.trans g⟩
  ·rw[decide_eq_false q];exact FA
theorem rtrig_ok(w:World)(r b o:Nat)(x:Vl)(v:Int)(args:LF)(a c:Fml)(d:Option Addr)(z:Nat)(q2:w.cell? ⟨b,o+2,none⟩=some (iV v))(q4:w.cell? ⟨b,o+4,none⟩=some (.slice d args.length z))(F:ArgN w r x d args)(I:args=[a,c]):
  Fn Zp 153 [pt r,.pointer (some ⟨b,o,none⟩)] w fun u w'=>u=.bool (Bw x c&&(decide (v=1)||Bw x a))/\Ext w w':=by
 subst I;obtain⟨n,h,rfl,E⟩:=F 1 c rfl w (Ext.refl _);simp only[List.length_cons,List.length_nil]at q4;refine AG Tryz.func153 rfl Tryz.ntmps153 (go ?_);refine AE E rfl ?_;rintro _ R⟨rfl,f⟩;have i:=f.cell q2 O;have t:=f.cell q4 O;obtain⟨_,_,A,e⟩:=F 0 a rfl R f;cases A;cases hc1:Bw x c with
 |false=>
  exact FA
 |true=>
  by_cases q:v=1
  ·subst q;exact FA
  ·rw[decide_eq_false q];refine go ?_;refine AE e rfl ?_;rintro _ L⟨rfl,g⟩;refine go ?_;exact AB rfl ⟨rfl,f.trans g⟩
theorem ris_ok(w:World)(r b o:Nat)(S:List Sgn)(x:Int)(nm:LU)(v:Int)(q:Rdr w r S x)(q1:w.cell? ⟨b,o+1,none⟩=some (AK nm))(q2:w.cell? ⟨b,o+2,none⟩=some (iV v))(P:knS S nm v=true):
  Fn Zp 147 [pt r,.pointer (some ⟨b,o,none⟩)] w fun u w'=>u=.bool (decide (vlS S x nm=v))/\Ext w w':=by
 obtain⟨j,s,z,D,R⟩:=kn_find P;obtain⟨Q,K,Z,C,X,T,c,m,A,_,_⟩:=q;have n:=(List.getElem?_eq_some_iff.1 D).1;obtain⟨N,h,rfl,M⟩:=A j n;have t:Di S nm=(j:Int):=by unfold Di;rw[z]
 have B:vlS S x nm=valS S x j:=by unfold vlS;rw[z]
 rw[B];refine AG Tryz.func147 rfl Tryz.ntmps147 (go ?_);refine AX (rd 0 12 (rd 15 4 (.alt 12 (.read 13 (.read 14 (.read 19 (.read 20 .done)))) .stop))) An Dv (fun H I G=>⟨Ext H,?_,?_⟩)
 ·exact Ew
 have g:∀V,Ext H V->V.cell? ⟨r,0+0,none⟩=some (.slice Q S.length K):=fun V e=>(c.E (I.trans e) O).cell rfl;have E:∀V,Ext H V->V.cell? ⟨r,0+1,none⟩=some (.slice (some ⟨N,h,none⟩) S.length C):=fun V e=>(c.E (I.trans e) O).cell rfl;have F:∀V,Ext H V->V.cell? ⟨b,o+1,none⟩=some (AK nm):=fun V e=>(I.trans e).cell q1 O;have i:∀V,Ext H V->V.cell? ⟨b,o+2,none⟩=some (iV v):=fun V e=>(I.trans e).cell q2 O;have L:∀V,Ext H V->V.cell? ⟨N,h+j,none⟩=some (iV (valS S x j)):=fun V e=>(I.trans e).cell M O;((apply D_R rfl rfl;(intro W f;refine Af rfl ?_;exact AA ⟨rfl,rfl,rfl⟩))<;>(apply D_R rfl rfl;(intro W f;refine AM rfl ?_;exact AA ⟨rfl,rfl,rfl⟩))<;>(apply D_R rfl rfl;(intro W f;refine AD rfl ?_;exact AA ⟨rfl,rfl,rfl⟩))<;>(apply D_R rfl rfl;(intro W f;refine AL rfl (E W f) ?_;exact AA ⟨rfl,rfl,rfl⟩))<;>(apply D_R rfl rfl;(intro W f;refine Af rfl ?_;exact AA ⟨rfl,rfl,rfl⟩))<;>(apply D_R rfl rfl;(intro W f;refine AM rfl ?_;exact AA ⟨rfl,rfl,rfl⟩))<;>(apply D_R rfl rfl;(intro W f;refine AD rfl ?_;exact AA ⟨rfl,rfl,rfl⟩))<;>(apply D_R rfl rfl;(intro W f;refine AL rfl (g W f) ?_;exact AA ⟨rfl,rfl,rfl⟩))<;>(apply D_R rfl rfl;(intro W f;refine Af rfl ?_;exact AA ⟨rfl,rfl,rfl⟩))<;>(apply D_R rfl rfl;(intro W f;refine AM rfl ?_;exact AA ⟨rfl,rfl,rfl⟩))<;>(apply D_R rfl rfl;(intro W f;refine AD rfl ?_;exact AA ⟨rfl,rfl,rfl⟩))<;>(apply D_R rfl rfl;(intro W f;refine AL rfl (F W f) ?_;exact AA ⟨rfl,rfl,rfl⟩))<;>(apply D_R rfl rfl;(intro W f;refine Af rfl ?_;exact AA ⟨rfl,rfl,rfl⟩))<;>(apply D_R rfl rfl;(intro W f;refine AM rfl ?_;exact AA ⟨rfl,rfl,rfl⟩))<;>(apply D_R rfl rfl;(intro W f;refine AD rfl ?_;exact AA ⟨rfl,rfl,rfl⟩))<;>(apply D_R rfl rfl;(intro W f;refine AL rfl (i W f) ?_;exact AA ⟨rfl,rfl,rfl⟩)))
 refine D_E rfl ?_;refine AE (sigFind_ok H _ S nm (m.ext I)) rfl ?_;rintro _ H⟨rfl,rfl⟩;rw[t];refine AA ⟨Ext H,fun _ e=>e,Ext.refl _,?_⟩;by_cases d:valS S x j=v
 ·((apply D_R rfl rfl;(intro W f;refine W_idx1 rfl rfl rfl U ?_;exact AA ⟨rfl,rfl,rfl⟩))<;>(apply D_R rfl rfl;(intro W f;refine AL rfl (L W f) ?_;exact AA ⟨rfl,rfl,rfl⟩))<;>(refine D_eql rfl rfl rfl rfl (fun a=>?_) (fun a=>?_)<;>try omega)<;>(apply D_R rfl rfl;(intro W f;(refine AO ?_;refine AI rfl ?_);exact AA ⟨rfl,rfl,rfl⟩))<;>refine Bq ?_)
  refine go ?_;exact AB rfl ⟨by rw[decide_eq_true d];rfl,I⟩
 ·((apply D_R rfl rfl;(intro W f;refine W_idx1 rfl rfl rfl U ?_;exact AA ⟨rfl,rfl,rfl⟩))<;>(apply D_R rfl rfl;(intro W f;refine AL rfl (L W f) ?_;exact AA ⟨rfl,rfl,rfl⟩))<;>(refine D_eql rfl rfl rfl rfl (fun a=>?_) (fun a=>?_)<;>try omega)<;>(apply D_R rfl rfl;(intro W f;(refine AO ?_;refine AI rfl ?_);exact AA ⟨rfl,rfl,rfl⟩))<;>refine Bq ?_)
  refine go ?_;exact AB rfl ⟨by rw[decide_eq_false d];rfl,I⟩
theorem rnow_ok(P:World)(r:Nat)(S:List Sgn)(x:Int)(q:Rdr P r S x):∀(n:Nat)(w:World)(b o:Nat)(f:Fml)(i:Bool),dpF f<=n->Ext P w->PF AV w b o f->BC i f=true->CC f=true->isB (knS S) f=true->
  Fn Zp 188 [pt r,.pointer (some ⟨b,o,none⟩)] w fun u w'=>u=.bool (Bw (vlS S x) f)/\Ext w w':=by
 intro n
 induction n with
 |zero=>intro w b o f i B;rw[BQ]at B;omega
 |succ n ih=>
 intro w b o f i B d K T C hk;rw[BQ]at B;have h:=q.ext d;obtain⟨s,z,H,q0,N,X,q3,Q,Z⟩:=K.all;have j:=K;obtain⟨op,m,v,bd,g⟩:=f;obtain⟨a4,a6,_,a0⟩:=CZ T;have E:=BR a6;obtain⟨a1,a2⟩:=is_iff.1 hk;rw[nowM_eq];simp only[CC,Bool.and_eq_true,Bool.not_eq_true',Bool.or_eq_false_iff,decide_eq_false_iff_not]at C;obtain⟨⟨⟨a8,a9⟩,a7⟩,a5⟩:=C;simp only[Fml.op,Fml.name,Fml.val,Fml.args]at B H q0 N X q3 Q Z⊢;have hc:=Bg a4
 have F:ArgN w r (vlS S x) s g:=fun k a I W M=>by
  obtain⟨L,o',e,C⟩:=Z k a I;have t:=List.mem_of_getElem? I;have:=Bi t;exact⟨L,o',e,ih W L _ a _ U (d.trans M) (C.E M (fun _ _=>by simp)) (a0 a t) (pastL_mem a5 t) (a2 a t)⟩
 have G:∀W,Ext w W->ArgN W r (vlS S x) s g:=fun W e k a I V R=>F k a I V (e.trans R);rcases hc with rfl|rfl|rfl|rfl|rfl|rfl|rfl|rfl|rfl|rfl|rfl|rfl
 ·exact rnow_of w r S x 145 b o _ h j rfl _ fun W e=>ralways_ok W r _
 ·exact rnow_of w r S x 146 b o _ h j rfl _ fun W e=>rnever_ok W r _
 ·exact rnow_of w r S x 147 b o _ h j rfl _ fun W e=>ris_ok W r b o S x m v (h.ext e) (e.cell N O) (e.cell X O) (a1 rfl)
 ·have a3:g.length=1:=by simpa[Aq]using E
  obtain⟨a,I⟩:=Cv a3;have A:nowOp (vlS S x) 4 m v (decide (v=1)) (g.map (Bw (vlS S x)))= !Bw (vlS S x) a:=by rw[I];rfl
  rw[A];exact rnow_of w r S x 148 b o _ h j rfl _ fun W e=>rnot_ok W r b o _ g a s z (e.cell Q O) (G W e) I
 ·have A:nowOp (vlS S x) 5 m v (decide (v=1)) (g.map (Bw (vlS S x)))=g.all (Bw (vlS S x)):=by rw[show nowOp (vlS S x) 5 m v (decide (v=1)) (g.map (Bw (vlS S x)))=(g.map (Bw (vlS S x))).all id from rfl,List.all_map];rfl
  rw[A];exact rnow_of w r S x 149 b o _ h j rfl _ fun W e=>rand_ok W r b o _ g s z H (e.cell Q O) (G W e)
 ·have A:nowOp (vlS S x) 6 m v (decide (v=1)) (g.map (Bw (vlS S x)))=g.any (Bw (vlS S x)):=by rw[show nowOp (vlS S x) 6 m v (decide (v=1)) (g.map (Bw (vlS S x)))=(g.map (Bw (vlS S x))).any id from rfl,List.any_map];rfl
  rw[A];exact rnow_of w r S x 150 b o _ h j rfl _ fun W e=>ror_ok W r b o _ g s z H (e.cell Q O) (G W e)
 ·omega
 ·omega
 ·omega
 ·exact rnow_of w r S x 151 b o _ h j rfl _ fun W e=>ryest_ok W r b o _ (j.E e (fun _ _=>by simp))
 ·have D:g.length=2:=by simpa[Aq]using E
  obtain⟨a,c,I⟩:=Cj D;have A:nowOp (vlS S x) 16 m v (decide (v=1)) (g.map (Bw (vlS S x)))=(Bw (vlS S x) c||(decide (v=1)&&Bw (vlS S x) a)):=by rw[I];rfl
  rw[A];exact rnow_of w r S x 152 b o _ h j rfl _ fun W e=>rsince_ok W r b o _ v g a c s z (e.cell X O) (e.cell Q O) (G W e) I
 ·have D:g.length=2:=by simpa[Aq]using E
  obtain⟨a,c,I⟩:=Cj D;have A:nowOp (vlS S x) 17 m v (decide (v=1)) (g.map (Bw (vlS S x)))=(Bw (vlS S x) c&&(decide (v=1)||Bw (vlS S x) a)):=by rw[I];rfl
  rw[A];exact rnow_of w r S x 153 b o _ h j rfl _ fun W e=>rtrig_ok W r b o _ v g a c s z (e.cell X O) (e.cell Q O) (G W e) I
end
theorem distinct_ok(w:World)(B:Nat)(v:Value)(l:LF)(L:List (LV))(ok:Nat->Prop)(R:w.ownsRow B 36 5 v l.length L.flatten)(A:FsAt ok w L l)
  (c:∀b,ok b->Unm w b/\b<w.heap.size/\v.ownBlock≠some b)(o:∀x∈l,szF x<=1000000)(H:l.length<4611686018427387904):
  Fn Zp 134 [v,cmpV] w fun u w'=>Keep v.ownBlock.toList w w'/\u.ownBlock=v.ownBlock/\∃d,w'.ownsRow B 36 5 u (dist l).length d.flatten/\FsAt ok w' d (dist l):=by
 have V:∃p n a,v=.slice p n a:=by
  rcases R.2 with⟨e,s⟩|⟨g,a,z,e,_⟩
  ·exact⟨_,_,_,e⟩
  ·exact⟨_,_,_,e⟩
 obtain⟨p,n,a,rfl⟩:=V;have W:∀b,ok b->b∉(Value.slice p n a).ownBlock.toList:=fun b S T=>(c b S).2.2 (Option.mem_toList.1 T);have Q:∀g,(Value.slice p n a).ownBlock=some g->g<w.heap.size:=fun g t=>(Ad R t).2;refine AG Tryz.func134 rfl Tryz.ntmps134 (go ?_);refine Ai (L:=[cmpV]) rfl (fun X E=>go ?_);have z1:=E.size;have m:=E.D;have K:(Value.slice p n a).ownBlock≠some w.heap.size:=fun e=>by have:=Q _ e;omega
 have C:w.heap.size∉(Value.slice p n a).ownBlock.toList:=fun T=>K (Option.mem_toList.1 T);refine go ?_;refine AE (sort_ok X B _ l L ok (Ae R E.E) (A.ext E.E) (fun b S=>⟨(c b S).1.eq (E.E.block b (c b S).2.1 O),by have:=(c b S).2.1;omega,(c b S).2.2⟩) o H) rfl ?_;rintro _ y⟨rfl,f,P,q,i,M,r,Z⟩;have D:q.length=l.length:=i.length_eq;have G:Keep (Value.slice p n a).ownBlock.toList w y:=E.E.any.trans f (fun _ h _=>h);refine go ?_;rw[<-D]at r;refine AE (compact_ok y B _ q P ok w.heap.size r Z (fun b S=>⟨(c b S).1.eq (G.block b (c b S).2.1 (W b S)),by have:=(c b S).2.1;have:=G.size;omega,(c b S).2.2⟩) (fun x T=>o x (i.mem_iff.1 T)) (m.E f C) K) rfl ?_;rintro u w3⟨j,N,F,I,k⟩;rw[cpN_dist M i]at I k
 obtain⟨p',n',a0,rfl⟩:∃p n a,u=.slice p n a:=by
  rcases I.2 with⟨e,s⟩|⟨g,a,z,e,_⟩
  ·exact⟨_,_,_,e⟩
  ·exact⟨_,_,_,e⟩
 refine go ?_;exact AB rfl ⟨G.trans j (fun _ h _=>h),N,F,I,k.E j W⟩
theorem negated_ok(w:World)(c:LV)(f:Fml)(ok:Nat->Prop)(v:FAt ok w (.agg c.toArray) f)(I:f.op=4->0<f.args.length):
  Fn Zp 136 [.agg c.toArray] w fun u w'=>∃d:LV,u=.tuple #[.agg d.toArray,.bool (decide (f.op=4))]/\Ext w w'/\FAt ok w' (.agg d.toArray) (if f.op=4 then f.args.getD 0 Ag else Ag):=by
 obtain⟨T,Z,x2,x3,x4,rfl⟩:=v.v5;obtain⟨p,e,l,j,Q,D,B⟩:=v.form;simp only[Value.agg.injEq,List.toArray_eq_iff,List.cons.injEq,and_true]at e;obtain⟨rfl,rfl,rfl,rfl,rfl⟩:=e;obtain⟨r,A,rfl,G,S,_⟩:=id j;refine AG Tryz.func136 rfl Tryz.ntmps136 (go ?_);refine Ai (L:=[iV f.op,AK f.name,iV f.val,iV f.bound,.slice r f.args.length A]) rfl (fun R E=>?_);refine AS (L:=zero5) (fun X N=>go ?_);have b:=E.E.trans N.E;have m:=E.D.E N.E O;have t:=N.D;have z1:=E.size;by_cases z:f.op=4
 ·obtain⟨a,K⟩:∃a,f.args[0]?=some a:=⟨_,List.getElem?_eq_getElem (I z)⟩;obtain⟨d,C⟩:∃d,l[0]?=some d:=⟨_,List.getElem?_eq_getElem (by rw[Q];exact I z)⟩;have H:=B 0 d a C K;obtain⟨g,k,o,M,q,rfl⟩:=H.v5;obtain⟨n,V,rfl,i,x⟩:=Sl.fml j D C (I z);have h:n<w.heap.size:=World.block_lt_of_cell? w _ (x 0 _ rfl);rw[if_pos z,decide_eq_true z,show f.args.getD 0 Ag=a by rw[List.getD_eq_getElem?_getD,K];rfl];rw[z]at m;refine go ?_;refine AQ (L:=[g,k,o,M,q]) rfl rfl (x.E b O) ?_;refine AH (cs:=[g,k,o,M,q]) rfl rfl rfl H.one t D0 (fun W s=>go ?_);exact Cp rfl rfl rfl s.D.cells ⟨[g,k,o,M,q],rfl,b.E s.E Dw,((H.lt.ext b).E s.E (fun y F P=>by have:=F.2;simp at P;omega)).mono fun y F=>F.1⟩
 ·rw[if_neg z,decide_eq_false z];refine go ?_;refine AH (cs:=zero5) rfl rfl rfl (AW rfl) t D0 (fun W s=>go ?_);exact Cp rfl rfl rfl s.D.cells ⟨zero5,rfl,b.E s.E Dw,FAt.leaf _ _ 0 [] 0 0⟩
theorem SlAt.c5{ok:Nat->Prop}{w:World}{a:Option Addr}{n c:Nat}{l:LF}{k:Nat}(h:SlAt fmlR ok w (.slice a n c) l)(P:k<l.length):∃b o T R f g i,a=some ⟨b,o,none⟩/\Cells w b (o+k*5) [T,R,f,g,i]/\FAt ok w (.agg [T,R,f,g,i].toArray) (l.getD k Ag):=by
 have j:l[k]?=some (l.getD k Ag):=by rw[List.getD_eq_getElem?_getD,List.getElem?_eq_getElem P];rfl
 obtain⟨b,o,e,_,d,C,V,K⟩:=SlAt.pf h j;obtain⟨T,R,f,g,i,rfl⟩:=Ab C;exact⟨b,o,T,R,f,g,i,e,V,K⟩
theorem Inc.at{l:LF}(h:Inc l):∀i j,i<j->j<l.length->BY (l.getD i Ag) (l.getD j Ag)<0:=by
 induction l with
 |nil=>intro i j _ z;simp at z
 |cons a l ih=>
  intro i j L z;obtain⟨X,W⟩:=h;cases j with
  |zero=>omega
  |succ j=>
   have v:j<l.length:=by simpa using z
   have s:(a::l).getD (j+1) Ag=l.getD j Ag:=rfl;rw[s];cases i with
   |zero=>exact X _ (by rw[List.getD_eq_getElem?_getD,List.getElem?_eq_getElem v];exact List.getElem_mem v)
   |succ i=>exact ih W i j U v
theorem bs_found{l:LF}{y:Fml}{i:Nat}(d:Inc l)(H:i<=l.length)(X:∀a,a<i->BY (l.getD a Ag) y<0)(W:∀a,i<=a->a<l.length->¬BY (l.getD a Ag) y<0):
  l.any (fun z=>decide (BY z y=0))=(decide (i<l.length)&&decide (BY (l.getD i Ag) y=0)):=by
 rw[Bool.eq_iff_iff,List.any_eq_true,Bool.and_eq_true,decide_eq_true_eq,decide_eq_true_eq];constructor
 ·rintro⟨z,o,V⟩;rw[decide_eq_true_eq]at V;obtain⟨j,b⟩:=List.getElem?_of_mem o;have k:=(List.getElem?_eq_some_iff.1 b).1;have s:l.getD j Ag=z:=by rw[List.getD_eq_getElem?_getD,b];rfl
  by_cases e:j<i
  ·have:=X j e;rw[s]at this;omega
  ·by_cases F:j=i
   ·subst F;exact⟨k,by rw[s];exact V⟩
   ·have Q:=d.at i j U k;rw[s,(Bs _ _).1 V]at Q;exact absurd Q (W i (Nat.le_refl _) U)
 ·rintro⟨Q,c⟩;exact⟨l.getD i Ag,by rw[List.getD_eq_getElem?_getD,List.getElem?_eq_getElem Q];exact List.getElem_mem Q,by rw[decide_eq_true_eq];exact c⟩
theorem bs_ok(w:World)(a:Option Addr)(cap:Nat)(l:LF)(y:Fml)(d:LV)(ok a2:Nat->Prop)(hl:SlAt fmlR ok w (.slice a l.length cap) l)(hy:FAt a2 w (.agg d.toArray) y)(hu:∀b,ok b->Unm w b)(hz:∀x∈l,szF x<=1000000)(a0:Inc l)(hn:l.length<=1000000):
  Fn Zp 183 [.slice a l.length cap,.agg d.toArray,cmpV] w fun u w'=>∃i:Int,u=.tuple #[iV i,.bool (l.any fun z=>decide (BY z y=0))]/\Ext w w':=by
 obtain⟨E,F,N,M,q,rfl⟩:=hy.v5;have a4:∀V,Ext w V->∀b,(ok b/\b<w.heap.size)->Unm V b:=fun V e b hb=>(hu b hb.1).eq (e.block b hb.2 O);have a3:=hl.lt EM;refine AG Tryz.func183 rfl Tryz.ntmps183 (go ?_);refine Ai (L:=[E,F,N,M,q]) rfl (fun w1 n1=>go ?_);have b1:=n1.D;have k1:=n1.E;refine go ?_;refine Ah (α:=Nat×Nat) (fun|(i,j)=>[(0,.slice a l.length cap),(2,cmpV),(4,pt w.heap.size),(8,.int .i64 (l.length:Int)),(9,.int .i64 (i:Int)),(10,.int .i64 (j:Int))]) (fun x W=>x.1<=x.2/\x.2<=l.length/\Ext w1 W/\(∀p,p<x.1->BY (l.getD p Ag) y<0)/\(∀p,x.2<=p->p<l.length->¬BY (l.getD p Ag) y<0)) (fun x=>x.2-x.1) (0,l.length) ⟨rfl,rfl,rfl,rfl,rfl,rfl,trivial⟩ ⟨by simp,by simp,Ext.refl _,fun p v=>absurd v O,fun p v a6=>absurd a6 (by simp only at v;omega)⟩ ?_;rintro⟨i,j⟩W fr⟨a5,D,X,g,Z⟩;simp only at a5 D g Z;have A:=k1.trans X;refine go ?_;by_cases hlt:i<j
 ·refine go ?_;refine W_conv rfl (inR_u64 U U) ?_;refine W_shrU (m:=i+j) (n:=1) rfl rfl U ?_;obtain⟨h,hh⟩:∃h,h=(i+j)/2^1:=⟨_,rfl⟩;rw[<-hh];have a8:h=(i+j)/2:=hh;have a9:h<j:=by omega
  have b0:i<=h:=by omega
  refine go ?_;obtain⟨b,o,T,R,c,B,C,rfl,r,G⟩:=(a3.ext A).c5 (k:=h) U;refine AX (rd 0 6 (.alt 6 (.read 7 .done) .stop)) An Dv (fun H I ed=>⟨Ext H,?_,?_⟩)
  ·exact Ew
  have s:=A.trans I;have s1:∀V,Ext H V->Cells V b (o+h*5) [T,R,c,B,C]:=fun V e=>r.E (I.trans e) O;have s2:∀V,Ext H V->Cells V w.heap.size 0 [E,F,N,M,q]:=fun V e=>(b1.E ((X.trans I).trans e) O).cells;((apply D_R rfl rfl;(intro W f;refine M_func rfl ?_;exact AA ⟨rfl,rfl,rfl⟩))<;>(apply D_R rfl rfl;(intro W f;refine Av rfl ?_;exact AA ⟨rfl,rfl,rfl⟩))<;>(apply D_R rfl rfl;(intro W f;refine AY rfl ?_;exact AA ⟨rfl,rfl,rfl⟩))<;>(apply D_R rfl rfl;(intro W f;refine Cd rfl rfl rfl U ?_;exact AA ⟨rfl,rfl,rfl⟩))<;>(apply D_R rfl rfl;(intro W f;refine AQ rfl Dx (s1 W f) ?_;exact AA ⟨rfl,rfl,rfl⟩))<;>(apply D_R rfl rfl;(intro W f;refine AQ rfl Dx (s2 W f) ?_;exact AA ⟨rfl,rfl,rfl⟩)))
  refine D_E rfl ?_;have K:l.getD h Ag∈l:=by rw[List.getD_eq_getElem?_getD,List.getElem?_eq_getElem (by omega:h<l.length)];exact List.getElem_mem (by omega:h<l.length)
  refine Az (v1:=[]) (v2:=[]) (vs:=[.agg [T,R,c,B,C].toArray,.agg [E,F,N,M,q].toArray]) rfl (DO H _ _ _ y _ a2 (G.ext I) (hy.ext s) (.inl (a4 H s)) (hz _ K)) rfl ?_;rintro _ w4⟨rfl,t⟩;refine AA ⟨Ext H,fun _ e=>e,t,?_⟩;have k5:=(X.trans I).trans t;by_cases P:BY (l.getD h Ag) y<0
  ·refine go ?_;refine⟨(h+1,j),⟨rfl,⟨rfl,rfl,rfl,rfl,?_,rfl,trivial⟩,⟨by simp only;omega,D,k5,fun p v=>?_,Z⟩⟩,by simp only;omega⟩
   ·show iV ((h:Int)+1)=_;rw[Int.natCast_add];rfl
   ·simp only at v;by_cases a1:p=h
    ·subst a1;exact P
    ·have Q:=a0.at p h U U;exact DQ _ _ _ Q P
  ·refine go ?_;refine⟨(i,h),⟨rfl,⟨rfl,rfl,rfl,rfl,rfl,rfl,trivial⟩,⟨by simp only;omega,by simp only;omega,k5,g,fun p v a7=>?_⟩⟩,by simp only;omega⟩;simp only at v;by_cases a1:p=h
   ·subst a1;exact P
   ·have Q:=a0.at h p U a7;intro h4;exact P (DQ _ _ _ Q h4)
 ·refine go ?_;obtain rfl:i=j:=by omega
  rw[bs_found a0 D g Z];by_cases S:i<l.length
  ·rw[decide_eq_true S,Bool.true_and];obtain⟨b,o,T,R,c,B,C,rfl,r,G⟩:=(a3.ext A).c5 (k:=i) U;refine AX (rd 0 11 (.alt 11 (rd 12 4 .done) .stop)) An Dv (fun H I ed=>⟨Ext H,?_,?_⟩)
   ·exact Ew
   have s:=A.trans I;have s1:∀V,Ext H V->Cells V b (o+i*5) [T,R,c,B,C]:=fun V e=>r.E (I.trans e) O;have s2:∀V,Ext H V->Cells V w.heap.size 0 [E,F,N,M,q]:=fun V e=>(b1.E ((X.trans I).trans e) O).cells;((apply D_R rfl rfl;(intro W f;refine AY rfl ?_;exact AA ⟨rfl,rfl,rfl⟩))<;>(apply D_R rfl rfl;(intro W f;refine AY rfl ?_;exact AA ⟨rfl,rfl,rfl⟩))<;>(apply D_R rfl rfl;(intro W f;refine AY rfl ?_;exact AA ⟨rfl,rfl,rfl⟩))<;>(refine C8 rfl rfl rfl rfl (fun r=>?_) (fun r=>?_)<;>try omega)<;>(apply D_R rfl rfl;(intro W f;refine AI rfl ?_;exact AA ⟨rfl,rfl,rfl⟩))<;>(apply D_R rfl rfl;(intro W f;(refine AN rfl ?_;refine M_func rfl ?_);exact AA ⟨rfl,rfl,rfl⟩))<;>(apply D_R rfl rfl;(intro W f;(refine AN rfl ?_;refine Av rfl ?_);exact AA ⟨rfl,rfl,rfl⟩))<;>(apply D_R rfl rfl;(intro W f;(refine AN rfl ?_;refine AY rfl ?_);exact AA ⟨rfl,rfl,rfl⟩))<;>(apply D_R rfl rfl;(intro W f;(refine AN rfl ?_;refine Cd rfl rfl rfl U ?_);exact AA ⟨rfl,rfl,rfl⟩))<;>(apply D_R rfl rfl;(intro W f;(refine AN rfl ?_;refine AQ rfl Dx (s1 W f) ?_);exact AA ⟨rfl,rfl,rfl⟩))<;>(apply D_R rfl rfl;(intro W f;(refine AN rfl ?_;refine AQ rfl Dx (s2 W f) ?_);exact AA ⟨rfl,rfl,rfl⟩)))
   refine D_E rfl ?_;have K:l.getD i Ag∈l:=by rw[List.getD_eq_getElem?_getD,List.getElem?_eq_getElem S];exact List.getElem_mem S
   refine go ?_;refine Az (v1:=[]) (v2:=[]) (vs:=[.agg [T,R,c,B,C].toArray,.agg [E,F,N,M,q].toArray]) rfl (DO H _ _ _ y _ a2 (G.ext I) (hy.ext s) (.inl (a4 H s)) (hz _ K)) rfl ?_;rintro _ w4⟨rfl,t⟩;refine AA ⟨Ext H,fun _ e=>e,t,?_⟩;by_cases P:BY (l.getD i Ag) y=0
   ·rw[decide_eq_true P];refine go ?_;exact C5 rfl ⟨_,rfl,s.trans t⟩
   ·rw[decide_eq_false P];refine go ?_;exact C5 rfl ⟨_,rfl,s.trans t⟩
  ·rw[decide_eq_false S,Bool.false_and];refine AX (rd 0 11 (.alt 11 (rd 12 4 .done) .stop)) An Dv (fun H I ed=>⟨Ext H,?_,?_⟩)
   ·exact Ew
   ((apply D_R rfl rfl;(intro W f;refine AY rfl ?_;exact AA ⟨rfl,rfl,rfl⟩))<;>(apply D_R rfl rfl;(intro W f;refine AY rfl ?_;exact AA ⟨rfl,rfl,rfl⟩))<;>(apply D_R rfl rfl;(intro W f;refine AY rfl ?_;exact AA ⟨rfl,rfl,rfl⟩))<;>(refine C8 rfl rfl rfl rfl (fun r=>?_) (fun r=>?_)<;>try omega)<;>(apply D_R rfl rfl;(intro W f;refine AI rfl ?_;exact AA ⟨rfl,rfl,rfl⟩))<;>refine A8 rfl rfl rfl rfl (A8 rfl rfl rfl rfl (A8 rfl rfl rfl rfl (A8 rfl rfl rfl rfl (A8 rfl rfl rfl rfl (A8 rfl rfl rfl rfl ?_))))))
   refine D_E rfl ?_;refine Ak rfl ?_;refine AA ⟨Ext H,fun _ e=>e,Ext.refl _,?_⟩;refine go ?_;exact C5 rfl ⟨_,rfl,A.trans I⟩
abbrev negV:Value:=.func (.func 136) #[] #[]
theorem opposed_ok(w:World)(a:Option Addr)(cap:Nat)(l:LF)(ok:Nat->Prop)(hl:SlAt fmlR ok w (.slice a l.length cap) l)(hu:∀b,ok b->Unm w b)(f:∀x∈l,szF x<=1000000)(a1:Inc l)(hn:l.length<=1000000)(h4:∀x∈l,x.op=4->0<x.args.length):
  Fn Zp 135 [.slice a l.length cap,cmpV,negV] w fun u w'=>u=.bool (oppB l)/\Ext w w':=by
 have m:=hl.lt EM;have a3:∀V,Ext w V->∀b,(ok b/\b<w.heap.size)->Unm V b:=fun V e b S=>(hu b S.1).eq (e.block b S.2 O);refine AG Tryz.func135 rfl Tryz.ntmps135 (go ?_);refine Ah (α:=Nat) (fun k=>[(0,.slice a l.length cap),(1,cmpV),(2,negV),(13,.slice a l.length cap),(14,iV (l.length:Int)),(15,iV (k:Int))]) (fun k W=>k<=l.length/\Ext w W/\∀(i:Nat)(x:Fml),i<k->l[i]?=some x->(decide (x.op=4)&&l.any fun y=>decide (BY y (x.args.getD 0 Ag)=0))=false) (fun k=>l.length-k) 0 ⟨rfl,rfl,rfl,rfl,rfl,rfl,trivial⟩ ⟨by omega,Ext.refl _,fun i x H=>by omega⟩ ?_;rintro k W fr⟨hk,C,E⟩;refine go ?_;by_cases B:k<l.length
 ·refine go ?_;obtain⟨b,o,j,n,t,v,A,rfl,hc,G⟩:=(m.ext C).c5 B;have T:l[k]?=some (l.getD k Ag):=by rw[List.getD_eq_getElem?_getD,List.getElem?_eq_getElem B];rfl
  obtain⟨x,a4⟩:∃x,x=l.getD k Ag:=⟨_,rfl⟩;rw[<-a4]at T G;have a2:=List.mem_of_getElem? T;refine go ?_;refine AQ (L:=[j,n,t,v,A]) rfl rfl hc ?_;refine AS (L:=zero5) (fun w4 X=>?_);refine AH (cs:=[j,n,t,v,A]) rfl rfl rfl G.one X.D D0 (fun D s=>go ?_);have b8:Blk D W.heap.size 36 [j,n,t,v,A]:=s.D;have K:Ext W D:=X.E.E s.E O;refine go ?_;refine Az (v1:=[]) (v2:=[]) (vs:=[.agg [j,n,t,v,A].toArray]) rfl (negated_ok D _ x _ (G.ext K) (h4 x a2)) rfl ?_;rintro _ q⟨d,rfl,k6,h⟩;obtain⟨y0,I,N,M,y4,rfl⟩:=h.v5;refine go ?_;refine AS (L:=zero5) (fun w7 Z=>?_);refine AH (cs:=[y0,I,N,M,y4]) rfl rfl rfl h.one Z.D D0 (fun g p8=>?_);have b9:Blk g q.heap.size 36 [y0,I,N,M,y4]:=p8.D;have P:Ext q g:=Z.E.E p8.E O;have c:Ext w g:=((C.trans K).trans k6).trans P
  have F:∀(V:World),Ext w V->∀(r:(decide (x.op=4)&&l.any fun y=>decide (BY y (x.args.getD 0 Ag)=0))=false),k+1<=l.length/\Ext w V/\∀(i:Nat)(z:Fml),i<k+1->l[i]?=some z->(decide (z.op=4)&&l.any fun y=>decide (BY y (z.args.getD 0 Ag)=0))=false:=fun V e r=>⟨by omega,e,fun i z H f=>by
   by_cases a0:i=k
   ·subst a0;rw[T]at f;cases f;exact r
   ·exact E i z U f⟩
  by_cases R:x.op=4
  ·rw[decide_eq_true R];rw[if_pos R]at h;refine go ?_;refine AE (bs_ok g _ cap l _ _ _ _ (m.ext c) (h.ext P) (a3 g c) f a1 hn) rfl ?_;rintro _ w9⟨i,rfl,Q⟩;cases hr:l.any fun z=>decide (BY z (x.args.getD 0 Ag)=0)with
   |true=>
    refine go ?_;refine AB rfl ⟨?_,c.trans Q⟩
    have:oppB l=true:=by
     unfold oppB;exact any_stop (p:=fun x=>decide (x.op=4)&&l.any fun y=>decide (BY y (x.args.getD 0 Ag)=0)) T (by rw[decide_eq_true R];exact hr)
    rw[this];rfl
   |false=>
    refine go ?_;refine⟨k+1,⟨rfl,⟨rfl,rfl,rfl,rfl,rfl,?_,trivial⟩,F _ (c.trans Q) (by rw[hr,Bool.and_false])⟩,by omega⟩;show iV ((k:Int)+1)=_;rw[Int.natCast_add];rfl
  ·rw[decide_eq_false R];refine go ?_;refine⟨k+1,⟨rfl,⟨rfl,rfl,rfl,rfl,rfl,?_,trivial⟩,F _ c (by rw[decide_eq_false R,Bool.false_and])⟩,by omega⟩;show iV ((k:Int)+1)=_;rw[Int.natCast_add];rfl
 ·refine go ?_;refine AB rfl ⟨?_,C⟩
  have:oppB l=false:=by
   unfold oppB;exact any_done (p:=fun x=>decide (x.op=4)&&l.any fun y=>decide (BY y (x.args.getD 0 Ag)=0)) fun i x H T=>E i x U T
  rw[this];rfl
theorem clip_ok(w:World)(a:Option Addr)(n c:Nat)(h:n<=c):Fn Zp 137 [.slice a n c] w fun u w'=>u=.slice a n n/\w'=w:=by
 refine AG Tryz.func137 rfl Tryz.ntmps137 (go ?_);refine W_slice_hm (h:=n) (m:=n) rfl rfl rfl (Nat.le_refl _) h (go ?_);exact AB rfl ⟨rfl,rfl⟩
theorem own_sl{w:World}{B:Nat}{v:Value}{l:LF}{L:List (LV)}{ok:Nat->Prop}(R:w.ownsRow B 36 5 v l.length L.flatten)(h:FsAt ok w L l)(n:∀b,ok b->Unm w b):
  ∃a c,v=.slice a l.length c/\l.length<=c/\SlAt fmlR (Unm w) w (.slice a l.length c) l/\Sl (fun b=>B<=b/\Unm w b) w (.slice a l.length l.length) l.length L.flatten:=by
 have o:=h.mono n;have q:RsAt fmlR (Unm w) w L l:=⟨h.1,fun i c x V T=>⟨h.2.1 c (List.mem_of_getElem? V),o.2.2 i c x V T⟩⟩;rcases R.2 with⟨rfl,s⟩|⟨g,k,p,rfl,f,t,W,m,A,P⟩
 ·obtain rfl:l=[]:=List.eq_nil_of_length_eq_zero s;exact⟨none,0,rfl,Nat.le_refl _,⟨none,0,L,rfl,Aa (ok:=Unm w) R (fun g t=>by cases t),q⟩,⟨none,0,rfl,by simp,by simp,fun _=>rfl,.inl rfl⟩⟩
 ·have d:Unm w g:=Unm.cells t;have j:=Aa (ok:=fun b=>B<=b/\Unm w b) R (fun Q u=>by cases u;exact⟨f,d⟩);refine⟨_,_,rfl,W,⟨_,_,L,rfl,Aa (ok:=Unm w) R (fun Q u=>by cases u;exact d),q⟩,?_⟩;obtain⟨a,c,e,X,r,y,z⟩:=j;cases e;exact⟨_,_,rfl,Nat.le_refl _,by unfold maxLen at m;omega,(fun e=>by cases e),z⟩
theorem flat_snoc(N:Int){l:LF}{k:Nat}{x:Fml}(h:l[k]?=some x):(l.take (k+1)).flatMap (Fl N)=(l.take k).flatMap (Fl N)++Fl N x:=by
 rw[List.take_add_one,h];simp
theorem zAny_snoc(N:Int){l:LF}{k:Nat}{x:Fml}(h:l[k]?=some x):zAny N (l.take (k+1))=(zAny N (l.take k)||decide (x.op=Cc N)):=by
 rw[List.take_add_one,h];simp[zAny]
theorem flat_take_le(N:Int)(l:LF)(k:Nat):((l.take k).flatMap (Fl N)).length<=szL l:=
 Nat.le_trans (Bz _) (Nat.le_trans (sz_flat N _) (szL_take_le l k))
theorem FsAt.app{ok:Nat->Prop}{w:World}:∀{L M:List (LV)}{l m:LF},FsAt ok w L l->FsAt ok w M m->FsAt ok w (L++M) (l++m)
 | [],_,[],_,_,h=>h
 | [],_,_::_,_,h,_=>by have:=h.1;simp at this
 |_::_,_,[],_,h,_=>by have:=h.1;simp at this
 |c::L,M,x::l,m,h,h'=>FsAt.cons (h.2.2 0 c x rfl rfl) (h.2.1 c O) (FsAt.app ⟨by have:=h.1;simpa using this,fun d C=>h.2.1 d (by simp[C]),fun i d g C t=>h.2.2 (i+1) d g ES EP⟩ h')
theorem FsAt.oneC{ok:Nat->Prop}{w:World}{L:List (LV)}{l:LF}(h:FsAt ok w L l):oneC L.flatten:=by
 intro u n;obtain⟨c,V,a⟩:=List.mem_flatten.1 n;obtain⟨i,H⟩:=List.getElem?_of_mem V;have D:i<l.length:=by rw[<-h.1];exact(List.getElem?_eq_some_iff.1 H).1
 exact(h.2.2 i c _ H (List.getElem?_eq_getElem D)).one u a
theorem join_ok(w:World)(N:Int)(a5:N=5\/N=6)(a:Option Addr)(cap:Nat)(l:LF)(ok:Nat->Prop)(hl:SlAt fmlR ok w (.slice a l.length cap) l)(hu:∀b,ok b->Unm w b)(hz:szL l<=100000)(hsh:∀x∈l,Sh x):
  Fn Zp 87 [iV N,.slice a l.length cap] w fun u w'=>Ext w w'/\FAt (fun b=>ok b\/(w.heap.size<=b/\Unm w' b)) w' u (Dr N l):=by
 have d1:=hl.lt EM;have d5:l.length<=100000:=Nat.le_trans (Bz l) hz;obtain⟨d7,d8,d9,e0,e1⟩:=uz_ne a5;refine AG Tryz.func87 rfl Tryz.ntmps87 ?_;repeat refine nx rfl ?_
 (refine AJ ?_;refine AS (L:=zero5) (fun w1 n1=>?_))
 repeat refine nx rfl ?_
 have z1:=n1.size;have b4:=n1.D;have k1:=n1.E;refine AJ (AO (AY rfl (AO (AY rfl ?_))));repeat refine nx rfl ?_
 refine AJ (AY rfl ?_);refine W_eqlD rfl rfl ?_;refine AA ?_;refine Q_then ?_;refine DF (α:=Unit) (fun _=>[(0,iV N),(1,.slice a l.length cap),(4,pt w.heap.size),(5,iV (C6 N)),(6,iV (Cc N))]) (fun _ W=>W=w1) ?_ ?_
 ·rcases a5 with rfl|rfl
  ·refine go ?_;exact Ao () ⟨rfl,rfl,rfl,rfl,rfl,trivial⟩ rfl
  ·refine go ?_;exact Ao () ⟨rfl,rfl,rfl,rfl,rfl,trivial⟩ rfl
 rintro _ W f3 rfl;refine go ?_
 refine Ah (α:=Nat×Value×List (LV)) (fun|(k,v,_)=>[(0,.int .i64 N),(4,pt w.heap.size),(5,.int .i64 (C6 N)),(6,.int .i64 (Cc N)),(7,v),(14,.slice a l.length cap),(15,.int .i64 (l.length:Int)),(16,.int .i64 (k:Int))])
  (fun y V=>y.1<=l.length/\Ext w V/\Blk V w.heap.size 36 zero5/\V.ownsRow W.heap.size 36 5 y.2.1 ((l.take y.1).flatMap (Fl N)).length y.2.2.flatten/\zAny N (l.take y.1)=false/\FsAt (fun b=>ok b/\b<w.heap.size) V y.2.2 ((l.take y.1).flatMap (Fl N))/\W.heap.size<=V.heap.size) (fun y=>l.length-y.1) (0,.slice none 0 0,[]) ⟨rfl,rfl,rfl,rfl,rfl,rfl,rfl,rfl,trivial⟩ ⟨by simp,k1,b4,⟨rfl,.inl ⟨rfl,rfl⟩⟩,rfl,FsAt.nil _ _,Nat.le_refl _⟩ ?_
 rintro⟨k,v,L⟩V fr⟨hk,K,bV,C,a6,fV,zV⟩;simp only at hk bV C a6 fV;refine go ?_;by_cases b6:k<l.length
 ·refine go ?_;obtain⟨b,o,E,H,M,P,q,rfl,z,G⟩:=(d1.ext K).c5 b6;have T:l[k]?=some (l.getD k Ag):=by rw[List.getD_eq_getElem?_getD,List.getElem?_eq_getElem b6];rfl
  obtain⟨x,d2⟩:∃x,x=l.getD k Ag:=⟨_,rfl⟩;rw[<-d2]at T G;have d6:=List.mem_of_getElem? T;have m:=flat_snoc N T;have a7:=zAny_snoc N T;rw[a6,Bool.false_or]at a7;have b0:=flat_take_le N l (k+1);refine go ?_;refine AQ (L:=[E,H,M,P,q]) rfl rfl z ?_;refine AS (L:=zero5) (fun w4 n4=>?_);refine AH (cs:=[E,H,M,P,q]) rfl rfl rfl G.one n4.D D0 (fun w5 p5=>go ?_);have i:Ext V w5:=n4.E.E p5.E O;have b2:=G.ext i;obtain⟨av,e,La,hS,c4,c3,hA⟩:=b2.form;simp only[Value.agg.injEq,List.toArray_eq_iff,List.cons.injEq,and_true]at e;obtain⟨rfl,rfl,rfl,rfl,rfl⟩:=e;have b8:Blk w5 V.heap.size 36 [iV x.op,AK x.name,iV x.val,iV x.bound,q]:=p5.D;have o5:=Ae C i;have f5:=fV.ext i;have e5:=K.trans i;have b45:=bV.E i O;have z5:=i.size;have r:∀g,v.ownBlock=some g->W.heap.size<=g:=fun g hg=>(Ad C hg).1;have hvk:∀(b:Nat),ok b/\b<w.heap.size->b∉v.ownBlock.toList:=fun b S T=>by have:=r b (Option.mem_toList.1 T);omega
  refine go ?_;by_cases a8:x.op=N
  ·refine go ?_;have X:Fl N x=x.args:=by unfold Fl;rw[if_pos a8]
   rw[X]at m;have p:zAny N (l.take (k+1))=false:=by rw[a7,decide_eq_false];omega
   have c9:((l.take k).flatMap (Fl N)).length+x.args.length<=100000:=by rw[m,List.length_append]at b0;omega
   have fA:FsAt (fun b=>ok b/\b<w.heap.size) w5 La x.args:=⟨c4,c3,hA⟩;refine go ?_;refine Ap (v:=v) (sv:=q) rfl rfl o5 hS U rfl fA.flat fA.oneC U U U (fun v7 Q j=>?_);have e7:Ext w Q:=e5.E j.E (fun y F=>by have:=r y (Option.mem_toList.1 F);omega);have I:=(f5.app fA).E j.E hvk;have b7:=b45.E j.E (fun T=>by have:=r _ (Option.mem_toList.1 T);omega);have o7:Q.ownsRow W.heap.size 36 5 v7 ((l.take (k+1)).flatMap (Fl N)).length (L++La).flatten:=by rw[m,List.length_append,List.flatten_append];exact j.own
   rw[<-m]at I;refine go ?_;refine⟨(k+1,v7,L++La),⟨rfl,⟨rfl,rfl,rfl,rfl,rfl,rfl,rfl,?_,trivial⟩,⟨by simp only;omega,e7,b7,o7,p,I,Nat.le_trans (Nat.le_trans zV z5) j.E.size⟩⟩,by simp only;omega⟩;show iV ((k:Int)+1)=_;rw[Int.natCast_add];rfl
  ·by_cases a9:x.op=Cc N
   ·refine go ?_;refine AH (cs:=[iV (Cc N),AK [],iV 0,iV 0,.slice none 0 0]) rfl rfl rfl (AW rfl) b45 D0 (fun f d=>go ?_)
    have d3:zAny N l=true:=by
     unfold zAny;exact any_stop T (by rw[decide_eq_true_eq];exact a9)
    rw[joinM_eq a5,d3,if_pos rfl];exact AU rfl rfl rfl d.D.cells ⟨e5.E d.E O,FAt.leaf _ _ (Cc N) [] 0 0⟩
   ·by_cases hA3:x.op=C6 N
    ·refine go ?_;have X:Fl N x=[]:=by unfold Fl;rw[if_neg a8,if_pos hA3]
     rw[X,List.append_nil]at m;have p:zAny N (l.take (k+1))=false:=by rw[a7,decide_eq_false a9]
     rw[<-m]at f5 o5;refine go ?_;refine⟨(k+1,v,L),⟨rfl,⟨rfl,rfl,rfl,rfl,rfl,rfl,rfl,?_,trivial⟩,⟨by simp only;omega,e5,b45,o5,p,f5,Nat.le_trans zV z5⟩⟩,by simp only;omega⟩;show iV ((k:Int)+1)=_;rw[Int.natCast_add];rfl
    ·refine go ?_;have X:Fl N x=[x]:=by unfold Fl;rw[if_neg a8,if_neg hA3]
     rw[X]at m;have p:zAny N (l.take (k+1))=false:=by rw[a7,decide_eq_false a9]
     have c9:((l.take k).flatMap (Fl N)).length+1<=100000:=by rw[m,List.length_append]at b0;simp only[List.length_singleton]at b0;omega
     refine go ?_;refine AP (out:=[iV x.op,AK x.name,iV x.val,iV x.bound,q]) rfl U D4 (fun w6 B=>?_);have o6:=B.own (n:=1) (size:=5) rfl D3 (Nat.le_refl _);have z6:=B.size;refine Ap (ok:=AV) (v:=v) (sv:=.slice (sm w5.heap.size) 1 1) rfl rfl (Ae o5 B.E) (Aa o6 fun _ _=>trivial) U rfl rfl b2.one U U U (fun v7 Q j=>?_);have e7:Ext w Q:=(e5.trans B.E).E j.E (fun y F=>by have:=r y (Option.mem_toList.1 F);omega);have I:=((f5.snoc b2 rfl).ext B.E).E j.E hvk;have b7:=(b45.E B.E O).E j.E (fun T=>by have:=r _ (Option.mem_toList.1 T);omega)
     have o7:Q.ownsRow W.heap.size 36 5 v7 ((l.take (k+1)).flatMap (Fl N)).length (L++[[iV x.op,AK x.name,iV x.val,iV x.bound,q]]).flatten:=by
      rw[m,List.length_append,List.flatten_append];simpa using j.own
     rw[<-m]at I;have z7:W.heap.size<=Q.heap.size:=by have:=j.E.size;omega
     refine go ?_;refine⟨(k+1,v7,L++[[iV x.op,AK x.name,iV x.val,iV x.bound,q]]),⟨rfl,⟨rfl,rfl,rfl,rfl,rfl,rfl,rfl,?_,trivial⟩,⟨by simp only;omega,e7,b7,o7,p,I,z7⟩⟩,by simp only;omega⟩;show iV ((k:Int)+1)=_;rw[Int.natCast_add];rfl
 ·refine go ?_;obtain rfl:k=l.length:=by omega
  rw[List.take_of_length_le (Nat.le_refl _)]at C a6 fV;have r:∀g,v.ownBlock=some g->W.heap.size<=g:=fun g hg=>(Ad C hg).1;have b5:szL (l.flatMap (Fl N))<=100000:=Nat.le_trans (sz_flat N l) hz
  have b1:∀x∈l.flatMap (Fl N),szF x<=1000000/\(x.op=4->0<x.args.length):=fun x T=>by
   refine⟨by have:=BO T;omega,fun h4=>?_⟩;obtain⟨c,z,A⟩:=List.mem_flatMap.1 T
   have hs:Sh x:=by
    unfold Fl at A
    split at A
    ·exact(sh_eq (hsh c z)).2.2 x A
    ·split at A
     ·cases A
     ·rw[List.mem_singleton.1 A];exact hsh c z
   have:=(sh_eq hs).2.1.2.1;rw[h4]at this;have:x.args.length=1:=by simpa[Aq]using this
   omega
  have d4:(l.flatMap (Fl N)).length<=100000:=Nat.le_trans (Bz _) b5;have a4:(dist (l.flatMap (Fl N))).length<=100000:=Nat.le_trans (Bz _) (Nat.le_trans (sz_dist _) b5);refine go ?_;refine AE (distinct_ok V W.heap.size v _ L _ C fV (fun b S=>⟨(hu b S.1).eq (K.block b S.2 O),by have:=K.size;omega,fun e=>by have:=r b e;omega⟩) (fun x T=>(b1 x T).1) U) rfl ?_;rintro u2 s⟨k2,hu2,L2,o2,Z⟩;have e2:Ext w s:=K.E k2 (fun y F=>by have:=r y (Option.mem_toList.1 F);omega);have b9:=bV.E k2 (fun T=>by have:=r _ (Option.mem_toList.1 T);omega);obtain⟨a2,c2,rfl,a0,t,R⟩:=own_sl o2 Z (fun b S=>(hu b S.1).eq (e2.block b S.2 O));have b3:=inc_dist (l.flatMap (Fl N));have a3:∀x∈dist (l.flatMap (Fl N)),szF x<=1000000/\(x.op=4->0<x.args.length):=fun x T=>b1 x (mem_dist.1 T);rw[joinM_eq a5,a6,if_neg Bool.false_ne_true];clear o2 b1;generalize dist (l.flatMap (Fl N))=D at a4 t R Z b3 a3 a0⊢;refine go ?_;refine AE (opposed_ok s a2 c2 D (Unm s) t (fun b h=>h) (fun x T=>(a3 x T).1) b3 U fun x T=>(a3 x T).2) rfl ?_;rintro _ w3⟨rfl,k3⟩;have e3:=e2.trans k3;have a1:=b9.E k3 O;have c7:∀f,Keep [w.heap.size] s f->∀b,(W.heap.size<=b/\Unm s b)/\b<s.heap.size->ok b\/(w.heap.size<=b/\Unm f b):=fun f k9 b S=>.inr ⟨by omega,S.1.2.eq (k9.block b S.2 Dw)⟩;unfold joinD;cases hob:oppB D with
  |true=>
   rw[if_pos rfl];refine go ?_;refine AH (cs:=[iV (Cc N),AK [],iV 0,iV 0,.slice none 0 0]) rfl rfl rfl (AW rfl) a1 D0 (fun f d=>go ?_);exact AU rfl rfl rfl d.D.cells ⟨e3.E d.E O,FAt.leaf _ _ (Cc N) [] 0 0⟩
  |false=>
   rw[if_neg Bool.false_ne_true];refine AO (AI rfl ?_);repeat first|refine nx rfl ?_|refine nf rfl ?_
   match D,a4,t,R,Z,b3,a3,a0 with
   | [],_,_,_,_,_,_,_=>
    refine AJ (Av rfl (Bt rfl ?_));refine W_eqlD rfl rfl ?_;refine AO (AI rfl ?_);repeat refine nx rfl ?_
    refine AJ (AY rfl (Bv Dx Dx ?_));refine AH (cs:=[iV (C6 N),AK [],iV 0,iV 0,.slice none 0 0]) rfl rfl rfl (AW rfl) a1 D0 (fun f d=>?_);repeat refine nx rfl ?_
    exact AU rfl rfl rfl d.D.cells ⟨e3.E d.E O,FAt.leaf _ _ (C6 N) [] 0 0⟩
   | [x],_,t,R,Z,_,_,_=>
    obtain⟨E,H,M,P,q,hL0,_,G⟩:=Z.at (k:=0) O;obtain⟨b,o,rfl,S,z⟩:=Sl.fml R Z.2.1 hL0 O;have c8:Cells w3 b (o+0*5) [E,H,M,P,q]:=z.E k3 O;refine AJ (Av rfl (Bt rfl ?_));refine W_eqlD rfl rfl ?_;refine AO (AI rfl ?_);repeat first|refine nx rfl ?_|refine nf rfl ?_
    refine AJ (Av rfl (Bt rfl ?_));refine W_eqlD rfl rfl ?_;refine AO (AI rfl ?_);repeat refine nx rfl ?_
    refine AJ (Av rfl ?_);refine Cd (k:=0) rfl rfl rfl O ?_;refine AQ (L:=[E,H,M,P,q]) rfl rfl c8 ?_;refine AH (cs:=[E,H,M,P,q]) rfl rfl rfl G.one a1 D0 (fun f d=>?_);repeat refine nx rfl ?_
    exact AU rfl rfl rfl d.D.cells ⟨e3.E d.E O,((G.ext k3).E d.E (fun y F hm=>by have:=F.2;simp at hm;omega)).mono fun y F=>.inl F.1⟩
   |x::y::D',a4,t,R,Z,_,_,a0=>
    have d0:(x::y::D').length=D'.length+2:=rfl;generalize c0:x::y::D'=D2 at a4 t R Z a0 d0⊢;refine go ?_;refine AE (clip_ok w3 a2 D2.length c2 a0) rfl ?_;rintro _ _⟨rfl,rfl⟩;refine go ?_;refine AH (cs:=[iV N,AK [],iV 0,iV 0,.slice a2 D2.length D2.length]) rfl rfl rfl (AW rfl) a1 D0 (fun f d=>go ?_);have k9:Keep [w.heap.size] s f:=k3.any.trans d.E (fun _ h _=>h)
    have c6:Sl (fun b=>ok b\/(w.heap.size<=b/\Unm f b)) f (.slice a2 D2.length D2.length) D2.length L2.flatten:=by
     have h1:=(R.lt (flatten_ne Z.1 Z.2.1)).E k9 (fun b S hm=>by simp at hm;omega);exact h1.mono (c7 f k9)
    have c1:FsAt (fun b=>ok b\/(w.heap.size<=b/\Unm f b)) f L2 D2:=(Z.E k9 (fun b S hm=>by have:=S.2;simp at hm;omega)).mono fun b S=>.inl S.1;subst c0;exact AU rfl rfl rfl d.D.cells ⟨e3.E d.E O,FAt.node N [] 0 0 c6 c1⟩
section
variable {mk:Prop}[MK mk]
structure Fil(B:Nat)(W:World)(g n:Nat)(l:LF)(L:List (LV))(Z:LV):Prop where
 D:Blk W g 36 (L.flatten++Z)
 zl:Z.length=(n-l.length)*5
 ln:l.length<=n
 fs:FsAt (fun b=>B<=b/\b≠g) W L l
 gB:B<=g
section
variable {B g n:Nat}{W W':World}{l:LF}{L:List (LV)}{Z:LV}
theorem Fil.start{w w':World}{z:Array Value}(h:New w w' 36 (madeCells z (n*5)).toList)(f:B<=w.heap.size):Fil B w' w.heap.size n [] [] (madeCells z (n*5)).toList:=
 ⟨h.D,by simp[madeCells],by simp,FsAt.nil _ _,f⟩
theorem Fil.ext(h:Fil B W g n l L Z)(k:Ext W W'):Fil B W' g n l L Z:=⟨h.D.E k O,h.zl,h.ln,h.fs.ext k,h.gB⟩
theorem Fil.room(h:Fil B W g n l L Z)(G:l.length<n):l.length*5+5<=(L.flatten++Z).length:=by
 rw[List.length_append,h.fs.flat,h.zl];omega
theorem Fil.push{T:TypeId}{cs:LV}{x:Fml}(h:Fil B W g n l L Z)(K:FAt (fun b=>B<=b/\b≠g) W (.agg cs.toArray) x)(a:cs.length=5)(G:l.length<n)(p:Put W W' g T (splice (L.flatten++Z) (l.length*5) cs))(u:T=36):
  Fil B W' g n (l++[x]) (L++[cs]) (Z.drop 5):=by
 subst u;have c:=h.fs.flat
 have e:splice (L.flatten++Z) (l.length*5) cs=(L++[cs]).flatten++Z.drop 5:=by
  unfold splice;rw[<-c,List.take_left,a,List.drop_append];simp
 have S:=p.D;rw[e]at S;refine⟨S,by rw[List.length_drop,h.zl,List.length_append];simp only[List.length_singleton];omega,by rw[List.length_append];simp only[List.length_singleton];omega,?_,h.gB⟩;exact(h.fs.snoc K a).E p.E fun b S d=>by simp at d;exact S.2 d
theorem Fil.fin(h:Fil B W g n l L Z)(G:l.length=n)(y:n<=1000000):SlAt fmlR (fun b=>B<=b) W (.slice (sm g) n n) l/\
  ∀(N:Int)(nm:LU)(v b:Int),FAt (fun b=>B<=b) W (.agg #[iV N,AK nm,iV v,iV b,.slice (sm g) n n]) ⟨N,nm,v,b,l⟩:=by
 subst G;have o:Z=[]:=List.eq_nil_of_length_eq_zero (by rw[h.zl];simp);have S:=h.D;rw[o,List.append_nil]at S;have j:Sl (fun b=>B<=b) W (.slice (sm g) l.length l.length) l.length L.flatten:=⟨_,_,rfl,Nat.le_refl _,by omega,(fun e=>by cases e),.inr ⟨g,0,rfl,h.gB,S.cells⟩⟩;have d:FsAt (fun b=>B<=b) W L l:=h.fs.mono fun b S=>S.1;exact⟨⟨_,_,L,rfl,j,d.1,fun i c a V I=>⟨d.2.1 c (List.mem_of_getElem? V),d.2.2 i c a V I⟩⟩,fun N nm v b=>FAt.node N nm v b j d⟩
end
end
theorem FAt.unm{ok:Nat->Prop}{X:List Nat}{w w':World}{u:Value}{f:Fml}(h:FAt (fun b=>ok b/\Unm w b) w u f)(k:Keep X w w')(W:∀b,ok b->b∉X):FAt (fun b=>ok b/\Unm w' b) w' u f:=
 (h.lt.E k fun b S=>W b S.1.1).mono fun b S=>⟨S.1.1,S.1.2.eq (k.block b S.2 (W b S.1.1))⟩
theorem FsAt.unm{ok:Nat->Prop}{X:List Nat}{w w':World}{L:List (LV)}{l:LF}(h:FsAt (fun b=>ok b/\Unm w b) w L l)(k:Keep X w w')(W:∀b,ok b->b∉X):FsAt (fun b=>ok b/\Unm w' b) w' L l:=
 (h.lt.E k fun b S=>W b S.1.1).mono fun b S=>⟨S.1.1,S.1.2.eq (k.block b S.2 (W b S.1.1))⟩
theorem SlAt.unm{ok:Nat->Prop}{X:List Nat}{w w':World}{v:Value}{l:LF}(h:SlAt fmlR (fun b=>ok b/\Unm w b) w v l)(k:Keep X w w')(W:∀b,ok b->b∉X):SlAt fmlR (fun b=>ok b/\Unm w' b) w' v l:=
 ((SlAt.lt EM h).E k fun b S=>W b S.1.1).mono fun b S=>⟨S.1.1,S.1.2.eq (k.block b S.2 (W b S.1.1))⟩
def ArgC(w:World)(r:Option Addr)(args:LF):Prop:=∀(k:Nat)(a:Fml),args[k]?=some a->∀W,Ext w W->∃n l,r=some ⟨n,l,none⟩/\Fn Zp 52 [.pointer (some ⟨n,l+k*5,none⟩)] W fun u Z=>Ext W Z/\FAt (fun b=>W.heap.size<=b/\Unm Z b) Z u (As a)
theorem canons_ok(w:World)(args:LF)(r:Option Addr)(z:Nat)(a0:args.length<=1000)(H:ArgC w r args):
  Fn Zp 85 [.slice r args.length z] w fun u w'=>Ext w w'/\∃g,u=.slice (sm g) args.length args.length/\SlAt fmlR (fun b=>w.heap.size<=b/\Unm w' b) w' u (args.map As):=by
 refine AG Tryz.func85 rfl Tryz.ntmps85 (go ?_);refine W_make (n:=args.length) rfl rfl rfl rfl U D3 (fun w2 N=>?_);have G:=Fil.start (B:=w.heap.size) N (Nat.le_refl _);refine go ?_
 refine Ah (α:=Nat×List (LV)×LV) (fun y=>[(0,.slice r args.length z),(3,.slice (sm w.heap.size) args.length args.length),(9,iV (args.length:Int)),(10,iV (y.1:Int))])
  (fun y W=>y.1<=args.length/\Ext w W/\Fil w.heap.size W w.heap.size args.length ((args.take y.1).map As) y.2.1 y.2.2/\FsAt (fun b=>(w.heap.size<=b/\b≠w.heap.size)/\Unm W b) W y.2.1 ((args.take y.1).map As)/\w.heap.size<W.heap.size) (fun y=>args.length-y.1) (0,[],_) ⟨rfl,rfl,rfl,rfl,trivial⟩ ⟨by simp,N.E,by simpa using G,by simpa using FsAt.nil _ _,by have:=N.size;omega⟩ ?_
 rintro⟨k,L,Z⟩W fr⟨K,V,h,f,X⟩;simp only at K V h f X;have l:((args.take k).map As).length=k:=by simp;omega
 refine go ?_;by_cases p:k<args.length
 ·refine go ?_;obtain⟨x,q⟩:∃x,args[k]?=some x:=⟨_,List.getElem?_eq_getElem p⟩;obtain⟨b',o',rfl,E⟩:=H k x q W V;refine go ?_;refine AE E rfl ?_;rintro u w4⟨d,C⟩;obtain⟨j,rfl,m,M⟩:=C.cells;refine go ?_;have T:=h.ext d;have Q:=T.room (by rw[l];exact p);rw[l]at Q;refine AH (cs:=j) rfl rfl m M T.D U (fun w5 s=>go ?_);have A:=s;rw[show 0+k*5=((args.take k).map As).length*5 by rw[l];omega]at A;have D:=T.push (C.mono fun y F=>⟨by omega,by omega⟩) m (by rw[l];exact p) A rfl;have u4:=f.unm d (fun _ _=>by simp);have u6:=(u4.snoc (C.mono fun y F=>⟨⟨by omega,by omega⟩,F.2⟩) m).unm s.E (fun y F v=>by rw[List.mem_singleton]at v;exact F.2 v);refine go ?_;refine⟨(k+1,L++[j],Z.drop 5),⟨rfl,⟨rfl,rfl,rfl,?_,trivial⟩,⟨by simp only;omega,(V.trans d).E s.E O,?_,?_,by have:=s.size;have:=d.size;omega⟩⟩,by simp only;omega⟩
  ·show iV ((k:Int)+1)=_;rw[Int.natCast_add];rfl
  ·simp only;rw[List.take_add_one,q,List.map_append];exact D
  ·simp only;rw[List.take_add_one,q,List.map_append];exact u6
 ·refine go ?_;rw[List.take_of_length_le U]at h f;refine go ?_;refine AB rfl ⟨V,w.heap.size,rfl,?_⟩;have P:(args.map As).length=args.length:=by simp
  have R:Z=[]:=List.eq_nil_of_length_eq_zero (by rw[h.zl,P];simp);have S:=h.D;rw[R,List.append_nil]at S;have o:FsAt (fun b=>w.heap.size<=b/\Unm W b) W L (args.map As):=f.mono fun b S=>⟨S.1.1,S.2⟩;refine⟨some ⟨w.heap.size,0,none⟩,args.length,L,?_,?_,o.1,fun i c a t I=>⟨o.2.1 c (List.mem_of_getElem? t),o.2.2 i c a t I⟩⟩
  ·rw[P];rfl
  ·rw[P];exact⟨_,_,rfl,Nat.le_refl _,by omega,(fun e=>by cases e),.inr ⟨w.heap.size,0,rfl,⟨Nat.le_refl _,Unm.cells S⟩,S.cells⟩⟩
theorem const_ok(w:World)(S g o n c:Nat)(l:LF)(k:Nat)(x:Fml)(ok:Nat->Prop)(b:Blk w S 34 [.slice (some ⟨g,o,none⟩) n c])(v:PF ok w g (o+k*5) x)(P:k<n):
  Fn Zp 86 [iV (k:Int),pt S] w fun u w'=>u=.bool (CY x)/\w'=w:=by
 have d:=v.opc;refine AG Tryz.func86 rfl Tryz.ntmps86 (go ?_);by_cases X:x.op=1
 ·have a:CY x=true:=by unfold CY;rw[decide_eq_true X,Bool.true_or]
  rw[a];exact El
 ·by_cases W:x.op=2
  ·have a:CY x=true:=by unfold CY;rw[decide_eq_true W,Bool.or_true]
   rw[a];exact El
  ·have a:CY x=false:=by unfold CY;rw[decide_eq_false X,decide_eq_false W];rfl
   rw[a];exact El
theorem SlAt.el{ok:Nat->Prop}{w:World}{g n c:Nat}{l:LF}{k:Nat}{x:Fml}(h:SlAt fmlR ok w (.slice (sm g) n c) l)(j:l[k]?=some x):PF ok w g (0+k*5) x/\∃T R f i a,Cells w g (0+k*5) [T,R,f,i,a]/\FAt ok w (.agg [T,R,f,i,a].toArray) x:=by
 obtain⟨b,o,e,v⟩:=SlAt.pf h j;cases e;refine⟨v,?_⟩;obtain⟨_,d,C,V,K⟩:=v;obtain⟨T,R,f,i,a,rfl⟩:=Ab C;exact⟨T,R,f,i,a,V,K⟩
theorem canon_ok:∀(n:Nat)(w:World)(b o:Nat)(f:Fml),dpF f<=n->szF f<=1000->PF AV w b o f->Sh f->Fn Zp 52 [.pointer (some ⟨b,o,none⟩)] w fun u w'=>Ext w w'/\FAt (fun b=>w.heap.size<=b/\Unm w' b) w' u (As f):=by
 intro n
 induction n with
 |zero=>intro w b o f hd;rw[BQ]at hd;omega
 |succ n ih=>
 intro w b o f hd hz hf hs;obtain⟨aa,cc,hla,q0,q1,q2,q3,q4,qa⟩:=hf.all;obtain⟨N,p,v,bd,s⟩:=f;obtain⟨_,⟨d6,a7,d8,d9,_⟩,hsa⟩:=sh_iff.1 hs;rw[BQ]at hd;rw[BJ]at hz;simp only[Fml.op,Fml.name,Fml.val,Fml.args]at hd hz hla q0 q1 q2 q4 qa;have d7:=Bz s;have c5:=World.block_lt_of_cell? w _ q0;simp only at c5
 have c4:∀V,Ext w V->ArgC V aa s:=fun V eV k a ha W eW=>by
  obtain⟨b',o',e,hp⟩:=qa k a ha;have b0:=List.mem_of_getElem? ha;have h1:=Bi b0;have h2:=BO b0;exact⟨b',o',e,ih W b' _ a U U (hp.E (eV.trans eW) (fun _ _=>by simp)) (hsa a b0)⟩
 rw[canon_eq];refine AG Tryz.func52 rfl Tryz.ntmps52 (go ?_);refine AS (L:=zero5) (fun w1 E=>go ?_);have z1:=E.size;have d3:=E.E.cell q4 O;refine go ?_;refine AE (canons_ok w1 s aa cc U (c4 w1 E.E)) rfl ?_;rintro _ w2⟨k2,g,rfl,b9⟩;refine AS (L:=[.slice none 0 0]) (fun w3 n3=>?_);refine AR (v:=.slice (sm g) s.length s.length) rfl rfl rfl n3.D O (fun M p4=>?_);repeat refine nx rfl ?_
 have b3:Blk M w2.heap.size 34 [.slice (sm g) s.length s.length]:=p4.D;have a5:Ext w2 M:=n3.E.E p4.E O;have K:Ext w M:=(E.E.trans k2).trans a5;have d:Blk M w.heap.size 36 zero5:=E.D.E (k2.trans a5) O;have Q:=b9.unm a5 (fun _ _=>by simp);have z2:=k2.size;have e0:=a5.size;have b6:=K.cell q0 O;have d1:=K.cell q1 O;have d2:=K.cell q2 O;have P:(s.map As).length=s.length:=by simp
 have b4:∀x∈s.map As,Sh x:=fun x X=>by
  obtain⟨y,F,rfl⟩:=List.mem_map.1 X;exact cf_sh (canon_cf (hsa y F))
 have b5:szL (s.map As)<=1000:=by
  have:=szL_map As s fun a ha=>canon_sz (hsa a ha);omega
 clear b9 E k2 n3 p4 d3;generalize s.map As=l at Q P b4 b5⊢;obtain⟨S,c6⟩:∃S,S=w2.heap.size:=⟨_,rfl⟩;rw[<-c6]at b3⊢;have d4:w1.heap.size<=S:=by omega
 (refine AJ (Dl rfl rfl (AO ?_))<;>refine M_func rfl ?_)
 repeat refine nx rfl ?_
 (refine AJ (Af rfl (AM rfl (AD rfl ?_)))<;>refine AL rfl Dz ?_<;>refine AA ?_)
 refine Q_then ?_;refine DF (α:=Unit) (fun _=>[(0,.pointer (some ⟨b,o,none⟩)),(2,pt w.heap.size),(3,pt S)]) (fun _ W=>W=M/\Bh N p v l=⟨N,p,v,0,l⟩) ?_ ?_
 ·have a1:∀k,k<s.length->∃x,l[k]?=some x/\l.getD k Ag=x:=fun k hk=>by
   have c1:k<l.length:=by omega
   exact⟨l[k],List.getElem?_eq_getElem c1,by rw[List.getD_eq_getElem?_getD,List.getElem?_eq_getElem c1];rfl⟩
  refine go ?_;by_cases b8:N=5\/N=6
  ·rcases b8 with rfl|rfl
   ·refine go ?_;rw[show Bh 5 p v l=Dr 5 l by unfold Bh;rw[if_pos U]];refine AX (rd 0 5 (.alt 5 (.alt 6 .done .stop) .stop)) An Dv (fun H I ed=>⟨fun V=>Keep [w.heap.size] H V,?_,?_⟩)
    ·exact FK
    have s1:∀V,Keep [w.heap.size] H V->V.cell? ⟨b,o+0,none⟩=some (iV 5):=fun V e=>e.cell (I.cell b6 O) Dw;have s2:∀V,Keep [w.heap.size] H V->V.cell? ⟨S,0,none⟩=some (.slice (sm g) s.length s.length):=fun V e=>e.cell ((b3.E I O).cell rfl) Dw;((apply D_R rfl rfl;(intro W q;refine Af rfl ?_;exact AA ⟨rfl,rfl,rfl⟩))<;>(apply D_R rfl rfl;(intro W q;refine AM rfl ?_;exact AA ⟨rfl,rfl,rfl⟩))<;>(apply D_R rfl rfl;(intro W q;refine AD rfl ?_;exact AA ⟨rfl,rfl,rfl⟩))<;>(apply D_R rfl rfl;(intro W q;refine AL rfl (s1 W q) ?_;exact AA ⟨rfl,rfl,rfl⟩))<;>(apply D_R rfl rfl;(intro W q;refine AL rfl (s2 W q) ?_;exact AA ⟨rfl,rfl,rfl⟩)))
    refine D_E rfl ?_;have a0:=SlAt.lt EM (Q.unm I (fun _ _=>by simp));rw[<-P]at a0;have hj:=join_ok H 5 U (sm g) _ l _ a0 (fun b hb=>hb.1.2) (Nat.le_trans b5 U) b4;rw[P]at hj;refine AE hj rfl ?_;rintro u w5⟨D,f5⟩;obtain⟨r,rfl,a8,b1⟩:=f5.cells;obtain⟨T,R,z,A,B,rfl⟩:=Ab a8;refine AA ⟨_,fun _ e=>e,D.any,?_⟩;refine D_E rfl ?_;have zd:=I.size;have z5:=D.size;refine AH (cs:=[T,R,z,A,B]) rfl rfl rfl b1 ((d.E I O).E D O) D0 (fun Z j=>?_);refine AA ⟨_,fun _ e=>e,D.any.trans j.E (fun _ h _=>h),?_⟩;refine go ?_
    have f6:FAt (fun b=>w1.heap.size<=b/\Unm w5 b) w5 (.agg [T,R,z,A,B].toArray) (Dr 5 l):=f5.mono fun y F=>by
     rcases F with h|h
     ·exact⟨h.1.1,h.1.2.eq (D.block y h.2 O)⟩
     ·exact⟨by omega,h.2⟩
    exact FZ
   ·refine go ?_;rw[show Bh 6 p v l=Dr 6 l by unfold Bh;rw[if_pos U]];refine AX (rd 0 5 (.alt 5 (.alt 6 .done .stop) .stop)) An Dv (fun H I ed=>⟨fun V=>Keep [w.heap.size] H V,?_,?_⟩)
    ·exact FK
    have s1:∀V,Keep [w.heap.size] H V->V.cell? ⟨b,o+0,none⟩=some (iV 6):=fun V e=>e.cell (I.cell b6 O) Dw;have s2:∀V,Keep [w.heap.size] H V->V.cell? ⟨S,0,none⟩=some (.slice (sm g) s.length s.length):=fun V e=>e.cell ((b3.E I O).cell rfl) Dw;((apply D_R rfl rfl;(intro W q;refine Af rfl ?_;exact AA ⟨rfl,rfl,rfl⟩))<;>(apply D_R rfl rfl;(intro W q;refine AM rfl ?_;exact AA ⟨rfl,rfl,rfl⟩))<;>(apply D_R rfl rfl;(intro W q;refine AD rfl ?_;exact AA ⟨rfl,rfl,rfl⟩))<;>(apply D_R rfl rfl;(intro W q;refine AL rfl (s1 W q) ?_;exact AA ⟨rfl,rfl,rfl⟩))<;>(apply D_R rfl rfl;(intro W q;refine AL rfl (s2 W q) ?_;exact AA ⟨rfl,rfl,rfl⟩)))
    refine D_E rfl ?_;have a0:=SlAt.lt EM (Q.unm I (fun _ _=>by simp));rw[<-P]at a0;have hj:=join_ok H 6 U (sm g) _ l _ a0 (fun b hb=>hb.1.2) (Nat.le_trans b5 U) b4;rw[P]at hj;refine AE hj rfl ?_;rintro u w5⟨D,f5⟩;obtain⟨r,rfl,a8,b1⟩:=f5.cells;obtain⟨T,R,z,A,B,rfl⟩:=Ab a8;refine AA ⟨_,fun _ e=>e,D.any,?_⟩;refine D_E rfl ?_;have zd:=I.size;have z5:=D.size;refine AH (cs:=[T,R,z,A,B]) rfl rfl rfl b1 ((d.E I O).E D O) D0 (fun Z j=>?_);refine AA ⟨_,fun _ e=>e,D.any.trans j.E (fun _ h _=>h),?_⟩;refine go ?_
    have f6:FAt (fun b=>w1.heap.size<=b/\Unm w5 b) w5 (.agg [T,R,z,A,B].toArray) (Dr 6 l):=f5.mono fun y F=>by
     rcases F with h|h
     ·exact⟨h.1.1,h.1.2.eq (D.block y h.2 O)⟩
     ·exact⟨by omega,h.2⟩
    exact FZ
  ·by_cases h8:N=8
   ·subst h8;have d5:s.length=1:=by simpa[Aq]using a7
    obtain⟨x,X,a2⟩:=a1 0 U;obtain⟨hp,T,R,z,A,B,m,G⟩:=Q.el X;have t:=canonOp_8 p v l;rw[a2]at t;refine go ?_;refine Az (v1:=[]) (v2:=[pt S]) (vs:=[iV ((0:Nat):Int)]) rfl (const_ok M S g 0 _ _ l 0 x _ b3 hp U) rfl ?_;rintro _ M⟨rfl,rfl⟩;cases hic:CY x with
    |true=>
     rw[hic,if_pos rfl]at t;exact Ea
    |false=>
     rw[hic,if_neg Bool.false_ne_true]at t;refine go ?_;exact Ao () ⟨rfl,rfl,rfl,trivial⟩ ⟨rfl,t⟩
   ·by_cases h9:N=9
    ·subst h9;have c8:s.length=2:=by simpa[Aq]using a7
     obtain⟨y,F,hgy⟩:=a1 0 U;obtain⟨b2,_⟩:=Q.el F;obtain⟨x,X,a2⟩:=a1 1 U;obtain⟨hp,T,R,z,A,B,m,G⟩:=Q.el X;have t:=canonOp_9 p v l;rw[a2,hgy]at t;have qy:=b2.opc;refine go ?_;refine Az (v1:=[]) (v2:=[pt S]) (vs:=[iV ((1:Nat):Int)]) rfl (const_ok M S g 0 _ _ l 1 x _ b3 hp U) rfl ?_;rintro _ M⟨rfl,rfl⟩;cases hic:CY x with
     |true=>
      rw[if_pos (.inl hic)]at t;exact Ea
     |false=>
      by_cases a3:y.op=2
      ·rw[if_pos (.inr a3)]at t;exact Ea
      ·exact Fx
    ·by_cases b7:N=10
     ·subst b7;have c8:s.length=2:=by simpa[Aq]using a7
      obtain⟨y,F,hgy⟩:=a1 0 U;obtain⟨b2,_⟩:=Q.el F;obtain⟨x,X,a2⟩:=a1 1 U;obtain⟨hp,T,R,z,A,B,m,G⟩:=Q.el X;have t:=canonOp_10 p v l;rw[a2,hgy]at t;have qy:=b2.opc;refine go ?_;refine Az (v1:=[]) (v2:=[pt S]) (vs:=[iV ((1:Nat):Int)]) rfl (const_ok M S g 0 _ _ l 1 x _ b3 hp U) rfl ?_;rintro _ M⟨rfl,rfl⟩;cases hic:CY x with
      |true=>
       rw[if_pos (.inl hic)]at t;exact Ea
      |false=>
       by_cases a3:y.op=1
       ·rw[if_pos (.inr a3)]at t;exact Ea
       ·exact Fx
     ·refine go ?_;exact Ao () ⟨rfl,rfl,rfl,trivial⟩ ⟨rfl,canonOp_E b8 h8 h9 b7 p v l⟩
 rintro _ W f5⟨rfl,d0⟩;rw[d0];refine go ?_;refine AX (rd 0 14 (.alt 14 .done .stop)) An Dv (fun H I ed=>⟨fun V=>Keep [w.heap.size] H V,?_,?_⟩)
 ·exact FK
 have s0:∀V,Keep [w.heap.size] H V->V.cell? ⟨b,o+0,none⟩=some (iV N):=fun V e=>e.cell (I.cell b6 O) Dw;have s1:∀V,Keep [w.heap.size] H V->V.cell? ⟨b,o+1,none⟩=some (AK p):=fun V e=>e.cell (I.cell d1 O) Dw;have s2:∀V,Keep [w.heap.size] H V->V.cell? ⟨b,o+2,none⟩=some (iV v):=fun V e=>e.cell (I.cell d2 O) Dw;have s3:∀V,Keep [w.heap.size] H V->V.cell? ⟨S,0,none⟩=some (.slice (sm g) s.length s.length):=fun V e=>e.cell ((b3.E I O).cell rfl) Dw;((apply D_R rfl rfl;(intro W q;refine Af rfl ?_;exact AA ⟨rfl,rfl,rfl⟩))<;>(apply D_R rfl rfl;(intro W q;refine AM rfl ?_;exact AA ⟨rfl,rfl,rfl⟩))<;>(apply D_R rfl rfl;(intro W q;refine AD rfl ?_;exact AA ⟨rfl,rfl,rfl⟩))<;>(apply D_R rfl rfl;(intro W q;refine AL rfl (s0 W q) ?_;exact AA ⟨rfl,rfl,rfl⟩))<;>(apply D_R rfl rfl;(intro W q;refine Af rfl ?_;exact AA ⟨rfl,rfl,rfl⟩))<;>(apply D_R rfl rfl;(intro W q;refine AM rfl ?_;exact AA ⟨rfl,rfl,rfl⟩))<;>(apply D_R rfl rfl;(intro W q;refine AD rfl ?_;exact AA ⟨rfl,rfl,rfl⟩))<;>(apply D_R rfl rfl;(intro W q;refine AL rfl (s1 W q) ?_;exact AA ⟨rfl,rfl,rfl⟩))<;>(apply D_R rfl rfl;(intro W q;refine Af rfl ?_;exact AA ⟨rfl,rfl,rfl⟩))<;>(apply D_R rfl rfl;(intro W q;refine AM rfl ?_;exact AA ⟨rfl,rfl,rfl⟩))<;>(apply D_R rfl rfl;(intro W q;refine AD rfl ?_;exact AA ⟨rfl,rfl,rfl⟩))<;>(apply D_R rfl rfl;(intro W q;refine AL rfl (s2 W q) ?_;exact AA ⟨rfl,rfl,rfl⟩))<;>(apply D_R rfl rfl;(intro W q;refine AL rfl (s3 W q) ?_;exact AA ⟨rfl,rfl,rfl⟩))<;>(apply D_R rfl rfl;(intro W q;refine Bv Dx Dx ?_;exact AA ⟨rfl,rfl,rfl⟩)))
 refine D_E rfl ?_;refine AH (cs:=[iV N,AK p,iV v,iV 0,.slice (sm g) s.length s.length]) rfl rfl rfl (AW rfl) (d.E I O) D0 (fun Z j=>?_);refine AA ⟨_,fun _ e=>e,j.E,?_⟩;refine go ?_;have zd:=I.size;have c3:=(Q.unm I (fun _ _=>by simp)).unm j.E (fun y F C=>by rw[List.mem_singleton]at C;omega);obtain⟨a9,c9,L9,e9,a6,a4⟩:=c3;rw[P]at a6 e9
 have c2:FsAt (fun b=>w1.heap.size<=b/\Unm Z b) Z L9 l:=⟨a4.1,fun c hc=>by
  obtain⟨i,hi⟩:=List.getElem?_of_mem hc;have c7:i<l.length:=by rw[<-a4.1];exact(List.getElem?_eq_some_iff.1 hi).1
  exact(a4.2 i c _ hi (List.getElem?_eq_getElem c7)).1,fun i c x hc X=>(a4.2 i c x hc X).2⟩
 rw[<-P]at a6;have c0:=FAt.node N p v 0 a6 c2;rw[P]at c0;refine go ?_;exact AU rfl rfl rfl j.D.cells ⟨(K.trans I).E j.E O,c0.mono fun y F=>⟨by omega,F.2⟩⟩
section
variable {mk:Prop}[MK mk]
theorem past_of_pst{N v b:Int}{nm:LU}{args:LF}{i:Bool}(h:BC i (.mk N nm v b args)=true)(c:N=15\/N=16\/N=17):CC (.mk N nm v b args)=true:=by
 obtain⟨_,_,_,z⟩:=CZ h;have e:(i||pstB N)=true:=by rcases c with rfl|rfl|rfl<;>cases i<;>rfl
 rw[e]at z;rw[CC,pastL_of fun a I=>DX a (z a I)];rcases c with rfl|rfl|rfl<;>rfl
theorem raged_ok(w0:World)(r:Nat)(S:List Sgn)(x:Int)(hR:Rdr w0 r S x):∀(n:Nat)(w:World)(b o:Nat)(f:Fml)(i:Bool),dpF f<=n->szF f<=1000->Ext w0 w->PF AV w b o f->BC i f=true->isB (knS S) f=true->
  Fn Zp 190 [pt r,.pointer (some ⟨b,o,none⟩)] w fun u w'=>Ext w w'/\FAt (fun b=>w.heap.size<=b) w' u (Dn (vlS S x) f):=by
 have c2:=rnow_ok w0 r S x hR;obtain⟨X,hX⟩:∃X,X=vlS S x:=⟨_,rfl⟩;rw[<-hX]at c2⊢;intro n
 induction n with
 |zero=>intro w b o f i hd;rw[BQ]at hd;omega
 |succ n ih=>
 intro w b o f i hd hz e0 hf hb hk;have e2:dpF f<=n+1:=hd;have e9:=@past_of_pst;have f6:=hf;have c6:=hb;have e6:=hk;obtain⟨N,p,E,bd,m⟩:=f;obtain⟨f9,f0,_,b6⟩:=CZ hb;have d8:=BR f0;obtain⟨f7,c1⟩:=is_iff.1 hk;have hla:=Bz m;rw[BQ]at hd;rw[BJ]at hz;simp only[Fml.args]at hd hz;rw[aged_eq];refine AG Tryz.func190 rfl Tryz.ntmps190 (go ?_);refine AS (fun w1 n1=>go ?_);have z1:=n1.size;have c9:=hf.E n1.E (fun _ _=>by simp);obtain⟨aa,cc,_,q0,q1,q2,q3,q4,_⟩:=c9.all;refine AX (rd 0 13 (.alt 13 (.alt 14 .done .stop) .stop)) An Dv (fun H I ed=>⟨Ext H,?_,?_⟩)
 ·exact Ew
 have s0:∀V,Ext H V->V.cell? ⟨b,o+0,none⟩=some (iV N):=fun V e=>(I.trans e).cell q0 O;have s1:∀V,Ext H V->V.cell? ⟨b,o+1,none⟩=some (AK p):=fun V e=>(I.trans e).cell q1 O;have s2:∀V,Ext H V->V.cell? ⟨b,o+2,none⟩=some (iV E):=fun V e=>(I.trans e).cell q2 O;((apply D_R rfl rfl;(intro W d;refine Af rfl ?_;exact AA ⟨rfl,rfl,rfl⟩))<;>(apply D_R rfl rfl;(intro W d;refine AM rfl ?_;exact AA ⟨rfl,rfl,rfl⟩))<;>(apply D_R rfl rfl;(intro W d;refine AD rfl ?_;exact AA ⟨rfl,rfl,rfl⟩))<;>(apply D_R rfl rfl;(intro W d;refine AL rfl (s0 W d) ?_;exact AA ⟨rfl,rfl,rfl⟩))<;>(apply D_R rfl rfl;(intro W d;refine Af rfl ?_;exact AA ⟨rfl,rfl,rfl⟩))<;>(apply D_R rfl rfl;(intro W d;refine AM rfl ?_;exact AA ⟨rfl,rfl,rfl⟩))<;>(apply D_R rfl rfl;(intro W d;refine AD rfl ?_;exact AA ⟨rfl,rfl,rfl⟩))<;>(apply D_R rfl rfl;(intro W d;refine AL rfl (s1 W d) ?_;exact AA ⟨rfl,rfl,rfl⟩))<;>(apply D_R rfl rfl;(intro W d;refine Af rfl ?_;exact AA ⟨rfl,rfl,rfl⟩))<;>(apply D_R rfl rfl;(intro W d;refine AM rfl ?_;exact AA ⟨rfl,rfl,rfl⟩))<;>(apply D_R rfl rfl;(intro W d;refine AD rfl ?_;exact AA ⟨rfl,rfl,rfl⟩))<;>(apply D_R rfl rfl;(intro W d;refine AL rfl (s2 W d) ?_;exact AA ⟨rfl,rfl,rfl⟩))<;>(apply D_R rfl rfl;(intro W d;refine Bv Dx Dx ?_;exact AA ⟨rfl,rfl,rfl⟩)))
 refine D_E rfl ?_;refine AS (L:=zero5) (fun w2 n2=>?_);refine AA ⟨Ext H,fun _ e=>e,n2.E,?_⟩;refine D_E rfl ?_;refine AH (cs:=[iV N,AK p,iV E,iV 0,.slice none 0 0]) rfl rfl rfl (AW rfl) n2.D D0 (fun w3 p3=>?_);refine AA ⟨Ext H,fun _ e=>e,n2.E.E p3.E O,?_⟩;refine Bq ?_;clear s0 s1 s2 q0 q1 q2 q3 q4;have z2:=n2.size;have z3:=p3.size;have zd:=I.size;have b3:Blk w3 H.heap.size 36 [iV N,AK p,iV E,iV 0,.slice none 0 0]:=p3.D;have d3:Ext H w3:=n2.E.E p3.E O;have c3:Ext w1 w3:=I.trans d3;have Q:Ext w w3:=n1.E.trans c3;have b4:Blk w3 w.heap.size 36 zero5:=n1.D.E c3 O;have a9:=hf.E Q (fun _ _=>by simp);have d0:=hf;have q0:=a9.opc;obtain⟨f1,f2,_,d4,b9⟩:=a9.arg;simp only[Fml.op,Fml.args]at q0 d4 b9;obtain⟨z,d9⟩:∃z,z=H.heap.size:=⟨_,rfl⟩;rw[<-d9]at b3⊢;have hc5w:w1.heap.size<=z:=by omega
 have hc5l:z<w3.heap.size:=b3.lt;clear c9 n2 p3 d3 c3 n1;obtain⟨M,a7⟩:∃M,M=agedV X N E ((m.map (Bw X)).getD 0 false) (Bw X (.mk N p E bd m)):=⟨_,rfl⟩;rw[<-a7];repeat refine nx rfl ?_
 refine AJ (AO (AI rfl ?_));repeat refine nx rfl ?_
 (refine AJ (Af rfl (AM rfl (AD rfl ?_)))<;>refine AL rfl Dz ?_<;>refine AA ?_)
 refine Q_then ?_;refine DF (α:=Bool×Int) (fun y=>[(0,pt r),(1,.pointer (some ⟨b,o,none⟩)),(4,pt w.heap.size),(5,pt z),(6,.bool y.1)]) (fun y W=>Ext w W/\(if y.1 then 1 else y.2)=M/\Blk W z 36 [iV N,AK p,iV y.2,iV 0,.slice none 0 0]/\Blk W w.heap.size 36 zero5) ?_ ?_
 ·by_cases c5:N=15
  ·subst c5;have e7:m.length=1:=by simpa[Aq]using d8
   obtain⟨a,ha⟩:=Cv e7;have ham:a∈m:=by rw[ha];simp
   obtain⟨P,o',rfl,e5⟩:=b9 0 a (by rw[ha];rfl);have b7:=b6 a ham;simp only[show∀i,(i||pstB 15)=true from fun i=>by cases i<;>rfl]at b7;refine go ?_;refine AE (c2 n w3 P _ a true (by have:=Bi ham;omega) (e0.trans Q) e5 b7 (DX a b7) (c1 a ham)) rfl ?_;rintro _ w4⟨rfl,C⟩;refine go ?_;refine AR (v:=iV 0) rfl rfl rfl (b3.E C O) O (fun w5 s=>go ?_);exact Ao (Bw X a,0) ⟨rfl,rfl,rfl,rfl,rfl,trivial⟩ ⟨(Q.trans C).E s.E Dw,by rw[a7,ha];rfl,s.D,(b4.E C O).E s.E Dw⟩
  ·by_cases h67:N=16\/N=17
   ·have c7:=c2 (n+1) w3 b o (.mk N p E bd m) i e2 (e0.trans Q) a9 c6 (e9 c6 (.inr h67)) e6;have a8:M=bitI (Bw X (.mk N p E bd m)):=by rw[a7];unfold agedV;rw[if_neg c5,if_pos h67]
    refine go ?_;rcases h67 with rfl|rfl
    ·refine go ?_;refine AE c7 rfl ?_;rintro _ w4⟨rfl,C⟩;refine go ?_;refine AR (v:=iV 0) rfl rfl rfl (b3.E C O) O (fun w5 s=>go ?_);exact Ao (Bw X (.mk 16 p E bd m),0) ⟨rfl,rfl,rfl,rfl,rfl,trivial⟩ ⟨(Q.trans C).E s.E Dw,a8.symm,s.D,(b4.E C O).E s.E Dw⟩
    ·refine go ?_;refine AE c7 rfl ?_;rintro _ w4⟨rfl,C⟩;refine go ?_;refine AR (v:=iV 0) rfl rfl rfl (b3.E C O) O (fun w5 s=>go ?_);exact Ao (Bw X (.mk 17 p E bd m),0) ⟨rfl,rfl,rfl,rfl,rfl,trivial⟩ ⟨(Q.trans C).E s.E Dw,a8.symm,s.D,(b4.E C O).E s.E Dw⟩
   ·have a8:M=E:=by rw[a7];exact agedV_keep X _ _ _ U
    refine go ?_;exact Ao (false,E) ⟨rfl,rfl,rfl,rfl,rfl,trivial⟩ ⟨Q,a8.symm,b3,b4⟩
 rintro⟨hh,y⟩W3 f3⟨b2,b1,a5,c4⟩;simp only at b1 a5;repeat refine nx rfl ?_
 refine AJ (AI rfl (AA ?_));refine Q_then ?_;refine DF (α:=Unit) (fun _=>[(0,pt r),(1,.pointer (some ⟨b,o,none⟩)),(4,pt w.heap.size),(5,pt z)]) (fun _ W=>Ext w W/\Blk W z 36 [iV N,AK p,iV M,iV 0,.slice none 0 0]/\Blk W w.heap.size 36 zero5) ?_ ?_
 ·cases hh with
  |true=>
   refine go ?_;refine AR (v:=iV 1) rfl rfl rfl a5 O (fun w5 s=>go ?_);refine Ao () ⟨rfl,rfl,rfl,rfl,trivial⟩ ⟨b2.E s.E Dw,?_,c4.E s.E Dw⟩;rw[<-b1];exact s.D
  |false=>
   refine go ?_;refine Ao () ⟨rfl,rfl,rfl,rfl,trivial⟩ ⟨b2,?_,c4⟩;rw[<-b1];exact a5
 rintro _ W4 f4⟨C,b5,d7⟩;clear b3 b4 q0 a9 Q hc5l b2 a5 c4 b1 b9 d4;have e3:=d0.E C (fun _ _=>by simp);obtain⟨aa,cc,_,a2,_⟩:=e3.arg;simp only[Fml.args]at a2;refine go ?_
 refine Ah (α:=Nat×Value×List (LV)) (fun x=>[(0,pt r),(1,.pointer (some ⟨b,o,none⟩)),(4,pt w.heap.size),(5,pt z),(48,iV (m.length:Int)),(49,iV (x.1:Int))])
  (fun x W=>x.1<=m.length/\Ext w W/\Bld w1 W z N p M 0 ((m.take x.1).map (Dn X)) x.2.1 x.2.2/\Blk W w.heap.size 36 zero5/\z<W.heap.size) (fun x=>m.length-x.1) (0,.slice none 0 0,[]) ⟨rfl,rfl,rfl,rfl,rfl,rfl,trivial⟩ ⟨by simp,C,by simpa using Bld.start b5,d7,b5.lt⟩ ?_
 rintro⟨k,v,L⟩W fr⟨hk,Z,G,bz,e1⟩;simp only at hk Z G bz e1;refine go ?_;by_cases e8:k<m.length
 ·refine go ?_;obtain⟨x,T⟩:∃x,m[k]?=some x:=⟨_,List.getElem?_eq_getElem e8⟩;have e4:=d0.E Z (fun _ _=>by simp);obtain⟨aa,cc,_,a2,c8⟩:=e4.arg;simp only[Fml.args]at a2 c8;obtain⟨P,o',rfl,d1⟩:=c8 k x T;refine AX (.read 0 (rd 2 7 (.alt 1 (.alt 9 (.alt 10 (.alt 11 (.read 12 (.alt 13 .done .stop)) .stop) .stop) .stop) (.alt 9 (.alt 1 (.alt 10 (.alt 11 (.read 12 (.alt 13 .done .stop)) .stop) .stop) (.alt 10 (.alt 1 (.alt 11 (.read 12 (.alt 13 .done .stop)) .stop) .stop) .stop)) .stop)))) An Dv (fun H I ed=>⟨fun V=>V.cell? ⟨b,o+4,none⟩=some (.slice (some ⟨P,o',none⟩) m.length cc),?_,?_⟩)
  ·exact I.cell a2 O
  have ca:∀V:World,V.cell? ⟨b,o+4,none⟩=some (.slice (some ⟨P,o',none⟩) m.length cc)->V.cell? ⟨b,o+4,none⟩=some (.slice (some ⟨P,o',none⟩) m.length cc):=fun V e=>e;((apply D_R rfl rfl;(intro W d;refine AD rfl ?_;exact AA ⟨rfl,rfl,rfl⟩))<;>(apply D_R rfl rfl;(intro W d;refine Af rfl ?_;exact AA ⟨rfl,rfl,rfl⟩))<;>(apply D_R rfl rfl;(intro W d;refine Af rfl ?_;exact AA ⟨rfl,rfl,rfl⟩))<;>(apply D_R rfl rfl;(intro W d;refine AM rfl ?_;exact AA ⟨rfl,rfl,rfl⟩))<;>(apply D_R rfl rfl;(intro W d;refine AD rfl ?_;exact AA ⟨rfl,rfl,rfl⟩))<;>(apply D_R rfl rfl;(intro W d;refine AL rfl (ca W d) ?_;exact AA ⟨rfl,rfl,rfl⟩))<;>(apply D_R rfl rfl;(intro W d;refine AY rfl ?_;exact AA ⟨rfl,rfl,rfl⟩))<;>(apply D_R rfl rfl;(intro W d;refine Cd rfl rfl rfl U ?_;exact AA ⟨rfl,rfl,rfl⟩)))
  have hSd:H.cell? ⟨b,o+4,none⟩=some (.slice (some ⟨P,o',none⟩) m.length cc):=I.cell a2 O;have a6:=G.ext I;have hbw:b<w.heap.size:=by have:=hf.lt.1;exact this.2
  have zd:=I.size;have a1:=List.mem_of_getElem? T;have f5:=Bi a1;have g0:=BO a1;have c0:∀g,v.ownBlock=some g->g<H.heap.size:=fun g hg=>(Ad a6.own hg).2;refine D_A rfl ?_ ?_
  ·refine AL rfl (a6.D.cell (o:=4) rfl) ?_;refine wNl hSd ?_;refine D_E rfl ?_;refine AE (ih H P (o'+k*5) x _ U U (e0.trans (Z.trans I)) (d1.E I (fun _ _=>by simp)) (b6 x a1) (c1 x a1)) rfl ?_;rintro u8 w8⟨D,f8⟩;obtain⟨cs,rfl,b8,b0⟩:=f8.cells;obtain⟨x0,x1,x2,x3,x4,rfl⟩:=Ab b8;have a0:=D.cell hSd O;have A:=a6.ext D;have z8:=D.size;refine wNl a0 ?_;refine D_E rfl ?_;refine AP (out:=[x0,x1,x2,x3,x4]) rfl U D4 (fun w9 c=>?_);have K:=c.E.cell a0 O;have t:=A.ext c.E;refine wNl K ?_;refine D_E rfl ?_;have o9:=c.own (n:=1) (size:=5) rfl D3 (Nat.le_refl _);have z9:=c.size;have d2:((m.take k).map (Dn X)).length=k:=by simp;omega
   refine Ap (ok:=AV) (v:=v) (sv:=.slice (sm w8.heap.size) 1 1) rfl rfl t.own (Aa o9 fun _ _=>trivial) U rfl rfl b0 U U U (fun l d5 q=>?_);have d6:=q.E.size;have j:=q.E.cell K (fun T=>by have:=Ad t.own (Option.mem_toList.1 T);omega);refine wNl j ?_;refine go ?_;refine D_E rfl ?_;have a3:z∉v.ownBlock.toList:=fun T=>t.ne _ (Option.mem_toList.1 T) rfl;refine AR (v:=l) rfl rfl (C3 q.own) (t.D.E q.E a3) O (fun a4 R=>?_);refine wNl (R.E.cell j Dw) ?_;refine go ?_;obtain⟨hB,kB⟩:=A.push (B:=H.heap.size) ⟨by omega,by omega⟩ c0 U U f8 rfl c q R rfl
   have kD:Ext w a4:=((Z.trans I).trans D).E kB (fun y F=>by
    rcases List.mem_cons.1 F with rfl|F
    ·omega
    ·have:=(Ad A.own (Option.mem_toList.1 F)).1;omega)
   refine go ?_;refine⟨(k+1,l,L++[[x0,x1,x2,x3,x4]]),⟨rfl,⟨rfl,rfl,rfl,rfl,rfl,?_,trivial⟩,⟨by simp only;omega,kD,?_,(bz.E (I.trans D) O).E kB ?_,by have:=kB.size;omega⟩⟩,by simp only;omega⟩
   ·show iV ((k:Int)+1)=_;rw[Int.natCast_add];rfl
   ·exact GL
   ·intro F;rcases List.mem_cons.1 F with e|F
    ·omega
    ·have:=(Ad G.own (Option.mem_toList.1 F)).1;omega
  refine D_E rfl ?_;refine AE (ih H P (o'+k*5) x _ U U (e0.trans (Z.trans I)) (d1.E I (fun _ _=>by simp)) (b6 x a1) (c1 x a1)) rfl ?_;rintro u8 w8⟨D,f8⟩;obtain⟨cs,rfl,b8,b0⟩:=f8.cells;obtain⟨x0,x1,x2,x3,x4,rfl⟩:=Ab b8;have a0:=D.cell hSd O;have A:=a6.ext D;have z8:=D.size;refine wNl a0 ?_;refine D_A rfl ?_ ?_
  ·refine AL rfl (A.D.cell (o:=4) rfl) ?_;refine wNl a0 ?_;refine D_E rfl ?_;refine AP (out:=[x0,x1,x2,x3,x4]) rfl U D4 (fun w9 c=>?_);have K:=c.E.cell a0 O;have t:=A.ext c.E;refine wNl K ?_;refine D_E rfl ?_;have o9:=c.own (n:=1) (size:=5) rfl D3 (Nat.le_refl _);have z9:=c.size;have d2:((m.take k).map (Dn X)).length=k:=by simp;omega
   refine Ap (ok:=AV) (v:=v) (sv:=.slice (sm w8.heap.size) 1 1) rfl rfl t.own (Aa o9 fun _ _=>trivial) U rfl rfl b0 U U U (fun l d5 q=>?_);have d6:=q.E.size;have j:=q.E.cell K (fun T=>by have:=Ad t.own (Option.mem_toList.1 T);omega);refine wNl j ?_;refine go ?_;refine D_E rfl ?_;have a3:z∉v.ownBlock.toList:=fun T=>t.ne _ (Option.mem_toList.1 T) rfl;refine AR (v:=l) rfl rfl (C3 q.own) (t.D.E q.E a3) O (fun a4 R=>?_);refine wNl (R.E.cell j Dw) ?_;refine go ?_;obtain⟨hB,kB⟩:=A.push (B:=H.heap.size) ⟨by omega,by omega⟩ c0 U U f8 rfl c q R rfl
   have kD:Ext w a4:=((Z.trans I).trans D).E kB (fun y F=>by
    rcases List.mem_cons.1 F with rfl|F
    ·omega
    ·have:=(Ad A.own (Option.mem_toList.1 F)).1;omega)
   refine go ?_;refine⟨(k+1,l,L++[[x0,x1,x2,x3,x4]]),⟨rfl,⟨rfl,rfl,rfl,rfl,rfl,?_,trivial⟩,⟨by simp only;omega,kD,?_,(bz.E (I.trans D) O).E kB ?_,by have:=kB.size;omega⟩⟩,by simp only;omega⟩
   ·show iV ((k:Int)+1)=_;rw[Int.natCast_add];rfl
   ·exact GL
   ·intro F;rcases List.mem_cons.1 F with e|F
    ·omega
    ·have:=(Ad G.own (Option.mem_toList.1 F)).1;omega
  refine D_E rfl ?_;refine AP (out:=[x0,x1,x2,x3,x4]) rfl U D4 (fun w9 c=>?_);have K:=c.E.cell a0 O;have t:=A.ext c.E;refine wNl K ?_;refine D_E rfl ?_;refine AL rfl (t.D.cell (o:=4) rfl) ?_;refine wNl K ?_;refine D_E rfl ?_;have o9:=c.own (n:=1) (size:=5) rfl D3 (Nat.le_refl _);have z9:=c.size;have d2:((m.take k).map (Dn X)).length=k:=by simp;omega
  refine Ap (ok:=AV) (v:=v) (sv:=.slice (sm w8.heap.size) 1 1) rfl rfl t.own (Aa o9 fun _ _=>trivial) U rfl rfl b0 U U U (fun l d5 q=>?_);have d6:=q.E.size;have j:=q.E.cell K (fun T=>by have:=Ad t.own (Option.mem_toList.1 T);omega);refine wNl j ?_;refine go ?_;refine D_E rfl ?_;have a3:z∉v.ownBlock.toList:=fun T=>t.ne _ (Option.mem_toList.1 T) rfl;refine AR (v:=l) rfl rfl (C3 q.own) (t.D.E q.E a3) O (fun a4 R=>?_);refine wNl (R.E.cell j Dw) ?_;refine go ?_;obtain⟨hB,kB⟩:=A.push (B:=H.heap.size) ⟨by omega,by omega⟩ c0 U U f8 rfl c q R rfl
  have kD:Ext w a4:=((Z.trans I).trans D).E kB (fun y F=>by
   rcases List.mem_cons.1 F with rfl|F
   ·omega
   ·have:=(Ad A.own (Option.mem_toList.1 F)).1;omega)
  refine go ?_;refine⟨(k+1,l,L++[[x0,x1,x2,x3,x4]]),⟨rfl,⟨rfl,rfl,rfl,rfl,rfl,?_,trivial⟩,⟨by simp only;omega,kD,?_,(bz.E (I.trans D) O).E kB ?_,by have:=kB.size;omega⟩⟩,by simp only;omega⟩
  ·show iV ((k:Int)+1)=_;rw[Int.natCast_add];rfl
  ·exact GL
  ·intro F;rcases List.mem_cons.1 F with e|F
   ·omega
   ·have:=(Ad G.own (Option.mem_toList.1 F)).1;omega
 ·refine go ?_;rw[List.take_of_length_le U]at G;have bf:=G.D;refine go ?_;refine AH (cs:=[iV N,AK p,iV M,iV 0,v]) rfl rfl rfl ?_ bz D0 (fun w5 s=>?_)
  ·intro u hu;simp at hu;rcases hu with rfl|rfl|rfl|rfl|rfl<;>first|rfl|exact C3 G.own
  refine go ?_;exact AU rfl rfl rfl s.D.cells ⟨Z.E s.E O,((G.fin.E s.E (fun x T hm=>by have:=T.1;simp at hm;omega)).mono fun x T=>by have:=T.1;omega)⟩
theorem node_ok(w:World)(N:Int)(a:Option Addr)(n c:Nat):Fn Zp 189 [iV N,.slice a n c] w fun u w'=>u=.agg #[iV N,AK [],iV 0,iV 0,.slice a n c]/\Ext w w':=by
 refine AG Tryz.func189 rfl Tryz.ntmps189 (go ?_);refine AS (L:=zero5) (fun R E=>go ?_);refine AH (cs:=[iV N,AK [],iV 0,iV 0,.slice a n c]) rfl rfl rfl (AW rfl) E.D D0 (fun b K=>go ?_);exact AU rfl rfl rfl K.D.cells ⟨rfl,E.E.E K.E O⟩
def ArgW(w:World)(r:Nat)(X:Vl)(c:Option Addr)(args:LF):Prop:=∀(k:Nat)(a:Fml),args[k]?=some a->∀W,Ext w W->∃n l,c=some ⟨n,l,none⟩/\Fn Zp 158 [pt r,.pointer (some ⟨n,l+k*5,none⟩)] W fun u Z=>Ext W Z/\FAt (fun b=>W.heap.size<=b) Z u (rawF X a)
theorem rconn_ok(w:World)(r b o:Nat)(X:Vl)(N:Int)(args:LF)(j:Option Addr)(z:Nat)(a0:args.length<=1000)(q0:w.cell? ⟨b,o+0,none⟩=some (iV N))(q4:w.cell? ⟨b,o+4,none⟩=some (.slice j args.length z))(D:ArgW w r X j args):
  Fn Zp 154 [pt r,.pointer (some ⟨b,o,none⟩)] w fun u w'=>Ext w w'/\FAt (fun b=>w.heap.size<=b) w' u (opF N (args.map (rawF X))):=by
 refine AG Tryz.func154 rfl Tryz.ntmps154 (go ?_);refine AS (L:=zero5) (fun R E=>go ?_);have a2:=E.E.cell q4 O;refine go ?_;refine W_make (n:=args.length) rfl rfl rfl rfl U D3 (fun v e=>?_);have A:=Fil.start (B:=R.heap.size) e (Nat.le_refl _);have q:Ext w v:=E.E.trans e.E;have z1:=E.size;have t:Blk v w.heap.size 36 zero5:=E.D.E e.E O;have a3:=q.cell q4 O;refine go ?_
 refine Ah (α:=Nat×List (LV)×LV) (fun y=>[(0,pt r),(1,.pointer (some ⟨b,o,none⟩)),(4,pt w.heap.size),(5,.slice (sm R.heap.size) args.length args.length),(17,iV (args.length:Int)),(18,iV (y.1:Int))])
  (fun y W=>y.1<=args.length/\Ext w W/\Blk W w.heap.size 36 zero5/\Fil R.heap.size W R.heap.size args.length ((args.take y.1).map (rawF X)) y.2.1 y.2.2/\R.heap.size<W.heap.size) (fun y=>args.length-y.1) (0,[],_) ⟨rfl,rfl,rfl,rfl,rfl,rfl,trivial⟩ ⟨by simp,q,t,by simpa using A,by have:=e.size;omega⟩ ?_
 rintro⟨k,L,Z⟩W fr⟨I,V,f,h,S⟩;simp only at I V f h S;have a4:=V.cell q4 O;have l:((args.take k).map (rawF X)).length=k:=by simp;omega
 refine go ?_;by_cases g:k<args.length
 ·refine go ?_;obtain⟨x,p⟩:∃x,args[k]?=some x:=⟨_,List.getElem?_eq_getElem g⟩;obtain⟨b',o',rfl,G⟩:=D k x p W V;refine go ?_;refine AE G rfl ?_;rintro u w4⟨a,C⟩;obtain⟨d,rfl,m,M⟩:=C.cells;refine go ?_;have T:=h.ext a;have Q:=T.room (by rw[l];exact g);rw[l]at Q;refine AH (cs:=d) rfl rfl m M T.D U (fun w5 s=>go ?_);have c:=s;rw[show 0+k*5=((args.take k).map (rawF X)).length*5 by rw[l];omega]at c;have P:=T.push (C.mono fun y F=>⟨by omega,by omega⟩) m (by rw[l];exact g) c rfl;refine go ?_;refine⟨(k+1,L++[d],Z.drop 5),⟨rfl,⟨rfl,rfl,rfl,rfl,rfl,?_,trivial⟩,⟨by simp only;omega,(V.trans a).E s.E Dw,(f.E a O).E s.E Dw,?_,by have:=s.size;have:=a.size;omega⟩⟩,by simp only;omega⟩
  ·show iV ((k:Int)+1)=_;rw[Int.natCast_add];rfl
  ·simp only;rw[List.take_add_one,p,List.map_append];exact P
 ·refine go ?_;rw[List.take_of_length_le U]at h;have a1:=V.cell q0 O;obtain⟨_,H⟩:=h.fin O U;refine go ?_;refine AE (node_ok W N _ _ _) rfl ?_;rintro _ w5⟨rfl,i⟩;refine AH (cs:=[iV N,AK [],iV 0,iV 0,.slice (sm R.heap.size) args.length args.length]) rfl rfl rfl (AW rfl) (f.E i O) D0 (fun w6 c=>go ?_);exact AU rfl rfl rfl c.D.cells ⟨(V.trans i).E c.E O,(((H N [] 0 0).ext i).E c.E (fun y F K=>by simp at K;omega)).mono fun y F=>by omega⟩
def FnA(w:World)(r:Nat)(X:Vl)(b o:Nat)(f:Fml):Prop:=Fn Zp 190 [pt r,.pointer (some ⟨b,o,none⟩)] w fun u Z=>Ext w Z/\FAt (fun b=>w.heap.size<=b) Z u (Dn X f)
theorem rnext_ok(w:World)(r b o:Nat)(X:Vl)(args:LF)(a:Fml)(d:Option Addr)(z:Nat)(q4:w.cell? ⟨b,o+4,none⟩=some (.slice d args.length z))(I:args=[a])
  (F:∀W,Ext w W->∃n l,d=some ⟨n,l,none⟩/\FnA W r X n (l+0*5) a):Fn Zp 155 [pt r,.pointer (some ⟨b,o,none⟩)] w fun u w'=>Ext w w'/\FAt (fun b=>w.heap.size<=b) w' u (Dn X a):=by
 subst I;obtain⟨n,l,rfl,_⟩:=F w (Ext.refl _);simp only[List.length_singleton]at q4;refine AG Tryz.func155 rfl Tryz.ntmps155 (go ?_);refine AS (L:=zero5) (fun R E=>go ?_);have t:=E.E.cell q4 O;have B:=E.size;obtain⟨_,_,A,g⟩:=F R E.E;cases A;refine go ?_;refine AE g rfl ?_;rintro u q⟨e,C⟩;obtain⟨f,rfl,x,i⟩:=C.cells;obtain⟨T,k,c,m,p,rfl⟩:=Ab x;refine AH (cs:=[T,k,c,m,p]) rfl rfl rfl i (E.D.E e O) D0 (fun v s=>go ?_);exact AU rfl rfl rfl s.D.cells ⟨(E.E.trans e).E s.E O,(C.E s.E (fun y j h=>by simp at h;omega)).mono fun y j=>by omega⟩
theorem two_new{w w':World}{ok:Nat->Prop}{T R c b a y I N M q:Value}{f g:Fml}(n:New w w' 36 [T,R,c,b,a,y,I,N,M,q])(K:FAt ok w (.agg #[T,R,c,b,a]) f)(t:FAt ok w (.agg #[y,I,N,M,q]) g)(S:ok w.heap.size)(d:Int):
  FAt ok w' (.agg #[iV d,AK [],iV 0,iV 0,.slice (sm w.heap.size) 2 2]) (opF d [f,g]):=by
 have A:FsAt ok w [[T,R,c,b,a],[y,I,N,M,q]] [f,g]:=FsAt.two K rfl t rfl;obtain⟨X,W⟩:=FsAt.fresh (L:=[[T,R,c,b,a],[y,I,N,M,q]]) n A S O;exact FAt.node d [] 0 0 X W
theorem runtil_ok(w:World)(r b o:Nat)(X:Vl)(f:Fml)(a c:Fml)(D:Option Addr)(z:Nat)(q4:w.cell? ⟨b,o+4,none⟩=some (.slice D [a,c].length z))(s:ArgW w r X D [a,c])(a0:∀W,Ext w W->FnA W r X b o f):
  Fn Zp 156 [pt r,.pointer (some ⟨b,o,none⟩)] w fun u w'=>Ext w w'/\FAt (fun b=>w.heap.size<=b) w' u (opF 6 [rawF X c,opF 5 [rawF X a,Dn X f]]):=by
 obtain⟨M,o',rfl,_⟩:=s 0 a rfl w (Ext.refl _);simp only[List.length_cons,List.length_nil]at q4;refine AG Tryz.func156 rfl Tryz.ntmps156 (go ?_);refine AS (L:=zero5) (fun R B=>go ?_);have z1:=B.size;refine AX (rd 0 6 (rd 7 6 (.read 14 (.read 15 (.alt 6 (.alt 13 (.alt 16 (.alt 17 (.alt 18 (.alt 19 (.alt 20 (.alt 21 .done .stop) .stop) .stop) .stop) .stop) .stop) .stop) .stop))))) An Dv (fun H v ed=>⟨fun V=>Keep [w.heap.size] H V,?_,?_⟩)
 ·exact FK
 have j:=B.E.trans v;have zd:=v.size;have S:=World.block_lt_of_cell? w _ q4;simp only at S;have K:∀V,Keep [w.heap.size] H V->V.cell? ⟨b,o+4,none⟩=some (.slice (some ⟨M,o',none⟩) (0+1+1) z):=fun V e=>e.cell (j.cell q4 O) Dw;((apply D_R rfl rfl;(intro W d;refine Af rfl ?_;exact AA ⟨rfl,rfl,rfl⟩))<;>(apply D_R rfl rfl;(intro W d;refine Af rfl ?_;exact AA ⟨rfl,rfl,rfl⟩))<;>(apply D_R rfl rfl;(intro W d;refine AM rfl ?_;exact AA ⟨rfl,rfl,rfl⟩))<;>(apply D_R rfl rfl;(intro W d;refine AD rfl ?_;exact AA ⟨rfl,rfl,rfl⟩))<;>(apply D_R rfl rfl;(intro W d;refine AL rfl (K W d) ?_;exact AA ⟨rfl,rfl,rfl⟩))<;>(apply D_R rfl rfl;(intro W d;refine Bd rfl rfl U U ?_;exact AA ⟨rfl,rfl,rfl⟩))<;>(apply D_R rfl rfl;(intro W d;refine Af rfl ?_;exact AA ⟨rfl,rfl,rfl⟩))<;>(apply D_R rfl rfl;(intro W d;refine Af rfl ?_;exact AA ⟨rfl,rfl,rfl⟩))<;>(apply D_R rfl rfl;(intro W d;refine AM rfl ?_;exact AA ⟨rfl,rfl,rfl⟩))<;>(apply D_R rfl rfl;(intro W d;refine AD rfl ?_;exact AA ⟨rfl,rfl,rfl⟩))<;>(apply D_R rfl rfl;(intro W d;refine AL rfl (K W d) ?_;exact AA ⟨rfl,rfl,rfl⟩))<;>(apply D_R rfl rfl;(intro W d;refine Bd rfl rfl U U ?_;exact AA ⟨rfl,rfl,rfl⟩))<;>(apply D_R rfl rfl;(intro W d;refine Af rfl ?_;exact AA ⟨rfl,rfl,rfl⟩))<;>(apply D_R rfl rfl;(intro W d;refine Af rfl ?_;exact AA ⟨rfl,rfl,rfl⟩)))
 refine D_E rfl ?_;obtain⟨_,_,A,t⟩:=s 1 c rfl H j;cases A;refine AE t rfl ?_;rintro u2 w2⟨l,Z⟩;obtain⟨q,rfl,x,a1⟩:=Z.cells;obtain⟨x0,x1,x2,x3,x4,rfl⟩:=Ab x;have z2:=l.size;refine AA ⟨_,fun _ e=>e,(l).any,?_⟩;refine D_E rfl ?_;obtain⟨_,_,A,t⟩:=s 0 a rfl w2 (j.trans l);cases A;refine AE t rfl ?_;rintro u3 w3⟨g,k⟩;obtain⟨q,rfl,x,a2⟩:=k.cells;obtain⟨y0,y1,y2,y3,y4,rfl⟩:=Ab x;have z3:=g.size;refine AA ⟨_,fun _ e=>e,(l.trans g).any,?_⟩;refine D_E rfl ?_;refine AE (a0 w3 ((j.trans l).trans g)) rfl ?_;rintro u4 w4⟨i,C⟩;obtain⟨q,rfl,x,a3⟩:=C.cells;obtain⟨v0,v1,v2,v3,v4,rfl⟩:=Ab x;have z4:=i.size;refine AA ⟨_,fun _ e=>e,((l.trans g).trans i).any,?_⟩;refine D_E rfl ?_;refine AP (out:=[y0,y1,y2,y3,y4,v0,v1,v2,v3,v4]) rfl U EL (fun w5 I=>?_);have z5:=I.size;refine AA ⟨_,fun _ e=>e,(((l.trans g).trans i).trans I.E).any,?_⟩;have N:=two_new (ok:=fun b=>R.heap.size<=b) I ((k.ext i).mono fun y F=>by omega) (C.mono fun y F=>by omega) U 5;refine D_E rfl ?_;refine AE (node_ok w5 5 _ _ _) rfl ?_;rintro _ w6⟨rfl,Q⟩;have z6:=Q.size;have P:=N.ext Q;refine AA ⟨_,fun _ e=>e,((((l.trans g).trans i).trans I.E).trans Q).any,?_⟩;refine D_E rfl ?_;refine AP (out:=[x0,x1,x2,x3,x4,iV 5,AK [],iV 0,iV 0,.slice (sm w4.heap.size) 2 2]) rfl U EL (fun w7 E=>?_);have z7:=E.size;refine AA ⟨_,fun _ e=>e,(((((l.trans g).trans i).trans I.E).trans Q).trans E.E).any,?_⟩;have p:=two_new (ok:=fun b=>R.heap.size<=b) E (((((Z.ext g).ext i).ext I.E).ext Q).mono fun y F=>by omega) P U 6;refine D_E rfl ?_;refine AE (node_ok w7 6 _ _ _) rfl ?_;rintro _ w8⟨rfl,G⟩;have m:=(((((l.trans g).trans i).trans I.E).trans Q).trans E.E).trans G;refine AA ⟨_,fun _ e=>e,(m).any,?_⟩;refine D_E rfl ?_;refine AH (cs:=[iV 6,AK [],iV 0,iV 0,.slice (sm w6.heap.size) 2 2]) rfl rfl rfl (AW rfl) (B.D.E (v.trans m) O) D0 (fun w9 n=>?_);exact FI
theorem rrel_ok(w:World)(r b o:Nat)(X:Vl)(f:Fml)(a c:Fml)(D:Option Addr)(z:Nat)(q4:w.cell? ⟨b,o+4,none⟩=some (.slice D [a,c].length z))(s:ArgW w r X D [a,c])(a0:∀W,Ext w W->FnA W r X b o f):
  Fn Zp 157 [pt r,.pointer (some ⟨b,o,none⟩)] w fun u w'=>Ext w w'/\FAt (fun b=>w.heap.size<=b) w' u (opF 5 [rawF X c,opF 6 [rawF X a,Dn X f]]):=by
 obtain⟨M,o',rfl,_⟩:=s 0 a rfl w (Ext.refl _);simp only[List.length_cons,List.length_nil]at q4;refine AG Tryz.func157 rfl Tryz.ntmps157 (go ?_);refine AS (L:=zero5) (fun R B=>go ?_);have z1:=B.size;refine AX (rd 0 6 (rd 7 6 (.read 14 (.read 15 (.alt 6 (.alt 13 (.alt 16 (.alt 17 (.alt 18 (.alt 19 (.alt 20 (.alt 21 .done .stop) .stop) .stop) .stop) .stop) .stop) .stop) .stop))))) An Dv (fun H v ed=>⟨fun V=>Keep [w.heap.size] H V,?_,?_⟩)
 ·exact FK
 have j:=B.E.trans v;have zd:=v.size;have S:=World.block_lt_of_cell? w _ q4;simp only at S;have K:∀V,Keep [w.heap.size] H V->V.cell? ⟨b,o+4,none⟩=some (.slice (some ⟨M,o',none⟩) (0+1+1) z):=fun V e=>e.cell (j.cell q4 O) Dw;((apply D_R rfl rfl;(intro W d;refine Af rfl ?_;exact AA ⟨rfl,rfl,rfl⟩))<;>(apply D_R rfl rfl;(intro W d;refine Af rfl ?_;exact AA ⟨rfl,rfl,rfl⟩))<;>(apply D_R rfl rfl;(intro W d;refine AM rfl ?_;exact AA ⟨rfl,rfl,rfl⟩))<;>(apply D_R rfl rfl;(intro W d;refine AD rfl ?_;exact AA ⟨rfl,rfl,rfl⟩))<;>(apply D_R rfl rfl;(intro W d;refine AL rfl (K W d) ?_;exact AA ⟨rfl,rfl,rfl⟩))<;>(apply D_R rfl rfl;(intro W d;refine Bd rfl rfl U U ?_;exact AA ⟨rfl,rfl,rfl⟩))<;>(apply D_R rfl rfl;(intro W d;refine Af rfl ?_;exact AA ⟨rfl,rfl,rfl⟩))<;>(apply D_R rfl rfl;(intro W d;refine Af rfl ?_;exact AA ⟨rfl,rfl,rfl⟩))<;>(apply D_R rfl rfl;(intro W d;refine AM rfl ?_;exact AA ⟨rfl,rfl,rfl⟩))<;>(apply D_R rfl rfl;(intro W d;refine AD rfl ?_;exact AA ⟨rfl,rfl,rfl⟩))<;>(apply D_R rfl rfl;(intro W d;refine AL rfl (K W d) ?_;exact AA ⟨rfl,rfl,rfl⟩))<;>(apply D_R rfl rfl;(intro W d;refine Bd rfl rfl U U ?_;exact AA ⟨rfl,rfl,rfl⟩))<;>(apply D_R rfl rfl;(intro W d;refine Af rfl ?_;exact AA ⟨rfl,rfl,rfl⟩))<;>(apply D_R rfl rfl;(intro W d;refine Af rfl ?_;exact AA ⟨rfl,rfl,rfl⟩)))
 refine D_E rfl ?_;obtain⟨_,_,A,t⟩:=s 1 c rfl H j;cases A;refine AE t rfl ?_;rintro u2 w2⟨l,Z⟩;obtain⟨q,rfl,x,a1⟩:=Z.cells;obtain⟨x0,x1,x2,x3,x4,rfl⟩:=Ab x;have z2:=l.size;refine AA ⟨_,fun _ e=>e,(l).any,?_⟩;refine D_E rfl ?_;obtain⟨_,_,A,t⟩:=s 0 a rfl w2 (j.trans l);cases A;refine AE t rfl ?_;rintro u3 w3⟨g,k⟩;obtain⟨q,rfl,x,a2⟩:=k.cells;obtain⟨y0,y1,y2,y3,y4,rfl⟩:=Ab x;have z3:=g.size;refine AA ⟨_,fun _ e=>e,(l.trans g).any,?_⟩;refine D_E rfl ?_;refine AE (a0 w3 ((j.trans l).trans g)) rfl ?_;rintro u4 w4⟨i,C⟩;obtain⟨q,rfl,x,a3⟩:=C.cells;obtain⟨v0,v1,v2,v3,v4,rfl⟩:=Ab x;have z4:=i.size;refine AA ⟨_,fun _ e=>e,((l.trans g).trans i).any,?_⟩;refine D_E rfl ?_;refine AP (out:=[y0,y1,y2,y3,y4,v0,v1,v2,v3,v4]) rfl U EL (fun w5 I=>?_);have z5:=I.size;refine AA ⟨_,fun _ e=>e,(((l.trans g).trans i).trans I.E).any,?_⟩;have N:=two_new (ok:=fun b=>R.heap.size<=b) I ((k.ext i).mono fun y F=>by omega) (C.mono fun y F=>by omega) U 6;refine D_E rfl ?_;refine AE (node_ok w5 6 _ _ _) rfl ?_;rintro _ w6⟨rfl,Q⟩;have z6:=Q.size;have P:=N.ext Q;refine AA ⟨_,fun _ e=>e,((((l.trans g).trans i).trans I.E).trans Q).any,?_⟩;refine D_E rfl ?_;refine AP (out:=[x0,x1,x2,x3,x4,iV 6,AK [],iV 0,iV 0,.slice (sm w4.heap.size) 2 2]) rfl U EL (fun w7 E=>?_);have z7:=E.size;refine AA ⟨_,fun _ e=>e,(((((l.trans g).trans i).trans I.E).trans Q).trans E.E).any,?_⟩;have p:=two_new (ok:=fun b=>R.heap.size<=b) E (((((Z.ext g).ext i).ext I.E).ext Q).mono fun y F=>by omega) P U 5;refine D_E rfl ?_;refine AE (node_ok w7 5 _ _ _) rfl ?_;rintro _ w8⟨rfl,G⟩;have m:=(((((l.trans g).trans i).trans I.E).trans Q).trans E.E).trans G;refine AA ⟨_,fun _ e=>e,(m).any,?_⟩;refine D_E rfl ?_;refine AH (cs:=[iV 5,AK [],iV 0,iV 0,.slice (sm w6.heap.size) 2 2]) rfl rfl rfl (AW rfl) (B.D.E (v.trans m) O) D0 (fun w9 n=>?_);exact FI
theorem rraw_of(w:World)(r:Nat)(S:List Sgn)(x:Int)(F:FuncId)[hF:AF Zp F](b o:Nat)(f g:Fml)(q:Rdr w r S x)(K:PF AV w b o f)(v:CC f=false)(M:(rawT r).lookup f.op=some (mvR F r))
  (G:∀W,Ext w W->Fn Zp F [pt r,.pointer (some ⟨b,o,none⟩)] W fun u k=>Ext W k/\FAt (fun b=>W.heap.size<=b) k u g):Fn Zp 158 [pt r,.pointer (some ⟨b,o,none⟩)] w fun u w'=>Ext w w'/\FAt (fun b=>w.heap.size<=b) w' u g:=by
 obtain⟨sa,sc,ra,rc,mt,Q,m,hS,hv,a0,j⟩:=q;have p:=K.opc;have a2:=m.lt;have a1:=j.lt;have z:=World.block_lt_of_cell? w _ p;simp only at z;refine AG Tryz.func158 rfl Tryz.ntmps158 (go ?_);refine AS (L:=zero5) (fun R E=>go ?_);refine AE (rpast_ok (dpF f) R b o f (Nat.le_refl _) (K.E E.E (fun _ _=>by simp))) rfl ?_;rintro _ Z⟨rfl,l⟩;have A:=E.E.trans l;have t:Blk Z w.heap.size 36 zero5:=E.D.E l O;rw[v];refine go ?_;refine AX (rd 0 10 (.alt 10 (.alt 11 .done .stop) .stop)) An Dv (fun H I ed=>⟨fun V=>Keep [w.heap.size] H V,?_,?_⟩)
 ·exact FK
 have d:=A.trans I;have X:∀V,Keep [w.heap.size] H V->V.cell? ⟨r,0+3,none⟩=some (.map (some Q)):=fun V e=>e.cell ((m.E d O).cell rfl) Dw;have N:∀V,Keep [w.heap.size] H V->V.cell? ⟨b,o+0,none⟩=some (iV f.op):=fun V e=>e.cell (d.cell p O) Dw;((apply D_R rfl rfl;(intro W c;refine Af rfl ?_;exact AA ⟨rfl,rfl,rfl⟩))<;>(apply D_R rfl rfl;(intro W c;refine AM rfl ?_;exact AA ⟨rfl,rfl,rfl⟩))<;>(apply D_R rfl rfl;(intro W c;refine AD rfl ?_;exact AA ⟨rfl,rfl,rfl⟩))<;>(apply D_R rfl rfl;(intro W c;refine AL rfl (X W c) ?_;exact AA ⟨rfl,rfl,rfl⟩))<;>(apply D_R rfl rfl;(intro W c;refine Af rfl ?_;exact AA ⟨rfl,rfl,rfl⟩))<;>(apply D_R rfl rfl;(intro W c;refine AM rfl ?_;exact AA ⟨rfl,rfl,rfl⟩))<;>(apply D_R rfl rfl;(intro W c;refine AD rfl ?_;exact AA ⟨rfl,rfl,rfl⟩))<;>(apply D_R rfl rfl;(intro W c;refine AL rfl (N W c) ?_;exact AA ⟨rfl,rfl,rfl⟩)))
 refine D_R rfl rfl (fun V i=>by refine W_lookupV rfl rfl ((j.E d O).E i Dw) M ?_;exact AA ⟨rfl,rfl,rfl⟩) ?_;refine go ?_;refine D_E rfl ?_;refine Az (v1:=[pt r]) (v2:=[]) (vs:=[.pointer (some ⟨b,o,none⟩)]) rfl (G H d) rfl ?_;rintro u w4⟨a,C⟩;obtain⟨s,rfl,B,D⟩:=C.cells;obtain⟨T,x1,x2,x3,x4,rfl⟩:=Ab B;refine AA ⟨_,fun _ e=>e,a.any,?_⟩;refine D_E rfl ?_;have zd:=d.size;have z1:=E.size;have zk:=l.size;have a3:=I.size;refine AH (cs:=[T,x1,x2,x3,x4]) rfl rfl rfl D ((t.E I O).E a O) D0 (fun w9 n=>?_);refine AA ⟨_,fun _ e=>e,a.any.trans n.E (fun _ h _=>h),?_⟩;refine go ?_;exact AU rfl rfl rfl n.D.cells ⟨(d.trans a).E n.E O,(C.E n.E (fun y P j=>by simp at j;omega)).mono fun y P=>by omega⟩
theorem past_3{a:Fml}{i:Bool}(h:BC i a=true)(Q:a.op=3):CC a=true:=by
 obtain⟨N,d,v,b,c⟩:=a;obtain⟨_,W,_,_⟩:=CZ h;obtain rfl:N=3:=Q;have p:=BR W;have:c=[]:=List.eq_nil_of_length_eq_zero (by simpa[Aq]using p);subst this;rfl
theorem bare_future{N v b:Int}{nm:LU}{args:LF}{i:Bool}(h:BC i (.mk N nm v b args)=true)(c:CC (.mk N nm v b args)=false):N=5\/N=6\/N=8\/N=9\/N=10:=by
 obtain⟨X,W,Q,z⟩:=CZ h;have p:=BR W
 have s:N=1\/N=2\/N=3->False:=fun R=>by
  have:args=[]:=List.eq_nil_of_length_eq_zero (by rcases R with rfl|rfl|rfl<;>simpa[Aq]using p);subst this;rcases R with rfl|rfl|rfl<;>simp[CC,pastL]at c
 have T:N=15\/N=16\/N=17->False:=fun R=>by rw[past_of_pst h R]at c;cases c
 have g:N=4->False:=fun R=>by
  have D:=(sh_iff.1 (Cy h)).2.1.2.2.2.2 R;rw[CC,pastL_of fun a I=>past_3 (z a I) (D a I)]at c;subst R;simp at c
 rcases Bg X with h|h|h|h|h|h|h|h|h|h|h|h<;>first|exact(s U).elim|exact(T U).elim|exact(g h).elim|omega
theorem rraw_ok(y:World)(r:Nat)(S:List Sgn)(x:Int)(q:Rdr y r S x):∀(n:Nat)(w:World)(b o:Nat)(f:Fml),dpF f<=n->szF f<=1000->Ext y w->PF AV w b o f->BC false f=true->isB (knS S) f=true->
  Fn Zp 158 [pt r,.pointer (some ⟨b,o,none⟩)] w fun u w'=>Ext w w'/\FAt (fun b=>w.heap.size<=b) w' u (rawF (vlS S x) f):=by
 have a3:=rnow_ok y r S x q;have M:=raged_ok y r S x q;obtain⟨X,hX⟩:∃X,X=vlS S x:=⟨_,rfl⟩;rw[<-hX]at a3 M⊢;intro n
 induction n with
 |zero=>intro w b o f C;rw[BQ]at C;omega
 |succ n ih=>
 intro w b o f C T d K H P;have a6:=C;have a9:=T;have B:=q.ext d;obtain⟨j,t,a7,q0,q1,q2,q3,Q,qa⟩:=K.all;have v:=K;cases hp:CC f with
 |false=>
  obtain⟨op,Z,vl,m,i⟩:=f;obtain⟨b1,a8,_,a0⟩:=CZ H;have p:=BR a8;obtain⟨b0,a2⟩:=is_iff.1 P;have b2:=Bz i;rw[BQ]at C;rw[BJ]at T;simp only[Fml.op,Fml.args]at C T a7 q0 Q qa;have a1:=bare_future H hp;rw[raw_eq,if_neg (by rw[hp];exact Bool.false_ne_true)]
  have a5:ArgW w r X j i:=fun k a I W eW=>by
   obtain⟨s,o',e,N⟩:=qa k a I;have z:=List.mem_of_getElem? I;have h1:=Bi z;have h2:=BO z;have h3:=a0 a z;rw[show(false||pstB op)=false by rcases a1 with rfl|rfl|rfl|rfl|rfl<;>rfl]at h3;exact⟨s,o',e,ih W s _ a U U (d.trans eW) (N.E eW (fun _ _=>by simp)) h3 (a2 a z)⟩
  have G:∀W,Ext w W->ArgW W r X j i:=fun W e k a I V h=>a5 k a I V (e.trans h);have a4:∀W,Ext w W->FnA W r X b o (.mk op Z vl m i):=fun W e=>M (n+1) W b o _ false a6 a9 (d.trans e) (v.E e (fun _ _=>by simp)) H P;rcases a1 with rfl|rfl|rfl|rfl|rfl
  ·exact rraw_of w r S x 154 b o _ _ B v hp rfl fun W e=>rconn_ok W r b o X 5 i j t U (e.cell q0 O) (e.cell Q O) (G W e)
  ·exact rraw_of w r S x 154 b o _ _ B v hp rfl fun W e=>rconn_ok W r b o X 6 i j t U (e.cell q0 O) (e.cell Q O) (G W e)
  ·obtain⟨a,I⟩:=Cv (l:=i) (by simpa[Aq]using p);have z:a∈i:=by rw[I];simp
   have h1:=Bi z;have h2:=BO z;obtain⟨s,o',e',N⟩:=qa 0 a (by rw[I];rfl);have R:rawOp 8 (Dn X (.mk 8 Z vl m i)) (i.map (rawF X)) (i.map (Dn X))=Dn X a:=by rw[I];rfl
   rw[R];exact rraw_of w r S x 155 b o _ _ B v hp rfl fun W e=>rnext_ok W r b o X i a j t (e.cell Q O) I fun V h=>⟨s,o',e',M n V s _ a _ U U (d.trans (e.trans h)) (N.E (e.trans h) (fun _ _=>by simp)) (a0 a z) (a2 a z)⟩
  ·obtain⟨a,c,I⟩:=Cj (l:=i) (by simpa[Aq]using p);subst I;exact rraw_of w r S x 156 b o _ _ B v hp rfl fun W e=>runtil_ok W r b o X _ a c j t (e.cell Q O) (G W e) fun V h=>a4 V (e.trans h)
  ·obtain⟨a,c,I⟩:=Cj (l:=i) (by simpa[Aq]using p);subst I;exact rraw_of w r S x 157 b o _ _ B v hp rfl fun W e=>rrel_ok W r b o X _ a c j t (e.cell Q O) (G W e) fun V h=>a4 V (e.trans h)
 |true=>
  have R:rawF X f=constF (Bw X f):=by
   obtain⟨op,Z,vl,m,i⟩:=f;rw[raw_eq,if_pos hp]
  rw[R];refine AG Tryz.func158 rfl Tryz.ntmps158 (go ?_);refine AS (L:=zero5) (fun w1 E=>go ?_);refine AE (rpast_ok (dpF f) w1 b o f (Nat.le_refl _) (K.E E.E (fun _ _=>by simp))) rfl ?_;rintro _ w2⟨rfl,k2⟩;have A:=E.E.trans k2;have b4:Blk w2 w.heap.size 36 zero5:=E.D.E k2 O;rw[hp];refine go ?_;refine AE (a3 (dpF f) w2 b o f false (Nat.le_refl _) (d.trans A) (K.E A (fun _ _=>by simp)) H hp P) rfl ?_;rintro _ w3⟨rfl,g⟩;cases Bw X f with
  |true=>
   refine go ?_;refine AE (node_ok w3 1 none 0 0) rfl ?_;rintro _ w4⟨rfl,D⟩;refine AH (cs:=[iV 1,AK [],iV 0,iV 0,.slice none 0 0]) rfl rfl rfl (AW rfl) ((b4.E g O).E D O) D0 (fun w9 F=>go ?_);exact AU rfl rfl rfl F.D.cells ⟨((A.trans g).trans D).E F.E O,FAt.leaf _ _ 1 [] 0 0⟩
  |false=>
   refine go ?_;refine AE (node_ok w3 2 none 0 0) rfl ?_;rintro _ w4⟨rfl,D⟩;refine AH (cs:=[iV 2,AK [],iV 0,iV 0,.slice none 0 0]) rfl rfl rfl (AW rfl) ((b4.E g O).E D O) D0 (fun w9 F=>go ?_);exact AU rfl rfl rfl F.D.cells ⟨((A.trans g).trans D).E F.E O,FAt.leaf _ _ 2 [] 0 0⟩
end
end Go.Proofs.YtohodbnnhlddpaaGreatDoor
