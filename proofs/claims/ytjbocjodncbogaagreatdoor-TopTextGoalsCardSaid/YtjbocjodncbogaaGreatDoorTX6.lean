/- TopTextGoals, part 6 of 16: rules, lemmas, walks. Conditions: none. -/
import Derived.Test.YtjbocjodncbogaaGreatDoorTX5
namespace Go.Proofs.YtjbocjodncbogaaGreatDoor
open Go.RowKit
set_option linter.unusedVariables false
section
variable {mk:Prop}[MK mk]
theorem madePut:(madeCells (Value.agg #[.pointer none,.bool false]).cells (1*2)).toList=[.pointer none,.bool false]:=by kernel_rfl
theorem nodesIt_ok{yv:Value}{X:List Nat}{q D:List Nd->World->Prop}(w:World)(i b o:Nat)(f:Fml)(H:NodesR yv X w.heap.size (Dp false f) q D)(b4:Blk w i 89 [.pointer (some ⟨b,o,none⟩)])(P:PF (fun b=>b∉X/\b<w.heap.size) w b o f)(s:GF w)(hN:10<=w.heap.size)(hd:dpF f<=5000)(u:q [] w)(hX:∀x∈X,x<w.heap.size):
  Fn Zp 205 [yv,pt i] w fun _ w'=>Keep X w w'/\(q (Dp false f) w'\/∃M,M<+:Dp false f/\M≠[]/\D M w'):=by
 have e:∀{c:Nat},w.heap.size<=c->c∉X:=fun h V=>by have:=hX _ V;omega
 have hy:=H.fn;obtain⟨y,rfl⟩:=hy;refine AN Tryz.func205 rfl Tryz.ntmps205 (go ?_);refine A3 (L:=[.func (.yield y) #[] #[]]) rfl (fun Q A=>go ?_);have c1:Q.cell? ⟨i,0,none⟩=some (.pointer (some ⟨b,o,none⟩)):=(b4.E A.E O).cell rfl;refine go ?_;refine AP (out:=[.pointer (some ⟨b,o,none⟩),.bool false]) rfl U (by rw[madePut];rfl) (fun N C=>?_);refine AY (fun w3 r=>?_);refine AU (v:=.slice (sm Q.heap.size) 1 1) rfl rfl rfl r.D O (fun a p=>go ?_);refine AY (fun w5 G=>go ?_);refine AU (v:=.func (.func 206) #[] #[pt N.heap.size,pt w.heap.size,pt a.heap.size]) rfl rfl rfl G.D O (fun l n=>go ?_);have z1:=A.size;have z2:=C.size;have z3:=r.size;have z4:=p.size;have z5:=G.size;have z6:=n.size;have b7:Ext N a:=r.E.E p.E O;have a2:Ext a l:=G.E.E n.E O;have a1:=b7.trans a2;have a0:=C.E.trans a1;have B:Ext w l:=A.E.trans a0;have t:Blk l w.heap.size 253 [.func (.yield y) #[] #[]]:=A.D.E a0 O;have d:Blk l Q.heap.size 255 [.pointer (some ⟨b,o,none⟩),.bool false]:=C.D.E a1 O;have z:Blk l N.heap.size 256 [.slice (sm Q.heap.size) 1 1]:=p.D.E a2 O;have j:Blk l a.heap.size 257 [.func (.func 206) #[] #[pt N.heap.size,pt w.heap.size,pt a.heap.size]]:=n.D;have x4:w.heap.size∉X:=e (Nat.le_refl _);have xp:Q.heap.size∉X:=e U;have x3:N.heap.size∉X:=e U;have x5:a.heap.size∉X:=e U;replace s:=s.ext B;replace P:=P.E B (fun _ _=>by simp);replace u:=H.ext u B;clear c1 A C r p G n
 refine Ar (α:=Nat) (fun k=>[(3,pt N.heap.size),(4,pt a.heap.size)]) (fun k W=>k<=1/\Keep X w W/\(k=1->q [] W)/\(k=0->q (Dp false f) W)/\GF W/\PF (fun b=>b∉X/\b<w.heap.size) W b o f/\Blk W N.heap.size 256 [.slice (sm Q.heap.size) k 1]/\
  Blk W Q.heap.size 255 [.pointer (some ⟨b,o,none⟩),.bool false]/\Blk W w.heap.size 253 [.func (.yield y) #[] #[]]/\Blk W a.heap.size 257 [.func (.func 206) #[] #[pt N.heap.size,pt w.heap.size,pt a.heap.size]]) (fun k=>k) 1 ag
  ⟨by omega,B.any,fun _=>u,fun h=>by omega,s,P,z,d,t,j⟩ ?_
 clear z d t j s P u;rintro k W fr⟨hk,kW,a9,a8,a7,b5,z,d,t,j⟩;refine go ?_;by_cases b6:k=0
 ·subst b6;refine go ?_;exact A1 rfl ⟨kW,.inl (a8 rfl)⟩
 obtain rfl:k=1:=by omega
 refine go ?_;refine A2 (cs:=[.pointer (some ⟨b,o,none⟩),.bool false]) rfl rfl EQ (AV rfl) (fun w7 E=>go ?_);have l3:=z.lt;have a4:=z.E E.E O;have z7:=E.size;refine go ?_;refine AU (v:=.slice (sm Q.heap.size) 0 1) rfl rfl rfl a4 O (fun m F=>go ?_);have S:=E.D.E F.E EP;have R:Keep [N.heap.size] W m:=(E.E.mono (fun _ h=>by cases h)).trans F.E (fun _ h _=>h);have b9:w.heap.size≠N.heap.size:=by omega
 have c0:a.heap.size≠N.heap.size:=by omega
 have a6:=d.E R EP;have I:=t.E R EP;have K:=j.E R EP;have T:=a7.E R (fun x V=>by simp at V;omega);have Z:=b5.E R (fun x V=>by have:=V.2;simp;omega);have b0:=H.E (a9 rfl) R (fun x V=>by simp at V;omega);have b8:Keep X w m:=kW.trans R (fun x V h=>by simp at V;omega);have e0:m.cell? ⟨W.heap.size,0+0,none⟩=some (.pointer (some ⟨b,o,none⟩)):=S.cell rfl;have e1:m.cell? ⟨W.heap.size,0+1,none⟩=some (.bool false):=S.cell rfl;refine go ?_;refine A9 (v1:=[]) (v2:=[pt N.heap.size,pt w.heap.size,pt a.heap.size]) (vs:=[.pointer (some ⟨b,o,none⟩),.bool false,iV 0]) rfl (visit_ok H N.heap.size w.heap.size a.heap.size x4 x5 (dpF f) m b o f false 0 [] (Nat.le_refl _) U Z T I K b0 O) rfl ?_;rintro _ w9⟨g,hr⟩;have a5:=F.D.E g x3;have a3:Keep X w w9:=b8.trans g (fun _ h _=>h);rcases hr with⟨rfl,b1⟩|⟨rfl,M,b2,b3,hD⟩
 ·refine go ?_;refine⟨0,⟨rfl,ag,⟨by omega,a3,fun h=>by omega,fun _=>by simpa using b1,T.E g H.glob,Z.E g (fun _ h=>h.1),a5,a6.E g xp,I.E g x4,K.E g x5⟩⟩,by omega⟩
 ·refine go ?_;exact fin_ret0 rfl ⟨a3,.inr ⟨M,b2,b3,by simpa using hD⟩⟩
theorem nodes_ok(w:World)(b o:Nat):Fn Zp 145 [.pointer (some ⟨b,o,none⟩)] w fun v w'=>v=.func (.func 205) #[] #[pt w.heap.size]/\New w w' 89 [.pointer (some ⟨b,o,none⟩)]:=by
 refine AN Tryz.func145 rfl Tryz.ntmps145 (go ?_);refine A3 (L:=[.pointer (some ⟨b,o,none⟩)]) rfl (fun Q A=>go ?_);exact AC rfl ⟨rfl,A⟩
theorem szL_appS:∀l m:LF,szL (l++m)=szL l+szL m
 | [],m=>by simp[szL]
 |f::l,m=>by simp only[List.cons_append,szL,szL_appS l m];omega
theorem szL_takeS{l:LF}{k:Nat}{x:Fml}(h:l[k]?=some x):szL (l.take (k+1))=szL (l.take k)+szF x:=by
 rw[List.take_add_one,h,Option.toList_some,szL_appS];simp[szL]
theorem szL_take_le(l:LF)(k:Nat):szL (l.take k)<=szL l:=by
 conv=>rhs;rw[<-List.take_append_drop k l,szL_appS]
 omega
theorem dpL_le_iff{n:Nat}:∀{l:LF},dpL l<=n↔∀a∈l,dpF a<=n
 | []=>by simp[dpL]
 |c::l=>by simp only[dpL,List.mem_cons,forall_eq_or_imp,<-dpL_le_iff (l:=l)];omega
abbrev fitsV(Q S:Nat):Value:=.func (.func 204) #[] #[pt Q,pt S]
theorem fits_ok(Q g:Nat)(B:g≠Q):∀(D:Nat)(w:World)(b o:Nat)(f:Fml)(S:Nat),D<=1000->S<=1000->PF (fun b=>b≠Q) w b o f->Blk w Q 3 [iV S]->Blk w g 252 [fitsV Q g]->
  Fn Zp 204 [.pointer (some ⟨b,o,none⟩),iV D,pt Q,pt g] w fun v w'=>Keep [Q] w w'/\((szF f<=S/\dpF f<=D/\v=.bool true/\Blk w' Q 3 [iV (S-szF f:Nat)])\/(¬(szF f<=S/\dpF f<=D)/\v=.bool false)):=by
 intro D
 induction D with
 |zero=>
  intro w b o f S i l P j z;refine AN Tryz.func204 rfl Tryz.ntmps204 (go ?_);refine AU (v:=iV ((S:Int)-1)) rfl rfl rfl j O (fun w1 u=>go ?_);replace j:=u.D;replace z:=z.E u.E (by simpa using B);replace P:=P.E u.E (fun b y=>by simpa using y);obtain⟨C,m,_,c,A⟩:=P.arg;refine Ac (rd 0 11 .done) Ap EO (fun N M H=>⟨Ext N,?_,?_⟩)
  ·exact FQ
  have r:∀V,Ext N V->V.cell? ⟨Q,0,none⟩=some (iV ((S:Int)-1)):=fun V e=>(Blk.E j (M.trans e) O).cell rfl;have s:∀V,Ext N V->V.cell? ⟨b,o+4,none⟩=some (.slice C f.args.length m):=fun V e=>(M.trans e).cell c O;((refine D_R rfl rfl (fun W d=>AH rfl (r W d) dz) ?_)<;>(refine D_R rfl rfl (fun W d=>AX rfl dz) ?_)<;>(refine D_R rfl rfl (fun W d=>AG rfl dz) ?_)<;>(refine D_R rfl rfl (fun W d=>AB rfl dz) ?_)<;>(refine D_R rfl rfl (fun W d=>AH rfl (s W d) dz) ?_)<;>(refine D_R rfl rfl (fun W d=>Bi rfl dz) ?_)<;>(refine D5 rfl rfl rfl rfl (fun T=>?_) (fun T=>?_)<;>try omega)<;>(refine D_R rfl rfl (fun W d=>AE rfl dz) ?_)<;>(first|refine At rfl rfl rfl rfl ?_|(refine D_R rfl rfl (fun W d=>AK rfl (AS rfl dz)) ?_))<;>(first|refine At rfl rfl rfl rfl ?_|(refine D5 rfl rfl rfl rfl (fun T=>?_) (fun T=>?_)<;>try omega))<;>(apply D_R rfl rfl;(intro W d;((first|refine Ae rfl ?_|refine Ad rfl ?_);refine AE rfl ?_);exact AA ⟨rfl,rfl,rfl⟩))<;>refine Bc ?_)
  all_goals
   refine go ?_;exact AC rfl ⟨(u.E.trans M.any (fun _ h _=>h)),.inr ⟨by rw[CX];omega,rfl⟩⟩
 |succ n ih=>
  intro w b o f S i l P j z;rw[BL,CX];refine AN Tryz.func204 rfl Tryz.ntmps204 (go ?_);refine AU (v:=iV ((S:Int)-1)) rfl rfl rfl j O (fun w1 u=>go ?_);replace j:=u.D;replace z:=z.E u.E (by simpa using B);replace P:=P.E u.E (fun b y=>by simpa using y);obtain⟨C,m,_,c,A⟩:=P.arg;have a6:=CE f.args;by_cases a5:(S:Int)-1<f.args.length
  ·refine Ac (rd 0 11 .done) Ap EO (fun N M H=>⟨Ext N,?_,?_⟩)
   ·exact FQ
   have r:∀V,Ext N V->V.cell? ⟨Q,0,none⟩=some (iV ((S:Int)-1)):=fun V e=>(Blk.E j (M.trans e) O).cell rfl;have s:∀V,Ext N V->V.cell? ⟨b,o+4,none⟩=some (.slice C f.args.length m):=fun V e=>(M.trans e).cell c O;((refine D_R rfl rfl (fun W d=>AH rfl (r W d) dz) ?_)<;>(refine D_R rfl rfl (fun W d=>AX rfl dz) ?_)<;>(refine D_R rfl rfl (fun W d=>AG rfl dz) ?_)<;>(refine D_R rfl rfl (fun W d=>AB rfl dz) ?_)<;>(refine D_R rfl rfl (fun W d=>AH rfl (s W d) dz) ?_)<;>(refine D_R rfl rfl (fun W d=>Bi rfl dz) ?_)<;>(refine D5 rfl rfl rfl rfl (fun T=>?_) (fun T=>?_)<;>try omega)<;>(refine D_R rfl rfl (fun W d=>AE rfl dz) ?_)<;>refine At rfl rfl rfl rfl (At rfl rfl rfl rfl ?_)<;>(refine D_R rfl rfl (fun W d=>Ae rfl (AE rfl dz)) ?_)<;>refine Bc ?_)
   all_goals
    refine go ?_;exact AC rfl ⟨(u.E.trans M.any (fun _ h _=>h)),.inr ⟨by omega,rfl⟩⟩
  by_cases a3:(n:Int)+1<1
  ·omega
  refine Ac (rd 0 11 .done) Ap EO (fun N M H=>⟨Ext N,?_,?_⟩)
  ·exact FQ
  have r:∀V,Ext N V->V.cell? ⟨Q,0,none⟩=some (iV ((S:Int)-1)):=fun V e=>(Blk.E j (M.trans e) O).cell rfl;have s:∀V,Ext N V->V.cell? ⟨b,o+4,none⟩=some (.slice C f.args.length m):=fun V e=>(M.trans e).cell c O;((refine D_R rfl rfl (fun W d=>AH rfl (r W d) dz) ?_)<;>(refine D_R rfl rfl (fun W d=>AX rfl dz) ?_)<;>(refine D_R rfl rfl (fun W d=>AG rfl dz) ?_)<;>(refine D_R rfl rfl (fun W d=>AB rfl dz) ?_)<;>(refine D_R rfl rfl (fun W d=>AH rfl (s W d) dz) ?_)<;>(refine D_R rfl rfl (fun W d=>Bi rfl dz) ?_)<;>(refine D5 rfl rfl rfl rfl (fun T=>?_) (fun T=>?_)<;>try omega)<;>(refine D_R rfl rfl (fun W d=>AE rfl dz) ?_)<;>(refine D_R rfl rfl (fun W d=>AK rfl (AS rfl dz)) ?_)<;>(refine D5 rfl rfl rfl rfl (fun T=>?_) (fun T=>?_)<;>try omega)<;>(refine D_R rfl rfl (fun W d=>Ad rfl (AE rfl dz)) ?_)<;>refine Bc ?_)
  refine go ?_;replace j:=j.E M O;replace z:=z.E M O;replace P:=P.E M (fun _ _=>by simp);have k1:Keep [Q] w N:=u.E.ext M;clear r s A;replace c:=M.cell c O;refine go ?_;refine Ar (α:=Nat) (fun k=>[(0,.pointer (some ⟨b,o,none⟩)),(1,iV ((n+1:Nat):Int)),(2,pt Q),(3,pt g),(25,iV (f.args.length:Int)),(26,iV (k:Int))]) (fun k W=>k<=f.args.length/\Keep [Q] w W/\szL (f.args.take k)+1<=S/\dpL (f.args.take k)<=n/\PF (fun b=>b≠Q) W b o f/\Blk W Q 3 [iV (S-1-szL (f.args.take k):Nat)]/\Blk W g 252 [fitsV Q g]) (fun k=>f.args.length-k) 0 ag ⟨by omega,k1,by simp[szL];omega,by simp[dpL],P,by rw[show((S-1-szL (f.args.take 0):Nat):Int)=(S:Int)-1 by simp[szL];omega];exact j,z⟩ ?_;rintro k W fr⟨hk,q,a2,L,I,Z,E⟩;refine go ?_;by_cases a1:k<f.args.length
  ·refine go ?_;obtain⟨x,p⟩:∃x,f.args[k]?=some x:=⟨_,List.getElem?_eq_getElem a1⟩;obtain⟨C,m,_,c,A⟩:=I.arg;obtain⟨G,K,rfl,a0⟩:=A k x p;have b0:=szL_takeS p;have a9:=szL_take_le f.args (k+1);have a4:=Ce (List.mem_of_getElem? p);refine Ac (rd 0 9 (.alt 9 (.read 10 .done) .stop)) Ap EO (fun N M H=>⟨Keep [Q] N,?_,?_⟩)
   ·exact Ff
   have r:∀V,Keep [Q] N V->V.cell? ⟨g,0,none⟩=some (fitsV Q g):=fun V e=>((E.E M O).E e (by simpa using B)).cell rfl;have s:∀V,Keep [Q] N V->V.cell? ⟨b,o+4,none⟩=some (.slice (some ⟨G,K,none⟩) f.args.length m):=fun V e=>e.cell (M.cell c O) (by simpa using I.1);((refine D_R rfl rfl (fun W d=>AH rfl (r W d) dz) ?_)<;>(refine D_R rfl rfl (fun W d=>AX rfl dz) ?_)<;>(refine D_R rfl rfl (fun W d=>AG rfl dz) ?_)<;>(refine D_R rfl rfl (fun W d=>AB rfl dz) ?_)<;>(refine D_R rfl rfl (fun W d=>AH rfl (s W d) dz) ?_)<;>(refine D_R rfl rfl (fun W d=>AS rfl dz) ?_)<;>(apply D_R rfl rfl;(intro W d;refine CG rfl rfl rfl U ?_;exact AA ⟨rfl,rfl,rfl⟩))<;>(refine D_R rfl rfl (fun W d=>AS rfl dz) ?_)<;>(apply D_R rfl rfl;(intro W d;refine W_sub rfl rfl Ea ?_;exact AA ⟨rfl,rfl,rfl⟩)))
   refine D_E rfl ?_;refine A9 (v1:=[]) (v2:=[pt Q,pt g]) (vs:=[.pointer (some ⟨G,K+k*5,none⟩),iV (((n+1:Nat):Int)-1)]) rfl (by rw[show((n+1:Nat):Int)-1=(n:Int) by omega];exact ih N G (K+k*5) x (S-1-szL (f.args.take k)) U U (a0.E M (fun _ _=>by simp)) (Z.E M O) (E.E M O)) rfl ?_;rintro _ w4⟨F,hr⟩;refine AA ⟨Keep [Q] N,fun _ e=>e,F,?_⟩;have R:Keep [Q] w w4:=(q.ext M).trans F (fun _ p _=>p);rcases hr with⟨a8,hd4,rfl,X⟩|⟨a7,rfl⟩
   ·refine go ?_;refine⟨k+1,⟨rfl,⟨rfl,rfl,rfl,rfl,rfl,?_,trivial⟩,⟨by omega,R,by omega,?_,(I.E M (fun _ _=>by simp)).E F (fun b y=>by simpa using y),?_,(E.E M O).E F (by simpa using B)⟩⟩,by omega⟩
    ·show iV ((k:Int)+1)=_;rw[Int.natCast_add];rfl
    ·rw[List.take_add_one,p];refine dpL_le_iff.2 fun a t=>?_;rcases List.mem_append.1 t with t|t
     ·exact dpL_le_iff.1 L a t
     ·obtain rfl:a=x:=by simpa using t
      exact hd4
    ·rw[show S-1-szL (f.args.take (k+1))=S-1-szL (f.args.take k)-szF x by omega];exact X
   ·refine go ?_;exact AC rfl ⟨R,.inr ⟨by omega,rfl⟩⟩
  ·refine go ?_;rw[List.take_of_length_le U]at a2 L Z;refine AC rfl ⟨q,.inl ⟨by omega,by omega,rfl,?_⟩⟩;rw[show S-(szL f.args+1)=S-1-szL f.args by omega];exact Z
theorem within_ok(w:World)(b o:Nat)(f:Fml)(S D:Nat)(l:S<=1000)(j:D<=1000)(P:PF (fun b=>b<w.heap.size) w b o f):
  Fn Zp 144 [.pointer (some ⟨b,o,none⟩),iV S,iV D] w fun v w'=>v=.bool (decide (szF f<=S)&&decide (dpF f<=D))/\Ext w w':=by
 refine AN Tryz.func144 rfl Tryz.ntmps144 (go ?_);refine A3 (L:=[iV S]) rfl (fun Q A=>go ?_);refine AY (fun N W=>go ?_);refine AU (v:=fitsV w.heap.size Q.heap.size) rfl rfl rfl W.D O (fun z d=>go ?_);have m:=A.size;have R:=W.size;have e:=d.D;have a:=W.E.E d.E O;have i:Ext w z:=A.E.trans a;have n:=A.D.E a O;refine go ?_;refine A9 (v1:=[]) (v2:=[pt w.heap.size,pt Q.heap.size]) (vs:=[.pointer (some ⟨b,o,none⟩),iV D]) rfl (fits_ok w.heap.size Q.heap.size U D z b o f S j l ((P.E i (fun _ _=>by simp)).mono fun x V=>by omega) n e) rfl ?_;rintro v k⟨c,G⟩
 obtain rfl:v=.bool (decide (szF f<=S)&&decide (dpF f<=D)):=by
  rcases G with⟨Z,g,rfl,_⟩|⟨h,rfl⟩
  ·simp[Z,g]
  ·simp;exact fun Z=>by omega
 refine go ?_;exact AC rfl ⟨rfl,i.E c O⟩
theorem PF.all{ok:Nat->Prop}{w:World}{b o:Nat}{f:Fml}(h:PF ok w b o f):∃a c,f.args.length<=9223372036854775807/\w.cell? ⟨b,o+0,none⟩=some (iV f.op)/\w.cell? ⟨b,o+1,none⟩=some (AL f.name)/\w.cell? ⟨b,o+2,none⟩=some (iV f.val)/\
  w.cell? ⟨b,o+3,none⟩=some (iV f.bound)/\w.cell? ⟨b,o+4,none⟩=some (.slice a f.args.length c)/\∀(k:Nat)(x:Fml),f.args[k]?=some x->∃v d,a=some ⟨v,d,none⟩/\PF ok w v (d+k*5) x:=by
 obtain⟨a,c,Z,W,R⟩:=h.arg;obtain⟨_,e,I,L,T,_⟩:=h.form;exact⟨a,c,Z,T 0 _ rfl,T 1 _ rfl,T 2 _ rfl,T 3 _ rfl,W,R⟩
def shapeX(x:Form)(k:LU)(v b n:Int):Bool:=decide (x.least<=n)&&decide (n<=x.most)&&decide (0<=v)&&decide (v<=x.val)&&decide (0<=b)&&decide (b<=x.bound)&&if x.named then BH k else decide (k=[])
def Dn(f:Fml):Bool:=isOpB f.op&&shapeX (Bd f.op) f.name f.val f.bound f.args.length
theorem shapeF_eq(f:Fml)(h:f.args.length<=1000000):Dn f=Bs f.op f.name f.val f.bound f.args.length:=by
 unfold Dn;cases hb:isOpB f.op with
 |false=>
  unfold Bs;simp only[isOpB,Bool.and_eq_false_iff,decide_eq_false_iff_not]at hb;cases hs:(decide (1<=f.op)&&decide (f.op<=19))
  ·simp
  ·simp at hs;omega
 |true=>
  have Z:1<=f.op/\f.op<20:=by simpa[isOpB]using hb
  have s:Bd f.op=formsL.getD f.op.toNat zeroForm:=by unfold Bd;rw[if_pos hb]
  rw[s];obtain⟨op,k,v,b,args⟩:=f;simp only[Fml.op,Fml.name,Fml.val,Fml.bound,Fml.args]at*
  have P:k.isEmpty=decide (k=[]):=by cases k<;>simp
  have:op=1\/op=2\/op=3\/op=4\/op=5\/op=6\/op=7\/op=8\/op=9\/op=10\/op=11\/op=12\/op=13\/op=14\/op=15\/op=16\/op=17\/op=18\/op=19:=by omega
  rcases this with rfl|rfl|rfl|rfl|rfl|rfl|rfl|rfl|rfl|rfl|rfl|rfl|rfl|rfl|rfl|rfl|rfl|rfl|rfl
  all_goals
   simp[formsL,shapeX,Bs,BX,P];try (congr 1;congr 1;congr 1;congr 1;rw[Bool.eq_iff_iff];simp;omega)
theorem shaped_ok(w:World)(b o:Nat)(f:Fml)(P:PF Af w b o f)(X:GF w)(s:KY w)(K:f.args.length<=1000000):Fn Zp 146 [.pointer (some ⟨b,o,none⟩)] w fun v w'=>v=.bool (Dn f)/\Ext w w':=by
 refine AN Tryz.func146 rfl Tryz.ntmps146 (go ?_);have n:=P.opc;refine go ?_;refine AF (formOf_ok w f.op X) rfl ?_;rintro _ Q⟨rfl,y⟩;refine go ?_;refine A2 (cs:=CJ (Bd f.op)) rfl rfl EQ (formC_one _) (fun A m=>go ?_);have c:=y.trans m.E;have j:=m.D;have u:=P.E c (fun _ _=>by simp);obtain⟨C,h,_,p,l,r,I,g,_⟩:=u.all;clear n m P;unfold Dn;generalize Bd f.op=x at j⊢;cases hb:isOpB f.op with
 |false=>
  refine Ac (rd 0 22 .done) Ap EO (fun N M H=>⟨Ext N,?_,?_⟩)
  ·exact FQ
  have i:∀V,Ext N V->V.cell? ⟨Q.heap.size,0+0,none⟩=some (iV x.least):=fun V e=>(Blk.E j (M.trans e) O).cell rfl;have L:∀V,Ext N V->V.cell? ⟨Q.heap.size,0+1,none⟩=some (iV x.most):=fun V e=>(Blk.E j (M.trans e) O).cell rfl;have k:∀V,Ext N V->V.cell? ⟨Q.heap.size,0+2,none⟩=some (iV x.val):=fun V e=>(Blk.E j (M.trans e) O).cell rfl;have G:∀V,Ext N V->V.cell? ⟨Q.heap.size,0+3,none⟩=some (iV x.bound):=fun V e=>(Blk.E j (M.trans e) O).cell rfl;have d:∀V,Ext N V->V.cell? ⟨b,o+2,none⟩=some (iV f.val):=fun V e=>(M.trans e).cell r O;have t:∀V,Ext N V->V.cell? ⟨b,o+3,none⟩=some (iV f.bound):=fun V e=>(M.trans e).cell I O;have D:∀V,Ext N V->V.cell? ⟨b,o+4,none⟩=some (.slice C f.args.length h):=fun V e=>(M.trans e).cell g O;refine go ?_;exact AC rfl ⟨rfl,c.trans M⟩
 |true=>
 by_cases Z:x.least<=f.args.length/\(f.args.length:Int)<=x.most;rotate_left
 ·have F:shapeX x f.name f.val f.bound f.args.length=false:=by
   cases F:shapeX x f.name f.val f.bound f.args.length with
   |false=>rfl
   |true=>exact absurd ⟨by simp[shapeX]at F;omega,by simp[shapeX]at F;omega⟩ Z
  rw[F];refine Ac (rd 0 22 .done) Ap EO (fun N M H=>⟨Ext N,?_,?_⟩)
  ·exact FQ
  have i:∀V,Ext N V->V.cell? ⟨Q.heap.size,0+0,none⟩=some (iV x.least):=fun V e=>(Blk.E j (M.trans e) O).cell rfl;have L:∀V,Ext N V->V.cell? ⟨Q.heap.size,0+1,none⟩=some (iV x.most):=fun V e=>(Blk.E j (M.trans e) O).cell rfl;have k:∀V,Ext N V->V.cell? ⟨Q.heap.size,0+2,none⟩=some (iV x.val):=fun V e=>(Blk.E j (M.trans e) O).cell rfl;have G:∀V,Ext N V->V.cell? ⟨Q.heap.size,0+3,none⟩=some (iV x.bound):=fun V e=>(Blk.E j (M.trans e) O).cell rfl;have d:∀V,Ext N V->V.cell? ⟨b,o+2,none⟩=some (iV f.val):=fun V e=>(M.trans e).cell r O;have t:∀V,Ext N V->V.cell? ⟨b,o+3,none⟩=some (iV f.bound):=fun V e=>(M.trans e).cell I O;have D:∀V,Ext N V->V.cell? ⟨b,o+4,none⟩=some (.slice C f.args.length h):=fun V e=>(M.trans e).cell g O;((refine D_R rfl rfl (fun W a=>AE rfl dz) ?_)<;>(refine D_R rfl rfl (fun W a=>W_not rfl dz) ?_)<;>(refine D_R rfl rfl (fun W a=>AE rfl dz) ?_)<;>(refine D_R rfl rfl (fun W a=>AK rfl (AX rfl dz)) ?_)<;>(refine D_R rfl rfl (fun W a=>AK rfl (AG rfl dz)) ?_)<;>(refine D_R rfl rfl (fun W a=>AK rfl (AB rfl dz)) ?_)<;>(refine D_R rfl rfl (fun W a=>AK rfl (AH rfl (D W a) dz)) ?_)<;>(refine D_R rfl rfl (fun W a=>AK rfl (Bi rfl dz)) ?_)<;>(refine D_R rfl rfl (fun W a=>AK rfl (AB rfl dz)) ?_)<;>(refine D_R rfl rfl (fun W a=>AK rfl (AH rfl (i W a) dz)) ?_)<;>(refine D5 rfl rfl rfl rfl (fun T=>?_) (fun T=>?_)<;>try omega)<;>(refine D_R rfl rfl (fun W a=>Ad rfl (AE rfl dz)) ?_)<;>(refine D_R rfl rfl (fun W a=>AE rfl dz) ?_)<;>(first|refine At rfl rfl rfl rfl ?_|(refine D_R rfl rfl (fun W a=>AK rfl (AX rfl dz)) ?_))<;>(first|refine At rfl rfl rfl rfl ?_|(refine D_R rfl rfl (fun W a=>AK rfl (AG rfl dz)) ?_))<;>(first|refine At rfl rfl rfl rfl ?_|(refine D_R rfl rfl (fun W a=>AK rfl (AB rfl dz)) ?_))<;>(first|refine At rfl rfl rfl rfl ?_|(refine D_R rfl rfl (fun W a=>AK rfl (AH rfl (D W a) dz)) ?_))<;>(first|refine At rfl rfl rfl rfl ?_|(refine D_R rfl rfl (fun W a=>AK rfl (Bi rfl dz)) ?_))<;>(first|refine At rfl rfl rfl rfl ?_|(refine D_R rfl rfl (fun W a=>AK rfl (AB rfl dz)) ?_))<;>(first|refine At rfl rfl rfl rfl ?_|(refine D_R rfl rfl (fun W a=>AK rfl (AH rfl (L W a) dz)) ?_))<;>(first|refine At rfl rfl rfl rfl ?_|(refine D_gtr rfl rfl rfl rfl (fun T=>?_) (fun T=>?_)<;>try omega))<;>(apply D_R rfl rfl;(intro W a;((first|refine Ae rfl ?_|refine Ad rfl ?_);refine AE rfl ?_);exact AA ⟨rfl,rfl,rfl⟩))<;>refine Bc ?_)
  all_goals
   refine go ?_;exact AC rfl ⟨rfl,c.trans M⟩
 refine Ac (rd 0 22 .done) Ap EO (fun N M H=>⟨Ext N,?_,?_⟩)
 ·exact FQ
 have i:∀V,Ext N V->V.cell? ⟨Q.heap.size,0+0,none⟩=some (iV x.least):=fun V e=>(Blk.E j (M.trans e) O).cell rfl;have L:∀V,Ext N V->V.cell? ⟨Q.heap.size,0+1,none⟩=some (iV x.most):=fun V e=>(Blk.E j (M.trans e) O).cell rfl;have k:∀V,Ext N V->V.cell? ⟨Q.heap.size,0+2,none⟩=some (iV x.val):=fun V e=>(Blk.E j (M.trans e) O).cell rfl;have G:∀V,Ext N V->V.cell? ⟨Q.heap.size,0+3,none⟩=some (iV x.bound):=fun V e=>(Blk.E j (M.trans e) O).cell rfl;have d:∀V,Ext N V->V.cell? ⟨b,o+2,none⟩=some (iV f.val):=fun V e=>(M.trans e).cell r O;have t:∀V,Ext N V->V.cell? ⟨b,o+3,none⟩=some (iV f.bound):=fun V e=>(M.trans e).cell I O;have D:∀V,Ext N V->V.cell? ⟨b,o+4,none⟩=some (.slice C f.args.length h):=fun V e=>(M.trans e).cell g O;((refine D_R rfl rfl (fun W a=>AE rfl dz) ?_)<;>(refine D_R rfl rfl (fun W a=>W_not rfl dz) ?_)<;>(refine D_R rfl rfl (fun W a=>AE rfl dz) ?_)<;>(refine D_R rfl rfl (fun W a=>AK rfl (AX rfl dz)) ?_)<;>(refine D_R rfl rfl (fun W a=>AK rfl (AG rfl dz)) ?_)<;>(refine D_R rfl rfl (fun W a=>AK rfl (AB rfl dz)) ?_)<;>(refine D_R rfl rfl (fun W a=>AK rfl (AH rfl (D W a) dz)) ?_)<;>(refine D_R rfl rfl (fun W a=>AK rfl (Bi rfl dz)) ?_)<;>(refine D_R rfl rfl (fun W a=>AK rfl (AB rfl dz)) ?_)<;>(refine D_R rfl rfl (fun W a=>AK rfl (AH rfl (i W a) dz)) ?_)<;>(refine D5 rfl rfl rfl rfl (fun T=>?_) (fun T=>?_)<;>try omega)<;>(refine D_R rfl rfl (fun W a=>Ad rfl (AE rfl dz)) ?_)<;>(refine D_R rfl rfl (fun W a=>AE rfl dz) ?_)<;>(refine D_R rfl rfl (fun W a=>AK rfl (AX rfl dz)) ?_)<;>(refine D_R rfl rfl (fun W a=>AK rfl (AG rfl dz)) ?_)<;>(refine D_R rfl rfl (fun W a=>AK rfl (AB rfl dz)) ?_)<;>(refine D_R rfl rfl (fun W a=>AK rfl (AH rfl (D W a) dz)) ?_)<;>(refine D_R rfl rfl (fun W a=>AK rfl (Bi rfl dz)) ?_)<;>(refine D_R rfl rfl (fun W a=>AK rfl (AB rfl dz)) ?_)<;>(refine D_R rfl rfl (fun W a=>AK rfl (AH rfl (L W a) dz)) ?_)<;>(refine D_gtr rfl rfl rfl rfl (fun T=>?_) (fun T=>?_)<;>try omega)<;>(refine D_R rfl rfl (fun W a=>Ad rfl (AE rfl dz)) ?_)<;>refine Bc ?_)
 clear i L k G d t D;refine go ?_;replace p:=M.cell p O;replace l:=M.cell l O;replace r:=M.cell r O;replace I:=M.cell I O;replace g:=M.cell g O;replace j:=Blk.E j M O;replace c:=c.trans M;clear M H
 rename World=>w3
 by_cases q:0<=f.val/\f.val<=x.val/\0<=f.bound/\f.bound<=x.bound;rotate_left
 ·have F:shapeX x f.name f.val f.bound f.args.length=false:=by
   cases F:shapeX x f.name f.val f.bound f.args.length with
   |false=>rfl
   |true=>exact absurd (by simp[shapeX]at F;omega) q
  rw[F];refine Ac (rd 0 30 .done) Ap EO (fun N M H=>⟨Ext N,?_,?_⟩)
  ·exact FQ
  have i:∀V,Ext N V->V.cell? ⟨Q.heap.size,0+0,none⟩=some (iV x.least):=fun V e=>(Blk.E j (M.trans e) O).cell rfl;have L:∀V,Ext N V->V.cell? ⟨Q.heap.size,0+1,none⟩=some (iV x.most):=fun V e=>(Blk.E j (M.trans e) O).cell rfl;have k:∀V,Ext N V->V.cell? ⟨Q.heap.size,0+2,none⟩=some (iV x.val):=fun V e=>(Blk.E j (M.trans e) O).cell rfl;have G:∀V,Ext N V->V.cell? ⟨Q.heap.size,0+3,none⟩=some (iV x.bound):=fun V e=>(Blk.E j (M.trans e) O).cell rfl;have d:∀V,Ext N V->V.cell? ⟨b,o+2,none⟩=some (iV f.val):=fun V e=>(M.trans e).cell r O;have t:∀V,Ext N V->V.cell? ⟨b,o+3,none⟩=some (iV f.bound):=fun V e=>(M.trans e).cell I O;have D:∀V,Ext N V->V.cell? ⟨b,o+4,none⟩=some (.slice C f.args.length h):=fun V e=>(M.trans e).cell g O;((refine D_R rfl rfl (fun W a=>AX rfl dz) ?_)<;>(refine D_R rfl rfl (fun W a=>AG rfl dz) ?_)<;>(refine D_R rfl rfl (fun W a=>AB rfl dz) ?_)<;>(refine D_R rfl rfl (fun W a=>AH rfl (d W a) dz) ?_)<;>(refine D5 rfl rfl rfl rfl (fun T=>?_) (fun T=>?_)<;>try omega)<;>(refine D_R rfl rfl (fun W a=>AE rfl dz) ?_)<;>(first|refine At rfl rfl rfl rfl ?_|(refine D_R rfl rfl (fun W a=>AK rfl (AX rfl dz)) ?_))<;>(first|refine At rfl rfl rfl rfl ?_|(refine D_R rfl rfl (fun W a=>AK rfl (AG rfl dz)) ?_))<;>(first|refine At rfl rfl rfl rfl ?_|(refine D_R rfl rfl (fun W a=>AK rfl (AB rfl dz)) ?_))<;>(first|refine At rfl rfl rfl rfl ?_|(refine D_R rfl rfl (fun W a=>AK rfl (AH rfl (d W a) dz)) ?_))<;>(first|refine At rfl rfl rfl rfl ?_|(refine D_R rfl rfl (fun W a=>AK rfl (AB rfl dz)) ?_))<;>(first|refine At rfl rfl rfl rfl ?_|(refine D_R rfl rfl (fun W a=>AK rfl (AH rfl (k W a) dz)) ?_))<;>(first|refine At rfl rfl rfl rfl ?_|(refine D_gtr rfl rfl rfl rfl (fun T=>?_) (fun T=>?_)<;>try omega))<;>(apply D_R rfl rfl;(intro W a;((first|refine Ae rfl ?_|refine Ad rfl ?_);refine AE rfl ?_);exact AA ⟨rfl,rfl,rfl⟩))<;>(refine D_R rfl rfl (fun W a=>AE rfl dz) ?_)<;>(first|refine At rfl rfl rfl rfl ?_|(refine D_R rfl rfl (fun W a=>AK rfl (AX rfl dz)) ?_))<;>(first|refine At rfl rfl rfl rfl ?_|(refine D_R rfl rfl (fun W a=>AK rfl (AG rfl dz)) ?_))<;>(first|refine At rfl rfl rfl rfl ?_|(refine D_R rfl rfl (fun W a=>AK rfl (AB rfl dz)) ?_))<;>(first|refine At rfl rfl rfl rfl ?_|(refine D_R rfl rfl (fun W a=>AK rfl (AH rfl (t W a) dz)) ?_))<;>(first|refine At rfl rfl rfl rfl ?_|(refine D5 rfl rfl rfl rfl (fun T=>?_) (fun T=>?_)<;>try omega))<;>(apply D_R rfl rfl;(intro W a;((first|refine Ae rfl ?_|refine Ad rfl ?_);refine AE rfl ?_);exact AA ⟨rfl,rfl,rfl⟩))<;>(refine D_R rfl rfl (fun W a=>AE rfl dz) ?_)<;>(first|refine At rfl rfl rfl rfl ?_|(refine D_R rfl rfl (fun W a=>AK rfl (AX rfl dz)) ?_))<;>(first|refine At rfl rfl rfl rfl ?_|(refine D_R rfl rfl (fun W a=>AK rfl (AG rfl dz)) ?_))<;>(first|refine At rfl rfl rfl rfl ?_|(refine D_R rfl rfl (fun W a=>AK rfl (AB rfl dz)) ?_))<;>(first|refine At rfl rfl rfl rfl ?_|(refine D_R rfl rfl (fun W a=>AK rfl (AH rfl (t W a) dz)) ?_))<;>(first|refine At rfl rfl rfl rfl ?_|(refine D_R rfl rfl (fun W a=>AK rfl (AB rfl dz)) ?_))<;>(first|refine At rfl rfl rfl rfl ?_|(refine D_R rfl rfl (fun W a=>AK rfl (AH rfl (G W a) dz)) ?_))<;>(first|refine At rfl rfl rfl rfl ?_|(refine D_gtr rfl rfl rfl rfl (fun T=>?_) (fun T=>?_)<;>try omega))<;>(apply D_R rfl rfl;(intro W a;((first|refine Ae rfl ?_|refine Ad rfl ?_);refine AE rfl ?_);exact AA ⟨rfl,rfl,rfl⟩))<;>refine Bc ?_)
  all_goals
   refine go ?_;exact AC rfl ⟨rfl,c.trans M⟩
 have F:shapeX x f.name f.val f.bound f.args.length=if x.named then BH f.name else decide (f.name=[]):=by simp[shapeX,Z,q]
 rw[F];refine Ac (rd 0 30 .done) Ap EO (fun N M H=>⟨Ext N,?_,?_⟩)
 ·exact FQ
 have i:∀V,Ext N V->V.cell? ⟨Q.heap.size,0+0,none⟩=some (iV x.least):=fun V e=>(Blk.E j (M.trans e) O).cell rfl;have L:∀V,Ext N V->V.cell? ⟨Q.heap.size,0+1,none⟩=some (iV x.most):=fun V e=>(Blk.E j (M.trans e) O).cell rfl;have k:∀V,Ext N V->V.cell? ⟨Q.heap.size,0+2,none⟩=some (iV x.val):=fun V e=>(Blk.E j (M.trans e) O).cell rfl;have G:∀V,Ext N V->V.cell? ⟨Q.heap.size,0+3,none⟩=some (iV x.bound):=fun V e=>(Blk.E j (M.trans e) O).cell rfl;have d:∀V,Ext N V->V.cell? ⟨b,o+2,none⟩=some (iV f.val):=fun V e=>(M.trans e).cell r O;have t:∀V,Ext N V->V.cell? ⟨b,o+3,none⟩=some (iV f.bound):=fun V e=>(M.trans e).cell I O;have D:∀V,Ext N V->V.cell? ⟨b,o+4,none⟩=some (.slice C f.args.length h):=fun V e=>(M.trans e).cell g O;((refine D_R rfl rfl (fun W a=>AX rfl dz) ?_)<;>(refine D_R rfl rfl (fun W a=>AG rfl dz) ?_)<;>(refine D_R rfl rfl (fun W a=>AB rfl dz) ?_)<;>(refine D_R rfl rfl (fun W a=>AH rfl (d W a) dz) ?_)<;>(refine D5 rfl rfl rfl rfl (fun T=>?_) (fun T=>?_)<;>try omega)<;>(refine D_R rfl rfl (fun W a=>AE rfl dz) ?_)<;>(refine D_R rfl rfl (fun W a=>AK rfl (AX rfl dz)) ?_)<;>(refine D_R rfl rfl (fun W a=>AK rfl (AG rfl dz)) ?_)<;>(refine D_R rfl rfl (fun W a=>AK rfl (AB rfl dz)) ?_)<;>(refine D_R rfl rfl (fun W a=>AK rfl (AH rfl (d W a) dz)) ?_)<;>(refine D_R rfl rfl (fun W a=>AK rfl (AB rfl dz)) ?_)<;>(refine D_R rfl rfl (fun W a=>AK rfl (AH rfl (k W a) dz)) ?_)<;>(refine D_gtr rfl rfl rfl rfl (fun T=>?_) (fun T=>?_)<;>try omega)<;>(refine D_R rfl rfl (fun W a=>Ad rfl (AE rfl dz)) ?_)<;>(refine D_R rfl rfl (fun W a=>AE rfl dz) ?_)<;>(refine D_R rfl rfl (fun W a=>AK rfl (AX rfl dz)) ?_)<;>(refine D_R rfl rfl (fun W a=>AK rfl (AG rfl dz)) ?_)<;>(refine D_R rfl rfl (fun W a=>AK rfl (AB rfl dz)) ?_)<;>(refine D_R rfl rfl (fun W a=>AK rfl (AH rfl (t W a) dz)) ?_)<;>(refine D5 rfl rfl rfl rfl (fun T=>?_) (fun T=>?_)<;>try omega)<;>(refine D_R rfl rfl (fun W a=>Ad rfl (AE rfl dz)) ?_)<;>(refine D_R rfl rfl (fun W a=>AE rfl dz) ?_)<;>(refine D_R rfl rfl (fun W a=>AK rfl (AX rfl dz)) ?_)<;>(refine D_R rfl rfl (fun W a=>AK rfl (AG rfl dz)) ?_)<;>(refine D_R rfl rfl (fun W a=>AK rfl (AB rfl dz)) ?_)<;>(refine D_R rfl rfl (fun W a=>AK rfl (AH rfl (t W a) dz)) ?_)<;>(refine D_R rfl rfl (fun W a=>AK rfl (AB rfl dz)) ?_)<;>(refine D_R rfl rfl (fun W a=>AK rfl (AH rfl (G W a) dz)) ?_)<;>(refine D_gtr rfl rfl rfl rfl (fun T=>?_) (fun T=>?_)<;>try omega)<;>(refine D_R rfl rfl (fun W a=>Ad rfl (AE rfl dz)) ?_)<;>refine Bc ?_)
 clear i L k G d t D;replace l:=M.cell l O;replace j:=Blk.E j M O;replace c:=c.trans M;obtain⟨E,R,xv,B,z,xp,S,xo⟩:=x;cases z with
 |true=>
  refine go ?_;refine AF (Do f.name N (s.E c O)) rfl ?_;rintro _ _⟨rfl,rfl⟩;refine go ?_;exact AC rfl ⟨rfl,c⟩
 |false=>
  repeat first|refine nx rfl ?_|refine nf rfl ?_
  (refine AJ (AB rfl ?_)<;>refine AH rfl (Blk.cell ER EQ) ?_)
  repeat first|refine nx rfl ?_|refine nf rfl ?_
  (refine AJ (AX rfl (AG rfl (AB rfl ?_)))<;>refine AH rfl ER ?_<;>refine Bg rfl rfl (fun T=>?_) (fun T=>?_)<;>refine AO (AE rfl ?_))
  ·refine go ?_;exact AC rfl ⟨show Value.bool true=_ by simp[T],c⟩
  ·refine go ?_;exact AC rfl ⟨show Value.bool false=_ by simp[T],c⟩
theorem preF_sz:∀(f:Fml)(j:Bool)(x:Nd),x∈Dp j f->szF x.1<=szF f
 | .mk op nm v b args,j,x,h=>by
  simp only[Dp,List.mem_cons]at h;rcases h with rfl|h
  ·exact Nat.le_refl _
  ·have:=preL_sz args _ x h;simp only[szF];omega
where preL_sz:∀(l:LF)(j:Bool)(x:Nd),x∈DE j l->szF x.1<=szL l
 | [],_,_,h=>by cases h
 |f::l,j,x,h=>by
  simp only[DE,List.mem_append]at h;simp only[szL];rcases h with h|h
  ·have:=preF_sz f j x h;omega
  ·have:=preL_sz l j x h;omega
theorem asnQ_mono{k E:Fr->DS->World->Prop}(h:∀f ds w,k f ds w->E f ds w)(e:Exit)(f:Fr)(ds:DS)(w:World)(L:asnQ k e f ds w):asnQ E e f ds w:=by
 cases e<;>delta asnQ at L⊢
 ·exact h _ _ _ L
 all_goals exact L
def goodQ(Q:Nat)(W:World):Bool->DD
 |true=>fun e _ _ Z=>e=.normal/\Ext W Z
 |false=>fun e _ _ Z=>e=.ret/\Keep [Q] W Z/\Blk Z Q 4 [.bool false]
theorem C_allNodes{n:Nat}{Q:DD}{g:Operand}{ps:List Nat}{a0 body:Code}{f:Fr}{ds:DS}{w:World}(s:Nd->Bool){c N b o:Nat}{F:Fml}
  (hv:ev f g=.func (.func 205) #[] #[pt N])(b1:(ps.all (fun t=>Nat.blt t n)&&(Co n true a0&&Co n true body))=true)(b0:ps.length=2)
  (p:Blk w c 4 [.bool false])(a1:Blk w N 89 [.pointer (some ⟨b,o,none⟩)])(hF:PF (fun b=>b≠c) w b o F)(hG:GF w)(hN:10<=c)(hd:dpF F<=5000)
  (a9:∀(l I o':Nat)(x:Fml)(i:Bool)(W:World),szF x<=szF F->WC Zp ⟨n,some l⟩ a0 (asnQ fun f' a2 w'=>w'=W/\∀j,Ext w j->PF (fun b=>b≠c) j I o' x->Blk j c 4 [.bool false]->WC Zp ⟨n,some l⟩ body (goodQ c j (s (x,i))) f' a2 j) (ovz (ps.zip [.pointer (some ⟨I,o',none⟩),.bool i]) f) [] W)
  (a3:∀W,Keep [c] w W->Blk W c 4 [.bool false]->W.heap[w.heap.size]?=some (.deferred (some []))->Q (if(Dp false F).all s then .normal else .ret) f ({target:=.collected w.heap.size,args:=#[]}::ds) W):
  WC Zp ⟨n,none⟩ (.rangeFunc g ps.toArray a0 body) Q f ds w:=by
 have b6:=p.lt;refine C_range [] [pt N] hv b1 fun a7 Bsy a6 B P A s1 m1 r1=>?_;replace p:=p.E A O;replace a1:=a1.E A O;have a8:=(hF.lt.E A (fun _ _=>by simp)).mono (ok':=fun b=>b∉[c,w.heap.size+1]/\b<B.heap.size) (fun x V=>by have:=V.2;simp;omega);obtain⟨C,y⟩:∃C:List Nd->World->Prop,∀L W,C L W↔(L.all s=true/\Ext w W/\Blk W c 4 [.bool false]/\a7 W/\W.heap[w.heap.size]?=some (.deferred (some []))/\B.heap.size<=W.heap.size):=⟨_,fun _ _=>Iff.rfl⟩;obtain⟨D,hD⟩:∃D:List Nd->World->Prop,∀L W,D L W↔(L.all s=false/\Keep [c] w W/\Blk W c 4 [.bool false]/\a6 .ret W/\W.heap[w.heap.size]?=some (.deferred (some []))/\B.heap.size<=W.heap.size):=⟨_,fun _ _=>Iff.rfl⟩
 have H:NodesR (.func (.yield (w.heap.size+1)) #[] #[]) [c,w.heap.size+1] B.heap.size (Dp false F) C D:=by
  refine⟨⟨_,rfl⟩,fun x V=>by simp at V;omega,fun T k S=>?_,fun{L W I o' x i}T hp hP=>?_⟩
  ·obtain⟨m,a,Z,X,q,j5⟩:=(y _ _).1 T;exact(y _ _).2 ⟨m,a.E k (fun x V=>by have:=S x V;omega),Z.E k (fun h=>by have:=S _ h;omega),P.rdy X k (fun h=>by have:=S _ h;omega),(k.block _ U (fun h=>by have:=S _ h;omega)).trans q,Nat.le_trans j5 k.size⟩
  ·obtain⟨m,a,Z,X,q,j5⟩:=(y _ _).1 T;have b2:=preF_sz F false (x,i) (hP.subset O);refine YldP.mono (R:=fun v E=>Keep [c,w.heap.size+1] W E/\((v=.bool true/\C (L++[(x,i)]) E)\/(v=.bool false/\D (L++[(x,i)]) E))) (Y:=fun _ _=>False) (P.round X b0.symm ?_) (fun v E h=>h) (fun _ _ h=>h);refine WC_mono _ (asnQ_mono fun f' a2 w' hh=>?_) _ _ _ (a9 (w.heap.size+1) I o' x i W b2);obtain⟨rfl,hh⟩:=hh;refine⟨X,fun j z s2 y2=>?_⟩;have e2:=a.E z O;have p:=Z.E z EP;refine WC_mono _ (fun e b5 b4 W3 K=>?_) _ _ _ (hh j e2 ((hp.E z (fun b hb=>by have:=hb.1;simp at this⊢;omega)).mono fun b hb=>by have:=hb.1;simp at this;omega) p);have a5:Keep [c,w.heap.size+1] w' j:=z.mono (fun x V=>by simp at V;simp[V]);have a4:=(z.block _ U O).trans q;have z2:=z.size;cases hg:s (x,i)with
   |true=>
    rw[hg]at K;obtain⟨rfl,d⟩:=K;have z3:=d.size;have y3:=P.bsy y2 d O;refine Q_rnd y3 fun W4 G s4 y4=>⟨(a5.ext d).trans G (fun x V _=>by simp at V;simp[V]),.inl ⟨rfl,(y _ _).2 ⟨by simp[m,hg],(e2.trans d).E G O,(p.E d O).E G EP,y4,(G.block _ U O).trans ((d.block _ U O).trans a4),by omega⟩⟩⟩
   |false=>
    rw[hg]at K;obtain⟨rfl,d,b3⟩:=K;have z3:=d.size;have y3:=P.bsy y2 d EP;refine Q_rnd_ret y3 fun W4 G s4 y4=>⟨(a5.trans d (fun x V _=>by simp at V;simp[V])).trans G (fun x V _=>by simp at V;simp[V]),.inr ⟨rfl,(hD _ _).2 ⟨by simp[hg],(e2.any.trans d (fun _ h _=>h)).trans G (fun x V h=>by simp at V;omega),b3.E G EP,y4,(G.block _ U O).trans ((d.block _ U EP).trans a4),by omega⟩⟩⟩
 refine Fn.mono (nodesIt_ok B N b o F H a1 a8 (hG.ext A) U hd ((y _ _).2 ⟨rfl,A,p,r1,m1,Nat.le_refl _⟩) (fun x V=>by simp at V;omega)) ?_;rintro v w8⟨_,T|⟨M,hM,_,hd⟩⟩
 ·obtain⟨m,a,Z,X,q,j5⟩:=(y _ _).1 T;refine .inl ⟨X,fun u r s9=>?_⟩;have:=a3 u ((a.any.trans r (fun x V h=>by simp at V;omega)):Keep [c] w u) (Z.E r EP) ((r.block _ U O).trans q);rw[m]at this;exact this
 ·obtain⟨m,a,Z,X,q,j5⟩:=(hD _ _).1 hd;refine .inr ⟨.ret,X,fun u r s9=>?_⟩;have:=a3 u ((a.trans r (fun x V h=>by simp at V;omega)):Keep [c] w u) (Z.E r EP) ((r.block _ U O).trans q)
  rw[show(Dp false F).all s=false by
   rw[<-Bool.not_eq_true,List.all_eq_true];intro h;rw[<-Bool.not_eq_true,List.all_eq_true]at m;exact m fun x V=>h x (hM.subset V)]at this
  unfold behind;exact this
def pastN(x:Nd):Bool:= !(Bd x.1.op).future
def layN(x:Nd):Bool:= !((Bd x.1.op).future&&x.2)
def pastG(f:Fml):Bool:=(Dp false f).all pastN
def layG(f:Fml):Bool:=(Dp false f).all layN
def validG(f:Fml):Bool:=decide (szF f<=60)&&decide (dpF f<=20)&&(Dp false f).all fun x=>Dn x.1
theorem fpast_ok(w:World)(v:Value)(f:Fml)(P:FAt Af w v f)(X:GF w)(hN:10<=w.heap.size)(D:dpF f<=5000):Fn Zp 203 [v] w fun u w'=>u=.bool (pastG f)/\Ext w w':=by
 have H:=P.lt;obtain⟨q,rfl,C,a0⟩:=P.cells;refine DC Tryz.func203 rfl Tryz.ntmps203 nlr EO (go ?_);refine A3 (L:=q) rfl (fun Q k=>?_);refine AY (fun N d=>go ?_);have z1:=k.size;have z2:=d.size;have n:=k.D.E d.E O;have t:Blk N Q.heap.size 4 [.bool false]:=d.D;have e:=k.E.trans d.E;have F:PF (fun b=>b≠Q.heap.size) N w.heap.size 0 f:=⟨by omega,q,C,n.cells,(H.ext e).mono fun x V=>by have:=V.2;omega⟩;refine go ?_;refine AF (nodes_ok N w.heap.size 0) rfl ?_;rintro _ w4⟨rfl,a⟩;refine go ?_;refine C_allNodes pastN rfl EO rfl (t.E a.E O) a.D (F.E a.E (fun _ _=>by simp)) (X.ext (e.trans a.E)) U D (fun l b' o' x i W a1=>?_) (fun W K E M=>?_)
 ·refine go ?_;refine⟨rfl,fun j r V B=>?_⟩;have z:=X.ext ((e.trans a.E).trans r);refine go ?_;have c0:=V.opc;refine go ?_;refine AF (formOf_ok j x.op z) rfl ?_;rintro _ s⟨rfl,I⟩;refine go ?_;refine A2 (cs:=CJ (Bd x.op)) rfl rfl EQ (formC_one _) (fun W4 G=>go ?_);have T:=G.D;have g:=I.trans G.E;have p:pastN (x,i)= !(Bd x.op).future:=rfl;rw[p];generalize Bd x.op=y at T⊢;obtain⟨xl,xm,xv,xb,xn,xp,xf,xo⟩:=y;cases xf with
  |true=>
   exact GT
  |false=>
   refine go ?_;exact⟨rfl,g⟩
 ·have z4:=a.size;unfold pastG;have m:Ext w W:=(e.trans a.E).E K (fun x V=>by simp at V;omega);cases p:(Dp false f).all pastN with
  |true=>
   exact Fc
  |false=>
   exact GO
theorem flay_ok(w:World)(v:Value)(f:Fml)(P:FAt Af w v f)(X:GF w)(hN:10<=w.heap.size)(D:dpF f<=5000):Fn Zp 97 [v] w fun u w'=>u=.bool (layG f)/\Ext w w':=by
 have H:=P.lt;obtain⟨q,rfl,C,a0⟩:=P.cells;refine DC Tryz.func97 rfl Tryz.ntmps97 nlr EO (go ?_);refine A3 (L:=q) rfl (fun Q k=>?_);refine AY (fun N d=>go ?_);have z1:=k.size;have z2:=d.size;have n:=k.D.E d.E O;have t:Blk N Q.heap.size 4 [.bool false]:=d.D;have e:=k.E.trans d.E;have F:PF (fun b=>b≠Q.heap.size) N w.heap.size 0 f:=⟨by omega,q,C,n.cells,(H.ext e).mono fun x V=>by have:=V.2;omega⟩;refine go ?_;refine AF (nodes_ok N w.heap.size 0) rfl ?_;rintro _ w4⟨rfl,a⟩;refine go ?_;refine C_allNodes layN rfl EO rfl (t.E a.E O) a.D (F.E a.E (fun _ _=>by simp)) (X.ext (e.trans a.E)) U D (fun l b' o' x i W a1=>?_) (fun W K E M=>?_)
 ·refine go ?_;refine⟨rfl,fun j r V B=>?_⟩;have z:=X.ext ((e.trans a.E).trans r);refine go ?_;have c0:=V.opc;refine go ?_;refine AF (formOf_ok j x.op z) rfl ?_;rintro _ s⟨rfl,I⟩;refine go ?_;refine A2 (cs:=CJ (Bd x.op)) rfl rfl EQ (formC_one _) (fun W4 G=>go ?_);have T:=G.D;have g:=I.trans G.E;have p:layN (x,i)= !((Bd x.op).future&&i):=rfl;rw[p];generalize Bd x.op=y at T⊢;obtain⟨xl,xm,xv,xb,xn,xp,xf,xo⟩:=y;cases xf<;>cases i
  case true.true=>
   exact GT
  all_goals
   refine go ?_;exact⟨rfl,g⟩
 ·have z4:=a.size;unfold layG;have m:Ext w W:=(e.trans a.E).E K (fun x V=>by simp at V;omega);cases p:(Dp false f).all layN with
  |true=>
   exact Fc
  |false=>
   exact GO
theorem fvalid_ok(w:World)(v:Value)(f:Fml)(P:FAt Af w v f)(X:GF w)(H:KY w)(Z:10<=w.heap.size):Fn Zp 96 [v] w fun u w'=>u=.bool (validG f)/\Ext w w':=by
 have y:=P.lt;obtain⟨q,rfl,C,a1⟩:=P.cells;refine DC Tryz.func96 rfl Tryz.ntmps96 nlr EO (go ?_);refine A3 (L:=q) rfl (fun Q p=>?_);refine AY (fun N m=>go ?_);have z1:=p.size;have z2:=m.size;have n:=p.D.E m.E O;have j:Blk N Q.heap.size 4 [.bool false]:=m.D;have e:=p.E.trans m.E;have G:PF (fun b=>b≠Q.heap.size) N w.heap.size 0 f:=⟨by omega,q,C,n.cells,(y.ext e).mono fun x V=>by have:=V.2;omega⟩;refine go ?_;refine AF (within_ok N w.heap.size 0 f 60 20 U U ⟨by omega,q,C,n.cells,(y.ext e).mono fun x V=>by have:=V.2;omega⟩) rfl ?_;rintro _ z⟨rfl,a⟩;unfold validG;cases hsz:(decide (szF f<=60)&&decide (dpF f<=20))with
 |false=>
  refine go ?_;refine AU (v:=.bool false) rfl rfl rfl (j.E a O) O (fun S A=>go ?_);exact BF (A7 rfl (A.D.cell (o:=0) rfl) ⟨rfl,(e.trans a).E A.E EP⟩)
 |true=>
 simp at hsz;refine go ?_;refine AF (nodes_ok z w.heap.size 0) rfl ?_;rintro _ w4⟨rfl,c⟩;refine go ?_;have z3:=a.size;refine C_allNodes (fun x=>Dn x.1) rfl EO rfl (j.E (a.trans c.E) O) c.D (G.E (a.trans c.E) (fun _ _=>by simp)) (X.ext ((e.trans a).trans c.E)) U U (fun l D k x i W a2=>?_) (fun W I E M=>?_)
 ·refine go ?_;refine⟨rfl,fun B r V F=>?_⟩;have t:=((e.trans a).trans c.E).trans r;have a0:=CE x.args;have a3:=BL x;refine go ?_;refine AF (shaped_ok B D k x (V.mono fun _ _=>trivial) (X.ext t) (H.E t O) U) rfl ?_;rintro _ R⟨rfl,g⟩;show AT _ _ _ _ _ _ _ _;cases hp:Dn x with
  |false=>
   refine go ?_;refine AU (v:=.bool false) rfl rfl rfl (F.E g O) O (fun S A=>go ?_);exact⟨rfl,g.any.trans A.E (fun _ h _=>h),A.D⟩
  |true=>
   refine go ?_;exact⟨rfl,g⟩
 ·have z4:=c.size;have s:Ext w W:=((e.trans a).trans c.E).E I (fun x V=>by simp at V;omega);cases hp:(Dp false f).all (fun x=>Dn x.1)with
  |true=>
   rw[if_pos rfl];refine go ?_;refine AU (v:=.bool true) rfl rfl rfl E O (fun S A=>go ?_);refine Cm ((A.E.block _ (Array.getElem?_eq_some_iff.1 M).1 EP).trans M) fun K d T=>?_;exact BF (A7 rfl ((A.D.E d EP).cell (o:=0) rfl) ⟨rfl,(s.E A.E (fun x V=>by simp at V;omega)).E d (fun x V=>by simp at V;omega)⟩)
  |false=>
   rw[if_neg O];refine go ?_;refine Cm M fun K d T=>?_;exact BF (A7 rfl ((E.E d EP).cell (o:=0) rfl) ⟨rfl,s.E d (fun x V=>by simp at V;omega)⟩)
theorem own_snoc{w:World}{B:Nat}{v:Value}{A:LF}{r:Fml}{L0:List (LV)}{cs:LV}(h:w.ownsRow B 37 5 v (A.length+1) (L0.flatten++cs)):w.ownsRow B 37 5 v (A++[r]).length (L0++[cs]).flatten:=by
 rw[List.length_append,List.flatten_append];simpa using h
set_option maxHeartbeats 1000000 in
theorem glone_ok(w:World)(f F:Nat)(s:BS)(d op v:Int)(k:LU)(a3:f≠F)(hb:BAt w f s)(hs:bsOk s)(h0:s.2=false)(hd:0<=d)(hd2:d<=1000)
  (hc:Blk w F 37 [iV op,AL k,iV v,iV 0,.slice none 0 0]):
  Fn Zp 152 [pt f,pt F,iV d] w fun u w'=>Keep [f,F] w w'/\BAt w' f (lnB op v d s).2.2/\
   ∃R L,Blk w' F 37 [iV op,AL k,iV (lnB op v d s).1,iV 0,R]/\w'.ownsRow w.heap.size 37 5 R (lnB op v d s).2.1.length L.flatten/\∀ok,FsAt ok w' L (lnB op v d s).2.1:=by
 have a9:=hc.lt;have a8:=hb.lt;unfold lnB;refine AN Tryz.func152 rfl Tryz.ntmps152 (go ?_);refine AF (gtake_ok w f s (d-1) hb hs) rfl ?_;rintro _ w1⟨rfl,k1,b1⟩;have c1:=hc.E k1 (by simpa using Ne.symm a3);have a0:Keep [f,F] w w1:=k1.mono fun x h=>by simp at h;simp[h]
 cases ht:(tkB s (d-1)).2 with
 |true=>
  refine go ?_;simp only[if_true];exact fin_ret0 rfl ⟨a0,b1,_,[],c1,⟨rfl,.inl ⟨rfl,rfl⟩⟩,fun ok=>FsAt.nil ok _⟩
 |false=>
  rw[if_neg Bool.false_ne_true];refine go ?_;by_cases h9:op=9
  ·rw[if_neg (show¬op=17 by omega),if_pos (show op=9\/op=16 from .inl h9)];refine go ?_;refine Ac (rd 0 3 (.read 4 (.read 5 (.alt 3 (.read 6 (.alt 7 (.alt 8 (.read 9 (.read 11 (.read 12 (.alt 10 (.alt 13 .done .stop) (.alt 13 (.alt 10 .done .stop) .stop))))) .stop) .stop)) (.alt 7 (.alt 3 (.read 6 (.alt 8 (.read 9 (.read 11 (.read 12 (.alt 10 (.alt 13 .done .stop) (.alt 13 (.alt 10 .done .stop) .stop))))) .stop)) .stop) .stop))))) Ap EO (fun wd D ed=>⟨fun _=>True,?_,?_⟩)
   ·trivial
   have p:=(a0).ext D;have Q:=(c1).E D O;have j:=(b1).E D O;refine go ?_
   refine D_leaf (α:=Value) (.read 9 (.read 11 (.read 12 (.alt 10 (.alt 13 .done .stop) (.alt 13 (.alt 10 .done .stop) .stop))))) (fun R=>[(32,pt F),(37,.agg #[iV 1,AL [],iV 0,iV 0,.slice none 0 0]),(38,iV ((0:Nat):Int)),(40,R)])
    (fun R W=>Keep [f,F] w W/\Blk W F 37 [iV op,AL k,iV v,iV 0,.slice none 0 0]/\BAt W f (tkB s (d-1))/\W.ownsRow w.heap.size 37 5 R 1 zero5) ?_ (fun V=>?_)
   ·rintro R f' W⟨T,C,H,P⟩;obtain⟨g,I,M,rfl,N,l,hM,Z,q2⟩:=own_set (n:=0) (xs:=[]) (cs:=[iV 1,AL [],iV 0,iV 0,.slice none 0 0]) P rfl rfl C (fun g N=>by have:=(An P N).1;omega);have a1:g≠f:=by have:=hb.lt;omega
    have c:g≠F:=by omega
    refine go ?_;refine D_A rfl ?_ (D_E rfl ?_)
    ·refine AI (o:=0+0*5) (cs:=[iV 1,AL [],iV 0,iV 0,.slice none 0 0]) rfl rfl rfl (AV rfl) l U (fun m t=>?_);refine wNl trivial ?_;refine go ?_;refine D_E rfl ?_;refine AU rfl rfl rfl (C.E t.E (by simpa using c.symm)) O (fun G i=>?_);refine wNl trivial ?_;obtain⟨e,A,K⟩:=Z m G t i;exact FD
    ·refine AU rfl rfl rfl C O (fun m t=>?_);refine wNl trivial ?_;refine go ?_;refine D_E rfl ?_;refine AI (o:=0+0*5) (cs:=[iV 1,AL [],iV 0,iV 0,.slice none 0 0]) rfl rfl rfl (AV rfl) (l.E t.E (by simpa using c)) U (fun G i=>?_);refine wNl trivial ?_;obtain⟨e,A,K⟩:=q2 m G t i;exact FD
   refine D_A rfl ?_ (D_E rfl ?_)
   ·refine AH rfl (Q.cell (o:=4) rfl) ?_;refine wNl trivial ?_;refine go ?_;refine D_E rfl ?_;refine AP (out:=zero5) rfl U EZ (fun z r=>?_);exact E4
   ·refine AP (out:=zero5) rfl U EZ (fun z r=>?_);refine wNl trivial ?_;refine go ?_;refine D_E rfl ?_;have S:=Q.E r.E O;refine AH rfl (S.cell (o:=4) rfl) ?_;exact E4
  by_cases a6:op=16
  ·rw[if_neg (show¬op=17 by omega),if_pos (show op=9\/op=16 from .inr a6)];refine go ?_;refine Ac (rd 0 3 (.read 4 (.read 5 (.alt 3 (.read 6 (.alt 7 (.alt 8 (.read 9 (.read 11 (.read 12 (.alt 10 (.alt 13 .done .stop) (.alt 13 (.alt 10 .done .stop) .stop))))) .stop) .stop)) (.alt 7 (.alt 3 (.read 6 (.alt 8 (.read 9 (.read 11 (.read 12 (.alt 10 (.alt 13 .done .stop) (.alt 13 (.alt 10 .done .stop) .stop))))) .stop)) .stop) .stop))))) Ap EO (fun wd D ed=>⟨fun _=>True,?_,?_⟩)
   ·trivial
   have p:=(a0).ext D;have Q:=(c1).E D O;have j:=(b1).E D O;refine go ?_
   refine D_leaf (α:=Value) (.read 9 (.read 11 (.read 12 (.alt 10 (.alt 13 .done .stop) (.alt 13 (.alt 10 .done .stop) .stop))))) (fun R=>[(32,pt F),(37,.agg #[iV 1,AL [],iV 0,iV 0,.slice none 0 0]),(38,iV ((0:Nat):Int)),(40,R)])
    (fun R W=>Keep [f,F] w W/\Blk W F 37 [iV op,AL k,iV v,iV 0,.slice none 0 0]/\BAt W f (tkB s (d-1))/\W.ownsRow w.heap.size 37 5 R 1 zero5) ?_ (fun V=>?_)
   ·rintro R f' W⟨T,C,H,P⟩;obtain⟨g,I,M,rfl,N,l,hM,Z,q2⟩:=own_set (n:=0) (xs:=[]) (cs:=[iV 1,AL [],iV 0,iV 0,.slice none 0 0]) P rfl rfl C (fun g N=>by have:=(An P N).1;omega);have a1:g≠f:=by have:=hb.lt;omega
    have c:g≠F:=by omega
    refine go ?_;refine D_A rfl ?_ (D_E rfl ?_)
    ·refine AI (o:=0+0*5) (cs:=[iV 1,AL [],iV 0,iV 0,.slice none 0 0]) rfl rfl rfl (AV rfl) l U (fun m t=>?_);refine wNl trivial ?_;refine go ?_;refine D_E rfl ?_;refine AU rfl rfl rfl (C.E t.E (by simpa using c.symm)) O (fun G i=>?_);refine wNl trivial ?_;obtain⟨e,A,K⟩:=Z m G t i;exact FD
    ·refine AU rfl rfl rfl C O (fun m t=>?_);refine wNl trivial ?_;refine go ?_;refine D_E rfl ?_;refine AI (o:=0+0*5) (cs:=[iV 1,AL [],iV 0,iV 0,.slice none 0 0]) rfl rfl rfl (AV rfl) (l.E t.E (by simpa using c)) U (fun G i=>?_);refine wNl trivial ?_;obtain⟨e,A,K⟩:=q2 m G t i;exact FD
   refine D_A rfl ?_ (D_E rfl ?_)
   ·refine AH rfl (Q.cell (o:=4) rfl) ?_;refine wNl trivial ?_;refine go ?_;refine D_E rfl ?_;refine AP (out:=zero5) rfl U EZ (fun z r=>?_);exact E4
   ·refine AP (out:=zero5) rfl U EZ (fun z r=>?_);refine wNl trivial ?_;refine go ?_;refine D_E rfl ?_;have S:=Q.E r.E O;refine AH rfl (S.cell (o:=4) rfl) ?_;exact E4
  rw[if_neg (show¬(op=9\/op=16) by omega)];by_cases a2:op=17
  ·rw[if_pos a2];refine go ?_;refine AU (v:=iV 1) rfl rfl rfl c1 O (fun w2 p2=>?_);have a5:Blk w2 F 37 [iV op,AL k,iV 1,iV 0,.slice none 0 0]:=p2.D;have a4:=b1.E p2.E (by simpa using a3);have a7:Keep [f,F] w w2:=a0.trans p2.E (fun x h _=>by simp at h;simp[h]);refine go ?_;refine Ac (rd 0 3 (.read 4 (.read 5 (.alt 3 (.read 6 (.alt 7 (.alt 8 (.read 9 (.read 11 (.read 12 (.alt 10 (.alt 13 .done .stop) (.alt 13 (.alt 10 .done .stop) .stop))))) .stop) .stop)) (.alt 7 (.alt 3 (.read 6 (.alt 8 (.read 9 (.read 11 (.read 12 (.alt 10 (.alt 13 .done .stop) (.alt 13 (.alt 10 .done .stop) .stop))))) .stop)) .stop) .stop))))) Ap EO (fun wd D ed=>⟨fun _=>True,?_,?_⟩)
   ·trivial
   have p:=(a7).ext D;have Q:=(a5).E D O;have j:=(a4).E D O;refine go ?_
   refine D_leaf (α:=Value) (.read 9 (.read 11 (.read 12 (.alt 10 (.alt 13 .done .stop) (.alt 13 (.alt 10 .done .stop) .stop))))) (fun R=>[(32,pt F),(37,.agg #[iV 2,AL [],iV 0,iV 0,.slice none 0 0]),(38,iV ((0:Nat):Int)),(40,R)])
    (fun R W=>Keep [f,F] w W/\Blk W F 37 [iV op,AL k,iV 1,iV 0,.slice none 0 0]/\BAt W f (tkB s (d-1))/\W.ownsRow w.heap.size 37 5 R 1 zero5) ?_ (fun V=>?_)
   ·rintro R f' W⟨T,C,H,P⟩;obtain⟨g,I,M,rfl,N,l,hM,Z,q2⟩:=own_set (n:=0) (xs:=[]) (cs:=[iV 2,AL [],iV 0,iV 0,.slice none 0 0]) P rfl rfl C (fun g N=>by have:=(An P N).1;omega);have a1:g≠f:=by have:=hb.lt;omega
    have c:g≠F:=by omega
    refine go ?_;refine D_A rfl ?_ (D_E rfl ?_)
    ·refine AI (o:=0+0*5) (cs:=[iV 2,AL [],iV 0,iV 0,.slice none 0 0]) rfl rfl rfl (AV rfl) l U (fun m t=>?_);refine wNl trivial ?_;refine go ?_;refine D_E rfl ?_;refine AU rfl rfl rfl (C.E t.E (by simpa using c.symm)) O (fun G i=>?_);refine wNl trivial ?_;obtain⟨e,A,K⟩:=Z m G t i;exact FE
    ·refine AU rfl rfl rfl C O (fun m t=>?_);refine wNl trivial ?_;refine go ?_;refine D_E rfl ?_;refine AI (o:=0+0*5) (cs:=[iV 2,AL [],iV 0,iV 0,.slice none 0 0]) rfl rfl rfl (AV rfl) (l.E t.E (by simpa using c)) U (fun G i=>?_);refine wNl trivial ?_;obtain⟨e,A,K⟩:=q2 m G t i;exact FE
   refine D_A rfl ?_ (D_E rfl ?_)
   ·refine AH rfl (Q.cell (o:=4) rfl) ?_;refine wNl trivial ?_;refine go ?_;refine D_E rfl ?_;refine AP (out:=zero5) rfl U EZ (fun z r=>?_);exact E4
   ·refine AP (out:=zero5) rfl U EZ (fun z r=>?_);refine wNl trivial ?_;refine go ?_;refine D_E rfl ?_;have S:=Q.E r.E O;refine AH rfl (S.cell (o:=4) rfl) ?_;exact E4
  ·rw[if_neg a2];refine go ?_;refine Ac (rd 0 3 (.read 4 (.read 5 (.alt 3 (.read 6 (.alt 7 (.alt 8 (.read 9 (.read 11 (.read 12 (.alt 10 (.alt 13 .done .stop) (.alt 13 (.alt 10 .done .stop) .stop))))) .stop) .stop)) (.alt 7 (.alt 3 (.read 6 (.alt 8 (.read 9 (.read 11 (.read 12 (.alt 10 (.alt 13 .done .stop) (.alt 13 (.alt 10 .done .stop) .stop))))) .stop)) .stop) .stop))))) Ap EO (fun wd D ed=>⟨fun _=>True,?_,?_⟩)
   ·trivial
   have p:=(a0).ext D;have Q:=(c1).E D O;have j:=(b1).E D O;refine go ?_
   refine D_leaf (α:=Value) (.read 9 (.read 11 (.read 12 (.alt 10 (.alt 13 .done .stop) (.alt 13 (.alt 10 .done .stop) .stop))))) (fun R=>[(32,pt F),(37,.agg #[iV 2,AL [],iV 0,iV 0,.slice none 0 0]),(38,iV ((0:Nat):Int)),(40,R)])
    (fun R W=>Keep [f,F] w W/\Blk W F 37 [iV op,AL k,iV v,iV 0,.slice none 0 0]/\BAt W f (tkB s (d-1))/\W.ownsRow w.heap.size 37 5 R 1 zero5) ?_ (fun V=>?_)
   ·rintro R f' W⟨T,C,H,P⟩;obtain⟨g,I,M,rfl,N,l,hM,Z,q2⟩:=own_set (n:=0) (xs:=[]) (cs:=[iV 2,AL [],iV 0,iV 0,.slice none 0 0]) P rfl rfl C (fun g N=>by have:=(An P N).1;omega);have a1:g≠f:=by have:=hb.lt;omega
    have c:g≠F:=by omega
    refine go ?_;refine D_A rfl ?_ (D_E rfl ?_)
    ·refine AI (o:=0+0*5) (cs:=[iV 2,AL [],iV 0,iV 0,.slice none 0 0]) rfl rfl rfl (AV rfl) l U (fun m t=>?_);refine wNl trivial ?_;refine go ?_;refine D_E rfl ?_;refine AU rfl rfl rfl (C.E t.E (by simpa using c.symm)) O (fun G i=>?_);refine wNl trivial ?_;obtain⟨e,A,K⟩:=Z m G t i;exact FE
    ·refine AU rfl rfl rfl C O (fun m t=>?_);refine wNl trivial ?_;refine go ?_;refine D_E rfl ?_;refine AI (o:=0+0*5) (cs:=[iV 2,AL [],iV 0,iV 0,.slice none 0 0]) rfl rfl rfl (AV rfl) (l.E t.E (by simpa using c)) U (fun G i=>?_);refine wNl trivial ?_;obtain⟨e,A,K⟩:=q2 m G t i;exact FE
   refine D_A rfl ?_ (D_E rfl ?_)
   ·refine AH rfl (Q.cell (o:=4) rfl) ?_;refine wNl trivial ?_;refine go ?_;refine D_E rfl ?_;refine AP (out:=zero5) rfl U EZ (fun z r=>?_);exact E4
   ·refine AP (out:=zero5) rfl U EZ (fun z r=>?_);refine wNl trivial ?_;refine go ?_;refine D_E rfl ?_;have S:=Q.E r.E O;refine AH rfl (S.cell (o:=4) rfl) ?_;exact E4
theorem bd_ok{op:Int}{neg:Bool}{g:Int->BS->Fml×BS}(w:∀d s,bsOk s->bsOk (g d s).2):∀(n:Nat)(d:Int)(s:BS),bsOk s->bsOk (bdB op neg g n d s).2
 |0,d,s,h=>w d s h
 |n+1,d,s,h=>by
  rw[bdB]
  split
  ·exact h
  ·rename_i t;have t:s.2=false:=by simpa using t
   have m:=tk_ok (d:=d) h t
   split
   ·exact m.1
   ·rename_i Z;have Z:(tkB s d).2=false:=by simpa using Z
    have b:=tk_ok (d:=d-1) m.1 Z
    split
    ·exact b.1
    ·exact bd_ok w n _ _ (w _ _ b.1)
def FnF(a:Nat)(W:World)(b o:Nat)(neg:Bool)(d:Int)(s:BS)(r:Fml×BS):Prop:=Fn Zp 98 [pt a,.pointer (some ⟨b,o,none⟩),.bool neg,iV d] W fun u X=>Keep [a] W X/\BAt X a r.2/\FAt (fun x=>W.heap.size<=x) X u r.1
set_option maxHeartbeats 1000000 in
theorem gbounded_ok(a:Nat)(neg:Bool)(op:Int)(g:Int->BS->Fml×BS)(b o b' o' al cc:Nat)(C:World)(hal:1<=al)(q0:C.cell? ⟨b,o+0,none⟩=some (iV op))(q4:C.cell? ⟨b,o+4,none⟩=some (.slice (some ⟨b',o',none⟩) al cc))(I:b≠a)(f3:a<C.heap.size)(hg:∀d s,bsOk s->bsOk (g d s).2)
  (b5:∀(W:World)(d:Int)(s:BS),Keep [a] C W->0<=d->d<=1000->bsOk s->BAt W a s->FnF a W b' (o'+0*5) neg d s (g d s)):
  ∀(n:Nat)(W:World)(d:Int)(s:BS),n<=9->Keep [a] C W->0<=d->d<=1000->bsOk s->BAt W a s->Fn Zp 149 [pt a,.pointer (some ⟨b,o,none⟩),iV (n:Int),.bool neg,iV d] W fun u w'=>Keep [a] W w'/\BAt w' a (bdB op neg g n d s).2/\FAt (fun x=>W.heap.size<=x) w' u (bdB op neg g n d s).1:=by
 intro n;have d7:=World.block_lt_of_cell? C _ q0;simp only at d7
 induction n with
 |zero=>
  intro W d s _ B hd hd2 Z S;have z0:=B.size;have c4:=B.cell q4 Ep;refine AN Tryz.func149 rfl Tryz.ntmps149 (go ?_);refine AY (L:=zero5) (fun Q A=>?_);have z1:=A.size;have q41:=A.E.cell c4 O;refine go ?_;refine AF (b5 Q d s (B.ext A.E) hd hd2 Z (S.E A.E O)) rfl ?_;rintro u w2⟨H,X,f2⟩;obtain⟨q,rfl,d8,e1⟩:=f2.cells;obtain⟨m,p,D,z,E,rfl⟩:=Ak d8;refine AI (cs:=[m,p,D,z,E]) rfl rfl rfl e1 (A.D.E H EP) EV (fun t i=>?_);refine go ?_;exact AW rfl rfl rfl i.D.cells ⟨(A.E.any.trans H (fun _ h _=>h)).trans i.E (fun y hy G=>by simp at hy;omega),X.E i.E EP,(f2.E i.E (fun y hy hm=>by simp at hm;omega)).mono fun y hy=>by omega⟩
 |succ n ih=>
  intro W d s hn B hd hd2 Z S;have z0:=B.size;have c4:=B.cell q4 Ep;have e5:=B.cell q0 Ep;obtain⟨l,ov⟩:=s;refine AN Tryz.func149 rfl Tryz.ntmps149 (go ?_);refine AY (L:=zero5) (fun Q A=>?_);have z1:=A.size;have b6:=S.E A.E O;refine go ?_;rw[bdB];cases ov with
  |true=>
   rw[if_pos rfl];refine go ?_;refine AI (cs:=zero5) rfl rfl rfl (AV rfl) ((A).D.E (Keep.refl [a] Q) EP) EV (fun t i=>?_);refine go ?_;have z9:=(A).size;exact AW rfl rfl rfl i.D.cells ⟨((A).E.any.trans (Keep.refl [a] Q) (fun _ h _=>h)).trans i.E (fun x h G=>by simp at h;omega),(b6).E i.E EP,FAt.leaf _ _ 0 [] 0 0⟩
  |false=>
   rw[if_neg Bool.false_ne_true];refine go ?_;refine AF (gtake_ok Q a (l,false) d b6 Z) rfl ?_;rintro _ w2⟨rfl,H,X⟩;obtain⟨b9,hd1⟩:=tk_ok (d:=d) Z rfl;cases ht:(tkB (l,false) d).2 with
   |true=>
    rw[if_pos rfl];refine go ?_;refine AI (cs:=zero5) rfl rfl rfl (AV rfl) ((A).D.E H EP) EV (fun t i=>?_);refine go ?_;have z9:=(A).size;exact AW rfl rfl rfl i.D.cells ⟨((A).E.any.trans H (fun _ h _=>h)).trans i.E (fun x h G=>by simp at h;omega),(X).E i.E EP,FAt.leaf _ _ 0 [] 0 0⟩
   |false=>
    rw[if_neg Bool.false_ne_true];have hd1:=hd1 ht;refine go ?_;refine AF (gtake_ok w2 a _ (d-1) X b9) rfl ?_;rintro _ R⟨rfl,k3,b7⟩;obtain⟨c0,hd3⟩:=tk_ok (d:=d-1) b9 ht;have w:Keep [a] Q R:=H.trans k3 (fun _ h _=>h);cases ht3:(tkB (tkB (l,false) d) (d-1)).2 with
    |true=>
     rw[if_pos rfl];refine go ?_;refine AI (cs:=zero5) rfl rfl rfl (AV rfl) ((A).D.E w EP) EV (fun t i=>?_);refine go ?_;have z9:=(A).size;exact AW rfl rfl rfl i.D.cells ⟨((A).E.any.trans w (fun _ h _=>h)).trans i.E (fun x h G=>by simp at h;omega),(b7).E i.E EP,FAt.leaf _ _ 0 [] 0 0⟩
    |false=>
     rw[if_neg Bool.false_ne_true];have hd3:=hd3 ht3;have g4:=w.size;have f5:=w.cell (A.E.cell e5 O) Ep;refine go ?_;refine AF (full_ok R op) rfl ?_;rintro _ R⟨rfl,rfl⟩;refine go ?_;refine AY (L:=zero5) (fun w4 n4=>?_);refine AI (cs:=[iV (Dj op),AL [],iV 0,iV 0,.slice none 0 0]) rfl rfl rfl (AV rfl) n4.D EV (fun T p5=>?_);have z4:=n4.size;have z5:=p5.size;have c2:Ext R T:=n4.E.E p5.E O;obtain⟨F,b8⟩:∃F,F=R.heap.size:=⟨_,rfl⟩;have b3:Blk T F 37 [iV (Dj op),AL [],iV 0,iV 0,.slice none 0 0]:=by rw[b8];exact p5.D
     rw[<-b8];refine go ?_;refine CA (α:=Unit) (fun _=>[(0,pt a),(1,.pointer (some ⟨b,o,none⟩)),(2,iV ((n+1:Nat):Int)),(3,.bool neg),(4,iV d),(10,pt W.heap.size),(11,pt F)]) (fun _ k=>Keep [F] T k/\Blk k F 37 [iV (negM neg (Dj op)),AL [],iV 0,iV 0,.slice none 0 0]) ?_ ?_
     ·cases neg with
      |false=>
       refine go ?_;exact Aj () ag ⟨Keep.refl _ _,b3⟩
      |true=>
       refine go ?_;refine AF (dual_ok T (Dj op)) rfl ?_;rintro _ T⟨rfl,rfl⟩;refine go ?_;refine AU (v:=iV (dualM (Dj op))) rfl rfl rfl b3 O (fun k p6=>go ?_);exact Aj () ag ⟨p6.E,p6.D⟩
     rintro _ k f6⟨a4,c8⟩;have z6:=a4.size;have a1:Keep [a] Q k:=(w.ext c2).trans a4 (fun x h G=>by simp at h;omega);have a7:Keep [a] C k:=(B.ext A.E).trans a1 (fun x h _=>h);have d4:=(b7.E c2 O).E a4 EP;have q46:=a7.cell q4 Ep;refine go ?_;have f4:=S.lt;have g8:=a1.size;refine AF (b5 k (d-1) _ a7 U U c0 d4) rfl ?_;rintro u7 w7⟨k7,d5,f7⟩;obtain⟨f1,rfl,e0,e3⟩:=f7.cells;obtain⟨f,M,j,N,r,rfl⟩:=Ak e0;have z7:=k7.size;refine AY (L:=zero5) (fun w8 n8=>?_);have z8:=n8.size;refine AI (cs:=[f,M,j,N,r]) rfl rfl rfl e3 n8.D EV (fun t i=>?_);have z9:=i.size;have a6:Ext w7 t:=n8.E.E i.E O;have c6:Blk t w7.heap.size 37 [f,M,j,N,r]:=i.D;have c3:Keep [a] k t:=k7.ext a6;have e4:Keep [a] C t:=a7.trans c3 (fun x h _=>h);have d6:=d5.E a6 O;have f9:=f7.ext a6;refine go ?_;rw[show((n+1:Nat):Int)-1=(n:Int) by omega];refine AF (ih t (d-2) _ U e4 U U (hg _ _ c0) d6) rfl ?_;rintro f8 c5⟨a0,d3,b4⟩;obtain⟨f0,rfl,d9,e2⟩:=b4.cells;obtain⟨m,p,D,z,E,rfl⟩:=Ak d9;have g1:=a0.size;refine AY (L:=zero5) (fun w11 a8=>?_);have g2:=a8.size;refine AI (cs:=[m,p,D,z,E]) rfl rfl rfl e2 a8.D EV (fun e b0=>?_);have g3:=b0.size;have P:Ext c5 e:=a8.E.E b0.E O;have e8:Blk e c5.heap.size 37 [m,p,D,z,E]:=b0.D;have e7:Blk e w7.heap.size 37 [f,M,j,N,r]:=(c6.E a0 EP).E P O;have d0:=(f9.E a0 (fun x V h=>by simp at h;omega)).ext P;have c9:=b4.ext P;refine go ?_;refine AP (out:=[m,p,D,z,E]) rfl U EZ (fun b1 a2=>?_);have g5:=a2.size;refine go ?_;refine AP (out:=[f,M,j,N,r,iV 8,AL [],iV 0,iV 0,.slice (sm e.heap.size) 1 1]) rfl U Ei (fun b2 a9=>?_);have g6:=a9.size;have c1:Ext e b2:=a2.E.trans a9.E;have a5:Keep [a] k b2:=((c3.trans a0 (fun x h _=>h)).ext P).ext c1;have c7:Blk b2 F 37 [iV (negM neg (Dj op)),AL [],iV 0,iV 0,.slice none 0 0]:=c8.E a5 EP;refine go ?_;refine AU (v:=.slice (sm b1.heap.size) 2 2) rfl rfl rfl c7 O (fun e6 K=>?_);have e9:Blk e6 F 37 [iV (negM neg (Dj op)),AL [],iV 0,iV 0,.slice (sm b1.heap.size) 2 2]:=K.D;have g7:=K.size;refine go ?_;refine AI (cs:=[iV (negM neg (Dj op)),AL [],iV 0,iV 0,.slice (sm b1.heap.size) 2 2]) rfl rfl rfl (AV rfl) (((A.D.E a1 EP).E a5 EP).E K.E EP) EV (fun g0 a3=>?_);refine go ?_;have d1:FsAt (fun x=>W.heap.size<=x/\x≠W.heap.size/\x≠F) e [[m,p,D,z,E]] [(bdB op neg g n (d-2) (g (d-1) (tkB (tkB (l,false) d) (d-1))).2).1]:=FsAt.one (c9.mono fun x V=>by omega) rfl;obtain⟨h1,h2⟩:=FsAt.fresh (L:=[[m,p,D,z,E]]) a2 d1 U O;have hN:=FAt.node 8 [] 0 0 h1 h2;have d2:=FsAt.two (c:=[f,M,j,N,r]) (d:=[iV 8,AL [],iV 0,iV 0,.slice (sm e.heap.size) 1 1]) ((d0.mono (ok':=fun x=>W.heap.size<=x/\x≠W.heap.size/\x≠F) fun x V=>by omega).ext a2.E) rfl hN rfl;obtain⟨h3,h4⟩:=FsAt.fresh (L:=[[f,M,j,N,r],[iV 8,AL [],iV 0,iV 0,.slice (sm e.heap.size) 1 1]]) a9 d2 U O;have hM:=((FAt.node (negM neg (Dj op)) [] 0 0 h3 h4).E K.E (fun x V h=>by simp at h;omega)).E a3.E (fun x V h=>by simp at h;omega);refine AW rfl rfl rfl a3.D.cells ⟨?_,((((d3.E P O).E c1 O).E K.E EP).E a3.E EP),hM.mono fun x V=>V.1⟩;exact(((A.E.any.trans a1 (fun _ h _=>h)).trans a5 (fun _ h _=>h)).trans K.E (fun x h G=>by simp at h;omega)).trans a3.E (fun x h G=>by simp at h;omega)
mutual
theorem fmB_ok:∀(f:Fml)(neg:Bool)(d:Int)(s:BS),bsOk s->bsOk (fmB f neg d s).2
 | .mk op nm v b args,neg,d,s,h=>by
  rw[fmB]
  split
  ·exact h
  ·rename_i h0;have h0:s.2=false:=by simpa using h0
   have t1:=(tk_ok (d:=d) h h0).1
   split
   ·exact fm0_ok args _ _ _ h
   ·split
    ·split
     ·exact t1
     ·rename_i h1;have t2:=(tk_ok (d:=d-1) t1 (by simpa using h1)).1
      split<;>exact t2
    ·split
     ·exact bd_ok (fun d s hs=>fm0_ok args neg d s hs) _ _ _ h
     ·split
      ·exact t1
      ·rename_i h1;refine fmL_ok _ args _ _ _ ?_
       split
       ·unfold lnB;have t2:=(tk_ok (d:=d-1) t1 (by simpa using h1)).1
        split<;>exact t2
       ·exact t1
theorem fm0_ok:∀(l:LF)(neg:Bool)(d:Int)(s:BS),bsOk s->bsOk (fm0 l neg d s).2
 | [],_,_,_,h=>h
 |a::_,neg,d,s,h=>fmB_ok a neg d s h
theorem fmL_ok:∀(t:Bool)(l:LF)(neg:Bool)(d:Int)(s:BS),bsOk s->bsOk (fmL t l neg d s).2
 |_,[],_,_,_,h=>h
 |t,a::l,neg,d,s,h=>fmL_ok false l neg d _ (fmB_ok a _ d s h)
end
theorem fmL_len:∀(t:Bool)(l:LF)(neg:Bool)(d:Int)(s:BS),(fmL t l neg d s).1.length=l.length
 |_,[],_,_,_=>rfl
 |t,a::l,neg,d,s=>by rw[fmL];simp[fmL_len false l]
theorem fmL_snoc:∀(args:LF)(k:Nat)(x:Fml)(t:Bool)(neg:Bool)(d:Int)(s:BS),args[k]?=some x->
  fmL t (args.take (k+1)) neg d s=((fmL t (args.take k) neg d s).1++[(fmB x (neg !=(t&&k==0)) d (fmL t (args.take k) neg d s).2).1],(fmB x (neg !=(t&&k==0)) d (fmL t (args.take k) neg d s).2).2)
 | [],k,x,t,neg,d,s,h=>by cases h
 |a::l,0,x,t,neg,d,s,h=>by
  cases h;simp[fmL]
 |a::l,k+1,x,t,neg,d,s,h=>by
  have b:=fmL_snoc l k x false neg d (fmB a (neg !=t) d s).2 Ed;simp only[List.take_succ_cons,fmL,b];have e:(t&&(k+1==0))=(false&&k==0):=by simp
  simp[e]
def lnF(op v:Int)(neg:Bool)(d:Int)(s:BS):Int×LF×BS:=if isLn op then lnB (negM neg (Dj op)) (D3 op v neg) d s else(D3 op v neg,[],s)
theorem fmB_eq(op v b:Int)(k:LU)(args:LF)(neg:Bool)(d:Int)(s:BS):fmB (.mk op k v b args) neg d s=
  if s.2 then(Am,s)
  else if op=4 then fm0 args (!neg) d s
  else if op=3/\neg=true then(if(tkB s d).2 then(Am,tkB s d)else if(tkB (tkB s d) (d-1)).2 then(Am,tkB (tkB s d) (d-1))else(⟨4,[],0,0,[⟨3,k,v,0,[]⟩]⟩,tkB (tkB s d) (d-1)))
  else if op=13\/op=14 then bdB op neg (fm0 args neg) b.toNat d s
  else if(tkB s d).2 then(Am,tkB s d)
  else(⟨negM neg (Dj op),k,(lnF op v neg d (tkB s d)).1,0,(lnF op v neg d (tkB s d)).2.1++(fmL (op==7) args neg (d-1) (lnF op v neg d (tkB s d)).2.2).1⟩,(fmL (op==7) args neg (d-1) (lnF op v neg d (tkB s d)).2.2).2):=by
 rw[fmB];rfl
mutual
def okN:Fml->Bool
 | .mk op _ v b args=>(if op=4\/op=13\/op=14 then decide (1<=args.length)else true)&&decide (0<=b)&&decide (b<=9)&&decide (-9<=v)&&decide (v<=9)&&okNL args
def okNL:LF->Bool
 | []=>true
 |a::l=>okN a&&okNL l
end
theorem okNL_mem:∀{l:LF}{a:Fml},okNL l=true->a∈l->okN a=true
 | [],_,_,h=>by cases h
 |b::l,a,h,s=>by
  simp only[okNL,Bool.and_eq_true]at h;rcases List.mem_cons.1 s with rfl|s
  ·exact h.1
  ·exact okNL_mem h.2 s
theorem okN_parts{op v b:Int}{c:LU}{args:LF}(h:okN (.mk op c v b args)=true):(op=4\/op=13\/op=14->1<=args.length)/\0<=b/\b<=9∧ -9<=v/\v<=9/\∀a∈args,okN a=true:=by
 simp only[okN,Bool.and_eq_true,decide_eq_true_eq]at h;obtain⟨⟨⟨⟨⟨Z,W⟩,R⟩,B⟩,d⟩,k⟩:=h;refine⟨fun h=>by rw[if_pos h]at Z;simpa using Z,W,R,B,d,fun a D=>okNL_mem k D⟩
set_option maxHeartbeats 4000000 in
theorem gform_ok(B:Nat):∀(n:Nat)(w:World)(b o:Nat)(f:Fml)(neg:Bool)(d:Int)(s:BS),dpF f<=n->szF f<=1000->PF (fun b=>b≠B) w b o f->okN f=true->0<=d->d<=1000->bsOk s->BAt w B s->FnF B w b o neg d s (fmB f neg d s):=by
 intro n
 induction n with
 |zero=>intro w b o f neg d s hn;rw[CX]at hn;omega
 |succ n ih=>
 intro w b o f neg d s hn hz hf hp hd hd2 hs hb;unfold FnF;obtain⟨aa,cc,hla,q0,q1,q2,q3,q4,qa⟩:=hf.all;obtain⟨z,nm,v,bd,P⟩:=f;obtain⟨p1,p2,p3,p4,p5,p7⟩:=okN_parts hp;have j7:=CE P;rw[CX]at hn;rw[BL]at hz;simp only[Fml.op,Fml.name,Fml.val,Fml.bound,Fml.args]at hn hz hla q0 q1 q2 q3 q4 qa;have hbw:=World.block_lt_of_cell? w _ q0;simp only at hbw;have i8:=hb.lt;have a4:b≠B:=hf.1;obtain⟨l,ov⟩:=s;rw[fmB_eq];refine AN Tryz.func98 rfl Tryz.ntmps98 (go ?_);refine AY (L:=zero5) (fun I A=>?_);have z1:=A.size;have c0:=hb.E A.E O;have h8:=A.E.cell q0 O;have i2:=A.E.cell q4 O;have j9:=A.E.cell q3 O;refine go ?_;cases ov with
 |true=>
  rw[if_pos rfl];refine go ?_;refine AI (cs:=zero5) rfl rfl rfl (AV rfl) ((A).D.E (Keep.refl [B] I) EP) EV (fun w9 D=>?_);refine go ?_;have z9:=(A).size;exact AW rfl rfl rfl D.D.cells ⟨((A).E.any.trans (Keep.refl [B] I) (fun _ h _=>h)).trans D.E (fun x h X=>by simp at h;omega),(c0).E D.E EP,FAt.leaf _ _ 0 [] 0 0⟩
 |false=>
 rw[if_neg Bool.false_ne_true];refine go ?_;by_cases h4:z=4
 ·rw[if_pos h4];obtain⟨a,ha⟩:=gl (l:=P) (k:=0) (p1 (.inl h4));obtain⟨b',o',rfl,e5⟩:=qa 0 a ha;have b3:=List.mem_of_getElem? ha;have Z:=Ce b3;have h2:=Bb b3
  have he:fm0 P (!neg) d (l,false)=fmB a (!neg) d (l,false):=by
   cases P with
   |nil=>cases ha
   |cons c l'=>cases ha;rfl
  rw[he];have:=p1 (.inl h4);refine go ?_;refine AF (ih I b' _ a (!neg) d _ U U (e5.E A.E (fun _ _=>by simp)) (p7 a b3) hd hd2 hs c0) rfl ?_;exact FA
 rw[if_neg h4];by_cases h3:z=3/\neg=true
 ·rw[if_pos h3];obtain⟨f5,rfl⟩:=h3;refine go ?_;refine AF (gtake_ok I B (l,false) d c0 hs) rfl ?_;rintro _ w2⟨rfl,k2,a7⟩;obtain⟨b0,hd1⟩:=tk_ok (d:=d) hs rfl;cases ht:(tkB (l,false) d).2 with
  |true=>
   exact Fe
  |false=>
  rw[if_neg Bool.false_ne_true];have hd1:=hd1 ht;refine go ?_;refine AF (gtake_ok w2 B _ (d-1) a7 b0) rfl ?_;rintro _ w3⟨rfl,k3,hb3⟩;obtain⟨j4,hd3⟩:=tk_ok (d:=d-1) b0 ht;have c3:Keep [B] I w3:=k2.trans k3 (fun _ h _=>h);cases ht3:(tkB (tkB (l,false) d) (d-1)).2 with
  |true=>
   rw[if_pos rfl];refine go ?_;refine AI (cs:=zero5) rfl rfl rfl (AV rfl) ((A).D.E c3 EP) EV (fun w9 D=>?_);refine go ?_;have z9:=(A).size;exact AW rfl rfl rfl D.D.cells ⟨((A).E.any.trans c3 (fun _ h _=>h)).trans D.E (fun x h X=>by simp at h;omega),(hb3).E D.E EP,FAt.leaf _ _ 0 [] 0 0⟩
  |false=>
  rw[if_neg Bool.false_ne_true];have z2:=k2.size;have z3:=k3.size;refine go ?_;refine Ac (rd 0 9 (.alt 9 (.read 10 (.alt 11 .done .stop)) .stop)) Ap EO (fun N kd ed=>⟨fun V=>Keep [w.heap.size] N V,?_,?_⟩)
  ·exact Ff
  have e1:∀(i:Nat)(u:Value),w.cell? ⟨b,i,none⟩=some u->N.cell? ⟨b,i,none⟩=some u:=fun i u hu=>kd.cell (c3.cell (A.E.cell hu O) Ee) O;have s1:∀V,Keep [w.heap.size] N V->V.cell? ⟨b,o+1,none⟩=some (AL nm):=fun V e=>e.cell (e1 _ _ q1) EP;have s2:∀V,Keep [w.heap.size] N V->V.cell? ⟨b,o+2,none⟩=some (iV v):=fun V e=>e.cell (e1 _ _ q2) EP;refine go ?_;refine D_E rfl ?_;refine AP (out:=[iV 3,AL nm,iV v,iV 0,.slice none 0 0]) rfl U EZ (fun w4 n4=>?_);refine wNl n4.E.any ?_;refine go ?_;refine D_E rfl ?_;have zd:=kd.size;have z4:=n4.size;refine AI (cs:=[iV 4,AL [],iV 0,iV 0,.slice (sm N.heap.size) 1 1]) rfl rfl rfl (AV rfl) (((A.D.E c3 EP).E kd O).E n4.E O) EV (fun w9 D=>?_);refine wNl (n4.E.any.trans D.E (fun _ h _=>h)) ?_;refine go ?_;have hF:FsAt (fun b=>I.heap.size<=b) N [[iV 3,AL nm,iV v,iV 0,.slice none 0 0]] [⟨3,nm,v,0,[]⟩]:=FsAt.one (FAt.leaf _ _ 3 nm v 0) rfl;obtain⟨Z,h2⟩:=FsAt.fresh (L:=[[iV 3,AL nm,iV v,iV 0,.slice none 0 0]]) n4 hF U O;refine AW rfl rfl rfl D.D.cells ⟨?_,((hb3.E kd O).E n4.E O).E D.E EP,((FAt.node 4 [] 0 0 Z h2).E D.E (fun y E t=>by simp at t;omega)).mono fun y E=>by omega⟩;exact((A.E.any.trans c3 (fun _ h _=>h)).ext (kd.trans n4.E)).trans D.E (fun y E X=>by simp at E;omega)
 rw[if_neg h3];refine mO1 ?_;refine mO1 ?_;refine mO1 ?_;repeat first|refine nx rfl ?_|refine nf rfl ?_
 refine CA (α:=Unit) (fun _=>[(0,pt B),(1,.pointer (some ⟨b,o,none⟩)),(2,.bool neg),(3,iV d),(8,pt w.heap.size),(34,.bool false)]) (fun _ W=>W=I) ?_ ?_
 ·by_cases f5:z=3
  ·have h5:neg=false:=by
    cases neg with
    |false=>rfl
    |true=>exact absurd ⟨f5,rfl⟩ h3
   subst h5;exact FK
  ·exact FK
 rintro _ _ f1 e1;rw[e1];clear e1
 have f9:∀{a:Fml}{b' o':Nat},P[0]?=some a->aa=some ⟨b',o',none⟩->Fn Zp 149 [pt B,.pointer (some ⟨b,o,none⟩),iV bd,.bool neg,iV d] I fun u w'=>Keep [B] I w'/\BAt w' B (bdB z neg (fm0 P neg) bd.toNat d (l,false)).2/\FAt (fun x=>I.heap.size<=x) w' u (bdB z neg (fm0 P neg) bd.toNat d (l,false)).1:=fun{a b' o'}ha b6=>by
  have b3:=List.mem_of_getElem? ha;have Z:=Ce b3;have h2:=Bb b3;have h0:=(List.getElem?_eq_some_iff.1 ha).1;obtain⟨b2,o2,e2,e5⟩:=qa 0 a ha;rw[b6]at e2;cases e2;have e:bd=((bd.toNat:Nat):Int):=by omega
  have he:fm0 P neg=fmB a neg:=by
   cases P with
   |nil=>cases ha
   |cons c l'=>cases ha;rfl
  have hh:=gbounded_ok B neg z (fm0 P neg) b o b' o' P.length cc I U h8 (by rw[<-b6];exact i2) a4 U (fun d s hs=>fm0_ok P neg d s hs) (fun W d s kW h0 hd2 hs hb=>by
   rw[he];exact ih W b' _ a neg d s U U ((e5.E A.E (fun _ _=>by simp)).E kW (fun y E t=>by simp at t;exact E t)) (p7 a b3) h0 hd2 hs hb) bd.toNat I d (l,false) U (Keep.refl _ _) hd hd2 hs c0
  rw[<-e]at hh;exact hh
 by_cases h13:z=13\/z=14
 ·rw[if_pos h13];obtain⟨a,ha⟩:=gl (l:=P) (k:=0) (p1 (.inr h13));obtain⟨b',o',b6,_⟩:=qa 0 a ha;have f8:=f9 ha b6;have k0:∀(Q:Prop),Q->Q:=fun _ h=>h;rcases h13 with h13|h13
  ·refine go ?_;refine AF f8 rfl ?_;exact FA
  ·refine go ?_;refine AF f8 rfl ?_;exact FA
 rw[if_neg h13];clear f9;have i6:¬z=13:=fun h=>h13 (.inl h);have i7:¬z=14:=fun h=>h13 (.inr h);refine go ?_;refine AF (gtake_ok I B (l,false) d c0 hs) rfl ?_;rintro _ w2⟨rfl,k2,a7⟩;obtain⟨b0,hd1⟩:=tk_ok (d:=d) hs rfl;cases ht:(tkB (l,false) d).2 with
 |true=>
  exact Fe
 |false=>
 rw[if_neg Bool.false_ne_true];have hd1:=hd1 ht;have z2:=k2.size;refine go ?_;have j6:=z1;refine Ac (rd 0 4 (rd 5 8 (.alt 4 (.read 13 (.alt 14 (.alt 15 .done .stop) .stop)) (.alt 14 (.alt 4 (.read 13 (.alt 15 .done .stop)) .stop) .stop)))) Ap EO (fun N kd ed=>⟨Ext N,?_,?_⟩)
 ·exact FQ
 have e0:∀(i:Nat)(u:Value),w.cell? ⟨b,i,none⟩=some u->N.cell? ⟨b,i,none⟩=some u:=fun i u hu=>kd.cell (k2.cell (A.E.cell hu O) Ee) O;have s0:=e0 _ _ q0;have s1:=e0 _ _ q1;have s2:=e0 _ _ q2;refine go ?_;refine D_leaf (α:=Unit) (.alt 15 .done .stop) (fun _=>[(0,pt B),(1,.pointer (some ⟨b,o,none⟩)),(2,.bool neg),(3,iV d),(8,pt w.heap.size),(9,pt N.heap.size),(106,.agg #[iV (Dj z),AL nm,iV v,iV 0,.slice none 0 0])]) (fun _ W=>New N W 37 zero5) ?_ (fun b1=>?_)
 ·rintro _ f' W n4;refine D_E rfl ?_;refine AI (cs:=[iV (Dj z),AL nm,iV v,iV 0,.slice none 0 0]) rfl rfl rfl (AV rfl) n4.D EV (fun w5 p5=>?_);refine AA ⟨Ext N,fun _ e=>e,n4.E.E p5.E O,?_⟩;clear s0 s1 s2;have zd:=kd.size;have z4:=n4.size;have z5:=p5.size;obtain⟨F,g0⟩:∃F,F=N.heap.size:=⟨_,rfl⟩;have c5b:Blk w5 F 37 [iV (Dj z),AL nm,iV v,iV 0,.slice none 0 0]:=by rw[g0];exact p5.D
  have kd5:Ext N w5:=n4.E.E p5.E O;have e9:Keep [B] I w5:=(k2.ext kd).ext kd5;have g5:Keep [B] w w5:=A.E.any.trans e9 (fun _ h _=>h);have hb5:=(a7.E kd O).E kd5 O;have zb5:=A.D.E e9 EP;rw[<-g0];have i9:I.heap.size<=F:=by omega
  have h1:F<w5.heap.size:=c5b.lt;clear n4 p5 kd5 a7 kd ed e0;refine go ?_
  refine CA (α:=Unit) (fun _=>[(0,pt B),(1,.pointer (some ⟨b,o,none⟩)),(2,.bool neg),(3,iV d),(8,pt w.heap.size),(9,pt F)])
   (fun _ W=>Keep [B] w W/\BAt W B (tkB (l,false) d)/\Blk W F 37 [iV (negM neg (Dj z)),AL nm,iV v,iV 0,.slice none 0 0]/\Blk W w.heap.size 37 zero5/\F<W.heap.size) ?_ ?_
  ·cases neg with
   |false=>
    refine go ?_;exact Aj () ag ⟨g5,hb5,c5b,zb5,h1⟩
   |true=>
    refine go ?_;refine AF (dual_ok w5 (Dj z)) rfl ?_;rintro _ w5⟨rfl,rfl⟩;refine go ?_;refine AU (v:=iV (dualM (Dj z))) rfl rfl rfl c5b O (fun w6 p6=>go ?_);exact Aj () ag ⟨g5.trans p6.E (fun x h X=>by simp at h;omega),hb5.E p6.E EP,p6.D,zb5.E p6.E EP,by have:=p6.size;omega⟩
  clear c5b hb5 zb5 e9;rintro _ W f6⟨kW,a3,cW,zW,lW⟩;have g6:=kW.cell q0 Ee;have i1:=kW.cell q2 Ee;have zz:I.heap.size<=W.heap.size:=by omega
  obtain⟨a6,g3⟩:∃a6,a6=negM neg (Dj z):=⟨_,rfl⟩;rw[<-g3]at cW⊢;obtain⟨ln,a5⟩:∃ln,ln=lnF z v neg d (tkB (l,false) d):=⟨_,rfl⟩;rw[<-a5];unfold lnF at a5;rw[<-g3]at a5;repeat refine nx rfl ?_
  (refine AJ (AX rfl (AG rfl (AB rfl (AH rfl ER ?_))))<;>refine AA ?_)
  refine Q_then ?_
  refine CA (α:=Value×List (LV)) (fun _=>[(0,pt B),(1,.pointer (some ⟨b,o,none⟩)),(2,.bool neg),(3,iV d),(8,pt w.heap.size),(9,pt F)])
   (fun y W=>Keep [B] w W/\BAt W B ln.2.2/\Bld I W F a6 nm ln.1 0 ln.2.1 y.1 y.2/\Blk W w.heap.size 37 zero5/\F<W.heap.size) ?_ ?_
  ·by_cases d7:z=15
   ·have K:ln=(D3 z v neg,[],tkB (l,false) d):=by rw[a5,if_neg (by simp[isLn,d7])]
    rw[K];cases neg with
    |false=>
     exact Fg
    |true=>
     have hv:D3 z v true=1-v:=by simp[D3,isPs,d7]
     exact FN
   by_cases d8:z=16
   ·have K:ln=(D3 z v neg,[],tkB (l,false) d):=by rw[a5,if_neg (by simp[isLn,d8])]
    rw[K];cases neg with
    |false=>
     exact Fg
    |true=>
     have hv:D3 z v true=1-v:=by simp[D3,isPs,d8]
     exact FN
   by_cases d9:z=17
   ·have K:ln=(D3 z v neg,[],tkB (l,false) d):=by rw[a5,if_neg (by simp[isLn,d9])]
    rw[K];cases neg with
    |false=>
     exact Fg
    |true=>
     have hv:D3 z v true=1-v:=by simp[D3,isPs,d9]
     exact FN
   by_cases d5:z=11
   ·have K:ln=lnB a6 (D3 z v neg) d (tkB (l,false) d):=by rw[a5,if_pos (by simp[isLn,d5])]
    have hv:D3 z v neg=v:=by simp[D3,isPs,d5]
    exact E5
   by_cases d6:z=12
   ·have K:ln=lnB a6 (D3 z v neg) d (tkB (l,false) d):=by rw[a5,if_pos (by simp[isLn,d6])]
    have hv:D3 z v neg=v:=by simp[D3,isPs,d6]
    exact E5
   by_cases h18:z=18
   ·have K:ln=lnB a6 (D3 z v neg) d (tkB (l,false) d):=by rw[a5,if_pos (by simp[isLn,h18])]
    have hv:D3 z v neg=v:=by simp[D3,isPs,h18]
    exact E5
   by_cases h19:z=19
   ·have K:ln=lnB a6 (D3 z v neg) d (tkB (l,false) d):=by rw[a5,if_pos (by simp[isLn,h19])]
    have hv:D3 z v neg=v:=by simp[D3,isPs,h19]
    exact E5
   have K:ln=(v,[],tkB (l,false) d):=by rw[a5,if_neg (by simp[isLn,d5,d6,h18,h19]),show D3 z v neg=v by simp[D3,isPs,d7,d8,d9]]
   rw[K];refine go ?_;exact Aj (.slice none 0 0,[]) ag ⟨kW,a3,Bld.start cW,zW,lW⟩
  clear a3 cW zW g6 i1;rintro⟨v0,L0⟩W0 f2⟨f0,f7,d4,i3,hcW0⟩;simp only at d4;have q4W:=f0.cell q4 Ee;have k1:=f0.size;obtain⟨sl,e6⟩:∃sl,sl=ln.2.2:=⟨_,rfl⟩;obtain⟨c5,d0⟩:∃c5,c5=ln.2.1:=⟨_,rfl⟩;obtain⟨vk,e7⟩:∃vk,vk=ln.1:=⟨_,rfl⟩
  have g9:bsOk sl:=by
   rw[e6,a5]
   split
   ·unfold lnB;have t2:=(tk_ok (d:=d-1) b0 ht).1
    split<;>exact t2
   ·exact b0
  have j3:c5.length<=1:=by
   rw[d0,a5]
   split
   ·unfold lnB
    split<;>simp
   ·simp
  rw[<-e6]at f7⊢;rw[<-d0,<-e7]at d4;rw[<-d0,<-e7];clear a5 e6 d0 e7;refine go ?_
  refine Ar (α:=Nat×Value×List (LV)) (fun y=>[(0,pt B),(1,.pointer (some ⟨b,o,none⟩)),(2,.bool neg),(3,iV d),(8,pt w.heap.size),(9,pt F),(139,iV (P.length:Int)),(140,iV (y.1:Int))])
   (fun y W=>y.1<=P.length/\Keep [B] w W/\BAt W B (fmL (z==7) (P.take y.1) neg (d-1) sl).2/\Bld I W F a6 nm vk 0 (c5++(fmL (z==7) (P.take y.1) neg (d-1) sl).1) y.2.1 y.2.2/\Blk W w.heap.size 37 zero5/\F<W.heap.size) (fun y=>P.length-y.1) (0,v0,L0) ag
   ⟨by simp,f0,by simpa[fmL]using f7,by simpa[fmL]using d4,i3,hcW0⟩ ?_
  rintro⟨k,v0,L0⟩W fr⟨hk,kW,a3,bW,zW,hcW⟩;simp only at hk kW a3 bW zW hcW;have q4W:=kW.cell q4 Ee;have g6:=kW.cell q0 Ee;repeat refine nx rfl ?_
  by_cases X:k<P.length
  ·(refine AJ ?_<;>(refine C6 rfl rfl (fun hc=>?_) (fun hc=>?_)<;>try omega))
   repeat refine nx rfl ?_
   refine AJ (AS rfl (AO (AS rfl ?_)));repeat refine nx rfl ?_
   obtain⟨x,hx⟩:=gl X;obtain⟨d3,d1⟩:∃d3,d3=(neg !=(z==7&&k==0)):=⟨_,rfl⟩;refine CA (α:=Unit) (fun _=>[(0,pt B),(1,.pointer (some ⟨b,o,none⟩)),(2,.bool neg),(3,iV d),(8,pt w.heap.size),(9,pt F),(10,iV (k:Int)),(11,.bool d3),(139,iV (P.length:Int)),(140,iV (k:Int))]) (fun _ W'=>W'=W) ?_ ?_
   ·by_cases h7:z=7
    ·by_cases g2:k=0
     ·rw[d1,show(z==7&&k==0)=true by simp[h7,g2]];exact FK
     ·rw[d1,show(z==7&&k==0)=false by simp[g2]];exact FK
    ·rw[d1,show(z==7&&k==0)=false by simp[h7]];exact FK
   rintro _ _ f3 e3;rw[e3];clear e3;obtain⟨b',o',b6,h6⟩:=qa k x hx;subst b6;have e4:=List.mem_of_getElem? hx;have j0:=Ce e4;have j8:=Bb e4;obtain⟨Rk,c9⟩:∃Rk,Rk=fmL (z==7) (P.take k) neg (d-1) sl:=⟨_,rfl⟩;have g8:Rk.1.length=k:=by rw[c9,fmL_len,List.length_take];omega
   have hsk:bsOk Rk.2:=by rw[c9];exact fmL_ok _ _ _ _ _ g9
   rw[<-c9]at a3 bW;obtain⟨rx,g4⟩:∃rx,rx=fmB x (neg !=(z==7&&k==0)) (d-1) Rk.2:=⟨_,rfl⟩;have a9:=fmL_snoc P k x (z==7) neg (d-1) sl hx;rw[<-c9,<-g4]at a9;obtain⟨lk,b7⟩:∃lk,lk=c5++Rk.1:=⟨_,rfl⟩;have j2:lk.length+1<=1002:=by rw[b7,List.length_append,g8];omega
   rw[<-b7]at bW
   have c2:∀W,PF (fun b=>b≠B) W b' (o'+k*5) x->BAt W B Rk.2->FnF B W b' (o'+k*5) d3 (d-1) Rk.2 rx:=fun W hp hb=>by
    rw[g4,d1];exact ih W b' _ x _ (d-1) _ U U hp (p7 x e4) U U hsk hb
   refine go ?_;refine Ac (.read 0 (rd 2 10 (.alt 1 (.read 13 (.alt 12 (.alt 14 (.alt 15 (.read 16 (.read 18 (.alt 17 (.alt 19 .done .stop) (.alt 19 (.alt 17 .done .stop) .stop)))) .stop) .stop) (.alt 14 (.alt 12 (.alt 15 (.read 16 (.read 18 (.alt 17 (.alt 19 .done .stop) (.alt 19 (.alt 17 .done .stop) .stop)))) .stop) .stop) .stop))) (.alt 12 (.alt 1 (.read 13 (.alt 14 (.alt 15 (.read 16 (.read 18 (.alt 17 (.alt 19 .done .stop) (.alt 19 (.alt 17 .done .stop) .stop)))) .stop) .stop)) (.alt 14 (.alt 1 (.read 13 (.alt 15 (.read 16 (.read 18 (.alt 17 (.alt 19 .done .stop) (.alt 19 (.alt 17 .done .stop) .stop)))) .stop)) .stop) .stop)) (.alt 14 (.alt 1 (.read 13 (.alt 12 (.alt 15 (.read 16 (.read 18 (.alt 17 (.alt 19 .done .stop) (.alt 19 (.alt 17 .done .stop) .stop)))) .stop) .stop)) (.alt 12 (.alt 1 (.read 13 (.alt 15 (.read 16 (.read 18 (.alt 17 (.alt 19 .done .stop) (.alt 19 (.alt 17 .done .stop) .stop)))) .stop)) .stop) .stop)) .stop))))) Ap EO (fun N kd ed=>⟨fun V=>V.cell? ⟨b,o+4,none⟩=some (.slice (some ⟨b',o',none⟩) P.length cc),?_,?_⟩)
   ·exact kd.cell q4W O
   have ca:∀V:World,V.cell? ⟨b,o+4,none⟩=some (.slice (some ⟨b',o',none⟩) P.length cc)->V.cell? ⟨b,o+4,none⟩=some (.slice (some ⟨b',o',none⟩) P.length cc):=fun V e=>e;refine go ?_;have b4:Keep [B] w N:=kW.ext kd;have a0:=bW.ext kd;have b8:=zW.E kd O;have zdz:=kd.size;have b5:Keep [B] N N:=Keep.refl _ _;have c7:=a3.E kd O;have b9:=a0.D;have c6:N.cell? ⟨b,o+4,none⟩=some (.slice (some ⟨b',o',none⟩) P.length cc):=kd.cell q4W O;have e8:∀V,Keep [B] N V->PF (fun b=>b≠B) V b' (o'+k*5) x:=fun V e=>h6.E (b4.trans e (fun _ h _=>h)) (fun y E t=>by simp at t;exact E t);have g7:=e8 N b5
   obtain⟨vp,vc,rfl⟩:∃p c,v0=.slice p lk.length c:=by
    rcases a0.own.2 with⟨e,h0⟩|⟨g,i4,i5,e,_⟩
    ·exact⟨none,0,by rw[e,h0]⟩
    ·exact⟨_,_,e⟩
   have a2:∀g,(Value.slice vp lk.length vc).ownBlock=some g->I.heap.size<=g/\g<N.heap.size/\g≠F:=fun g r=>⟨(An a0.own r).1,(An a0.own r).2,a0.ne g r⟩;have G:∀y∈(Value.slice vp lk.length vc).ownBlock.toList,I.heap.size<=y/\y<N.heap.size/\y≠F:=fun y E=>a2 y (Option.mem_toList.1 E)
   refine D_leaf (α:=Value×LV) (.read 16 (.read 18 (.alt 17 (.alt 19 .done .stop) (.alt 19 (.alt 17 .done .stop) .stop)))) (fun y=>[(0,pt B),(1,.pointer (some ⟨b,o,none⟩)),(2,.bool neg),(3,iV d),(8,pt w.heap.size),(9,pt F),(139,iV (P.length:Int)),(140,iV (k:Int)),(166,.agg y.2.toArray),(167,iV (lk.length:Int)),(169,y.1)])
    (fun y V=>Keep [B] w V/\BAt V B rx.2/\Blk V F 37 [iV a6,AL nm,iV vk,iV 0,.slice vp lk.length vc]/\V.ownsRow I.heap.size 37 5 y.1 (lk.length+1) (L0.flatten++zero5)/\y.2.length=5/\oneC y.2/\(∀g,y.1.ownBlock=some g->g≠F)/\
     FAt (fun b=>(I.heap.size<=b/\b≠F)/\y.1.ownBlock≠some b) V (.agg y.2.toArray) rx.1/\FsAt (fun b=>(I.heap.size<=b/\b≠F)/\y.1.ownBlock≠some b) V L0 lk/\Blk V w.heap.size 37 zero5/\F<V.heap.size) ?_ (fun b1=>?_)
   ·rintro⟨R,S⟩f' V⟨kV,bV,cV,oV,C,a1,c1,fV,sV,zV,lV⟩;simp only at oV C a1 c1 fV sV;obtain⟨g,f4,M,rfl,r,bM,hM,h9,i0⟩:=own_set (cs:=S) oV (by rw[a0.fs.flat]) C cV c1;have j1:g≠B:=by omega
    have g1:g≠F:=c1 g rfl;have d2:=kV.cell q4 Ee;have j5:=kV.size;refine go ?_;refine D_A rfl ?_ (D_E rfl ?_)
    ·refine AI (o:=0+lk.length*5) (cs:=S) rfl rfl C a1 bM U (fun w8 p8=>?_);refine wNl (p8.E.cell d2 EP) ?_;refine D_E rfl ?_;refine AU rfl rfl rfl (cV.E p8.E (by simpa using g1.symm)) O (fun w9 D=>?_);refine wNl (D.E.cell (p8.E.cell d2 EP) EP) ?_;rw[Nat.zero_add]at p8;obtain⟨kE,cE,oE⟩:=h9 w8 w9 p8 D;refine go ?_;have a9:=a9;refine⟨(k+1,.slice (sm g) _ f4,L0++[S]),⟨rfl,ag,⟨by simp only;omega,kV.trans kE (fun y E X=>by simp at E;rcases E with rfl|rfl;omega;omega),?_,⟨cE,?_,?_,fun g' hg'=>c1 g' hg'⟩,zV.E kE EP,by have:=kE.size;omega⟩⟩,by simp only;omega⟩
     ·simp only;rw[a9];exact bV.E kE EP
     ·simp only;rw[a9,<-List.append_assoc,<-b7];exact own_snoc oE
     ·exact GM
    ·refine AU rfl rfl rfl cV O (fun w8 p8=>?_);refine wNl (p8.E.cell d2 EP) ?_;refine D_E rfl ?_;refine AI (o:=0+lk.length*5) (cs:=S) rfl rfl C a1 (bM.E p8.E (by simpa using g1)) U (fun w9 D=>?_);refine wNl (D.E.cell (p8.E.cell d2 EP) EP) ?_;rw[Nat.zero_add]at D;obtain⟨kE,cE,oE⟩:=i0 w8 w9 p8 D;refine go ?_;have a9:=a9;refine⟨(k+1,.slice (sm g) _ f4,L0++[S]),⟨rfl,ag,⟨by simp only;omega,kV.trans kE (fun y E X=>by simp at E;rcases E with rfl|rfl;omega;omega),?_,⟨cE,?_,?_,fun g' hg'=>c1 g' hg'⟩,zV.E kE EP,by have:=kE.size;omega⟩⟩,by simp only;omega⟩
     ·simp only;rw[a9];exact bV.E kE EP
     ·simp only;rw[a9,<-List.append_assoc,<-b7];exact own_snoc oE
     ·exact GM
   refine D_A rfl ?_ (D_A rfl ?_ (D_E rfl ?_))
   ·refine AH rfl (b9.cell (o:=4) rfl) ?_;refine wNl c6 ?_;refine go ?_;refine D_A rfl ?_ (D_E rfl ?_)
    ·refine AF (c2 N g7 c7) rfl ?_;rintro u8 wA⟨m,bA,T⟩;obtain⟨S,rfl,C,a1⟩:=T.cells;obtain⟨x0,x1,x2,x3,x4,rfl⟩:=Ak C;have kA:Keep [B] N wA:=b5.trans m (fun _ h _=>h);have cA:=b9.E m EP;have sA:=m.cell c6 Ee;have gA:FAt (fun b=>N.heap.size<=b) wA (.agg [x0,x1,x2,x3,x4].toArray) rx.1:=T.mono fun y E=>Nat.le_trans b5.size E;refine wNl sA ?_;refine D_E rfl ?_;refine AP (out:=zero5) rfl U EZ (fun wB H=>?_);have kB:Keep [B] N wB:=kA.ext H.E;have cB:=cA.E H.E O;have bB:=bA.E H.E O;have sB:=H.E.cell sA O;have oz:=H.own (n:=1) (size:=5) rfl EW (Nat.le_refl _);refine wNl sB ?_;have gB:=gA.E H.E (fun _ _=>by simp);refine D_E rfl ?_;refine Ax (ok:=Af) (v:=.slice vp lk.length vc) rfl rfl (Ai a0.own kB (fun g r t=>by have:=(An a0.own r).1;simp at t;omega)) (Aa (oz) fun _ _=>trivial) U rfl rfl (AV rfl) U U Er (fun R w8 q=>?_);refine wNl (q.E.cell sB (fun E=>by have:=(G _ E).1;omega)) ?_;have zk:=kB.size
     have j:∀g,R.ownBlock=some g->I.heap.size<=g/\g≠F/\((Value.slice vp lk.length vc).ownBlock=some g\/wB.heap.size<=g):=fun g r=>by
      rcases q.D with e|e
      ·rw[e]at r;exact⟨(a2 g r).1,(a2 g r).2.2,.inl r⟩
      ·rw[e]at r;obtain rfl:=Option.some.inj r;exact⟨by omega,by omega,.inr (Nat.le_refl _)⟩
     exact b1 (R,[x0,x1,x2,x3,x4]) _ _ ag ⟨(b4.trans kB (fun _ h _=>h)).trans q.E (fun y E X=>by have:=(G y E).1;omega),bB.E q.E (fun E=>by have:=(G _ E).1;omega),cB.E q.E (fun E=>(G _ E).2.2 rfl),q.own,rfl,a1,(fun g r=>(j g r).2.1),
      (gB.lt.E q.E (fun y E t=>by have:=(G y t).2.1;have:=E.1;omega)).mono fun y E=>⟨⟨by have:=E.1;omega,by have:=E.1;omega⟩,fun e=>by have Z:=(j y e).2.2;have h2:=E.1;have h3:=E.2;rcases Z with Z|Z;have:=(a2 y Z).2.1;omega;omega⟩,
      ((a0.fs.lt.E kB (fun y E t=>by have:=E.1.1.1;simp at t;omega)).E q.E (fun y E t=>E.1.2 (Option.mem_toList.1 t))).mono fun y E=>⟨E.1.1,fun e=>by have Z:=(j y e).2.2;have h2:=E.2;rcases Z with Z|Z;exact E.1.2 Z;omega⟩,
      (b8.E kB EP).E q.E (fun E=>by have:=(G _ E).1;omega),by have:=q.E.size;omega⟩
    ·refine AP (out:=zero5) rfl U EZ (fun wA H=>?_);have kA:Keep [B] N wA:=b5.ext H.E;have cA:=b9.E H.E O;have bA:=c7.E H.E O;have sA:=H.E.cell c6 O;have oz:=H.own (n:=1) (size:=5) rfl EW (Nat.le_refl _);refine wNl sA ?_;have xA:=e8 wA kA;refine D_E rfl ?_;refine AF (c2 wA xA bA) rfl ?_;rintro u8 wB⟨m,bB,T⟩;obtain⟨S,rfl,C,a1⟩:=T.cells;obtain⟨x0,x1,x2,x3,x4,rfl⟩:=Ak C;have kB:Keep [B] N wB:=kA.trans m (fun _ h _=>h);have cB:=cA.E m EP;have sB:=m.cell sA Ee;have gB:FAt (fun b=>N.heap.size<=b) wB (.agg [x0,x1,x2,x3,x4].toArray) rx.1:=T.mono fun y E=>Nat.le_trans kA.size E;refine wNl sB ?_;have c4:=Ai oz m (fun g r t=>by have:=(An oz r).1;simp at t;omega);refine D_E rfl ?_;refine Ax (ok:=Af) (v:=.slice vp lk.length vc) rfl rfl (Ai a0.own kB (fun g r t=>by have:=(An a0.own r).1;simp at t;omega)) (Aa (c4) fun _ _=>trivial) U rfl rfl (AV rfl) U U Er (fun R w8 q=>?_);refine wNl (q.E.cell sB (fun E=>by have:=(G _ E).1;omega)) ?_;have zk:=kB.size
     have j:∀g,R.ownBlock=some g->I.heap.size<=g/\g≠F/\((Value.slice vp lk.length vc).ownBlock=some g\/wB.heap.size<=g):=fun g r=>by
      rcases q.D with e|e
      ·rw[e]at r;exact⟨(a2 g r).1,(a2 g r).2.2,.inl r⟩
      ·rw[e]at r;obtain rfl:=Option.some.inj r;exact⟨by omega,by omega,.inr (Nat.le_refl _)⟩
     exact b1 (R,[x0,x1,x2,x3,x4]) _ _ ag ⟨(b4.trans kB (fun _ h _=>h)).trans q.E (fun y E X=>by have:=(G y E).1;omega),bB.E q.E (fun E=>by have:=(G _ E).1;omega),cB.E q.E (fun E=>(G _ E).2.2 rfl),q.own,rfl,a1,(fun g r=>(j g r).2.1),
      (gB.lt.E q.E (fun y E t=>by have:=(G y t).2.1;have:=E.1;omega)).mono fun y E=>⟨⟨by have:=E.1;omega,by have:=E.1;omega⟩,fun e=>by have Z:=(j y e).2.2;have h2:=E.1;have h3:=E.2;rcases Z with Z|Z;have:=(a2 y Z).2.1;omega;omega⟩,
      ((a0.fs.lt.E kB (fun y E t=>by have:=E.1.1.1;simp at t;omega)).E q.E (fun y E t=>E.1.2 (Option.mem_toList.1 t))).mono fun y E=>⟨E.1.1,fun e=>by have Z:=(j y e).2.2;have h2:=E.2;rcases Z with Z|Z;exact E.1.2 Z;omega⟩,
      (b8.E kB EP).E q.E (fun E=>by have:=(G _ E).1;omega),by have:=q.E.size;omega⟩
   ·refine AF (c2 N g7 c7) rfl ?_;rintro u8 wA⟨m,bA,T⟩;obtain⟨S,rfl,C,a1⟩:=T.cells;obtain⟨x0,x1,x2,x3,x4,rfl⟩:=Ak C;have kA:Keep [B] N wA:=b5.trans m (fun _ h _=>h);have cA:=b9.E m EP;have sA:=m.cell c6 Ee;have gA:FAt (fun b=>N.heap.size<=b) wA (.agg [x0,x1,x2,x3,x4].toArray) rx.1:=T.mono fun y E=>Nat.le_trans b5.size E;refine wNl sA ?_;refine D_A rfl ?_ (D_E rfl ?_)
    ·refine AH rfl (cA.cell (o:=4) rfl) ?_;refine wNl sA ?_;refine go ?_;refine D_E rfl ?_;refine AP (out:=zero5) rfl U EZ (fun wB H=>?_);have kB:Keep [B] N wB:=kA.ext H.E;have cB:=cA.E H.E O;have bB:=bA.E H.E O;have sB:=H.E.cell sA O;have oz:=H.own (n:=1) (size:=5) rfl EW (Nat.le_refl _);refine wNl sB ?_;have gB:=gA.E H.E (fun _ _=>by simp);refine D_E rfl ?_;refine Ax (ok:=Af) (v:=.slice vp lk.length vc) rfl rfl (Ai a0.own kB (fun g r t=>by have:=(An a0.own r).1;simp at t;omega)) (Aa (oz) fun _ _=>trivial) U rfl rfl (AV rfl) U U Er (fun R w8 q=>?_);refine wNl (q.E.cell sB (fun E=>by have:=(G _ E).1;omega)) ?_;have zk:=kB.size
     have j:∀g,R.ownBlock=some g->I.heap.size<=g/\g≠F/\((Value.slice vp lk.length vc).ownBlock=some g\/wB.heap.size<=g):=fun g r=>by
      rcases q.D with e|e
      ·rw[e]at r;exact⟨(a2 g r).1,(a2 g r).2.2,.inl r⟩
      ·rw[e]at r;obtain rfl:=Option.some.inj r;exact⟨by omega,by omega,.inr (Nat.le_refl _)⟩
     exact b1 (R,[x0,x1,x2,x3,x4]) _ _ ag ⟨(b4.trans kB (fun _ h _=>h)).trans q.E (fun y E X=>by have:=(G y E).1;omega),bB.E q.E (fun E=>by have:=(G _ E).1;omega),cB.E q.E (fun E=>(G _ E).2.2 rfl),q.own,rfl,a1,(fun g r=>(j g r).2.1),
      (gB.lt.E q.E (fun y E t=>by have:=(G y t).2.1;have:=E.1;omega)).mono fun y E=>⟨⟨by have:=E.1;omega,by have:=E.1;omega⟩,fun e=>by have Z:=(j y e).2.2;have h2:=E.1;have h3:=E.2;rcases Z with Z|Z;have:=(a2 y Z).2.1;omega;omega⟩,
      ((a0.fs.lt.E kB (fun y E t=>by have:=E.1.1.1;simp at t;omega)).E q.E (fun y E t=>E.1.2 (Option.mem_toList.1 t))).mono fun y E=>⟨E.1.1,fun e=>by have Z:=(j y e).2.2;have h2:=E.2;rcases Z with Z|Z;exact E.1.2 Z;omega⟩,
      (b8.E kB EP).E q.E (fun E=>by have:=(G _ E).1;omega),by have:=q.E.size;omega⟩
    ·refine AP (out:=zero5) rfl U EZ (fun wB H=>?_);have kB:Keep [B] N wB:=kA.ext H.E;have cB:=cA.E H.E O;have bB:=bA.E H.E O;have sB:=H.E.cell sA O;have oz:=H.own (n:=1) (size:=5) rfl EW (Nat.le_refl _);refine wNl sB ?_;have gB:=gA.E H.E (fun _ _=>by simp);refine D_E rfl ?_;refine AH rfl (cB.cell (o:=4) rfl) ?_;refine wNl sB ?_;refine go ?_;refine D_E rfl ?_;refine Ax (ok:=Af) (v:=.slice vp lk.length vc) rfl rfl (Ai a0.own kB (fun g r t=>by have:=(An a0.own r).1;simp at t;omega)) (Aa (oz) fun _ _=>trivial) U rfl rfl (AV rfl) U U Er (fun R w8 q=>?_);refine wNl (q.E.cell sB (fun E=>by have:=(G _ E).1;omega)) ?_;have zk:=kB.size
     have j:∀g,R.ownBlock=some g->I.heap.size<=g/\g≠F/\((Value.slice vp lk.length vc).ownBlock=some g\/wB.heap.size<=g):=fun g r=>by
      rcases q.D with e|e
      ·rw[e]at r;exact⟨(a2 g r).1,(a2 g r).2.2,.inl r⟩
      ·rw[e]at r;obtain rfl:=Option.some.inj r;exact⟨by omega,by omega,.inr (Nat.le_refl _)⟩
     exact b1 (R,[x0,x1,x2,x3,x4]) _ _ ag ⟨(b4.trans kB (fun _ h _=>h)).trans q.E (fun y E X=>by have:=(G y E).1;omega),bB.E q.E (fun E=>by have:=(G _ E).1;omega),cB.E q.E (fun E=>(G _ E).2.2 rfl),q.own,rfl,a1,(fun g r=>(j g r).2.1),
      (gB.lt.E q.E (fun y E t=>by have:=(G y t).2.1;have:=E.1;omega)).mono fun y E=>⟨⟨by have:=E.1;omega,by have:=E.1;omega⟩,fun e=>by have Z:=(j y e).2.2;have h2:=E.1;have h3:=E.2;rcases Z with Z|Z;have:=(a2 y Z).2.1;omega;omega⟩,
      ((a0.fs.lt.E kB (fun y E t=>by have:=E.1.1.1;simp at t;omega)).E q.E (fun y E t=>E.1.2 (Option.mem_toList.1 t))).mono fun y E=>⟨E.1.1,fun e=>by have Z:=(j y e).2.2;have h2:=E.2;rcases Z with Z|Z;exact E.1.2 Z;omega⟩,
      (b8.E kB EP).E q.E (fun E=>by have:=(G _ E).1;omega),by have:=q.E.size;omega⟩
   ·refine AP (out:=zero5) rfl U EZ (fun wA H=>?_);have kA:Keep [B] N wA:=b5.ext H.E;have cA:=b9.E H.E O;have bA:=c7.E H.E O;have sA:=H.E.cell c6 O;have oz:=H.own (n:=1) (size:=5) rfl EW (Nat.le_refl _);refine wNl sA ?_;have xA:=e8 wA kA;refine D_A rfl ?_ (D_E rfl ?_)
    ·refine AH rfl (cA.cell (o:=4) rfl) ?_;refine wNl sA ?_;refine go ?_;refine D_E rfl ?_;refine AF (c2 wA xA bA) rfl ?_;rintro u8 wB⟨m,bB,T⟩;obtain⟨S,rfl,C,a1⟩:=T.cells;obtain⟨x0,x1,x2,x3,x4,rfl⟩:=Ak C;have kB:Keep [B] N wB:=kA.trans m (fun _ h _=>h);have cB:=cA.E m EP;have sB:=m.cell sA Ee;have gB:FAt (fun b=>N.heap.size<=b) wB (.agg [x0,x1,x2,x3,x4].toArray) rx.1:=T.mono fun y E=>Nat.le_trans kA.size E;refine wNl sB ?_;have c4:=Ai oz m (fun g r t=>by have:=(An oz r).1;simp at t;omega);refine D_E rfl ?_;refine Ax (ok:=Af) (v:=.slice vp lk.length vc) rfl rfl (Ai a0.own kB (fun g r t=>by have:=(An a0.own r).1;simp at t;omega)) (Aa (c4) fun _ _=>trivial) U rfl rfl (AV rfl) U U Er (fun R w8 q=>?_);refine wNl (q.E.cell sB (fun E=>by have:=(G _ E).1;omega)) ?_;have zk:=kB.size
     have j:∀g,R.ownBlock=some g->I.heap.size<=g/\g≠F/\((Value.slice vp lk.length vc).ownBlock=some g\/wB.heap.size<=g):=fun g r=>by
      rcases q.D with e|e
      ·rw[e]at r;exact⟨(a2 g r).1,(a2 g r).2.2,.inl r⟩
      ·rw[e]at r;obtain rfl:=Option.some.inj r;exact⟨by omega,by omega,.inr (Nat.le_refl _)⟩
     exact b1 (R,[x0,x1,x2,x3,x4]) _ _ ag ⟨(b4.trans kB (fun _ h _=>h)).trans q.E (fun y E X=>by have:=(G y E).1;omega),bB.E q.E (fun E=>by have:=(G _ E).1;omega),cB.E q.E (fun E=>(G _ E).2.2 rfl),q.own,rfl,a1,(fun g r=>(j g r).2.1),
      (gB.lt.E q.E (fun y E t=>by have:=(G y t).2.1;have:=E.1;omega)).mono fun y E=>⟨⟨by have:=E.1;omega,by have:=E.1;omega⟩,fun e=>by have Z:=(j y e).2.2;have h2:=E.1;have h3:=E.2;rcases Z with Z|Z;have:=(a2 y Z).2.1;omega;omega⟩,
      ((a0.fs.lt.E kB (fun y E t=>by have:=E.1.1.1;simp at t;omega)).E q.E (fun y E t=>E.1.2 (Option.mem_toList.1 t))).mono fun y E=>⟨E.1.1,fun e=>by have Z:=(j y e).2.2;have h2:=E.2;rcases Z with Z|Z;exact E.1.2 Z;omega⟩,
      (b8.E kB EP).E q.E (fun E=>by have:=(G _ E).1;omega),by have:=q.E.size;omega⟩
    ·refine AF (c2 wA xA bA) rfl ?_;rintro u8 wB⟨m,bB,T⟩;obtain⟨S,rfl,C,a1⟩:=T.cells;obtain⟨x0,x1,x2,x3,x4,rfl⟩:=Ak C;have kB:Keep [B] N wB:=kA.trans m (fun _ h _=>h);have cB:=cA.E m EP;have sB:=m.cell sA Ee;have gB:FAt (fun b=>N.heap.size<=b) wB (.agg [x0,x1,x2,x3,x4].toArray) rx.1:=T.mono fun y E=>Nat.le_trans kA.size E;refine wNl sB ?_;have c4:=Ai oz m (fun g r t=>by have:=(An oz r).1;simp at t;omega);refine D_E rfl ?_;refine AH rfl (cB.cell (o:=4) rfl) ?_;refine wNl sB ?_;refine go ?_;refine D_E rfl ?_;refine Ax (ok:=Af) (v:=.slice vp lk.length vc) rfl rfl (Ai a0.own kB (fun g r t=>by have:=(An a0.own r).1;simp at t;omega)) (Aa (c4) fun _ _=>trivial) U rfl rfl (AV rfl) U U Er (fun R w8 q=>?_);refine wNl (q.E.cell sB (fun E=>by have:=(G _ E).1;omega)) ?_;have zk:=kB.size
     have j:∀g,R.ownBlock=some g->I.heap.size<=g/\g≠F/\((Value.slice vp lk.length vc).ownBlock=some g\/wB.heap.size<=g):=fun g r=>by
      rcases q.D with e|e
      ·rw[e]at r;exact⟨(a2 g r).1,(a2 g r).2.2,.inl r⟩
      ·rw[e]at r;obtain rfl:=Option.some.inj r;exact⟨by omega,by omega,.inr (Nat.le_refl _)⟩
     exact b1 (R,[x0,x1,x2,x3,x4]) _ _ ag ⟨(b4.trans kB (fun _ h _=>h)).trans q.E (fun y E X=>by have:=(G y E).1;omega),bB.E q.E (fun E=>by have:=(G _ E).1;omega),cB.E q.E (fun E=>(G _ E).2.2 rfl),q.own,rfl,a1,(fun g r=>(j g r).2.1),
      (gB.lt.E q.E (fun y E t=>by have:=(G y t).2.1;have:=E.1;omega)).mono fun y E=>⟨⟨by have:=E.1;omega,by have:=E.1;omega⟩,fun e=>by have Z:=(j y e).2.2;have h2:=E.1;have h3:=E.2;rcases Z with Z|Z;have:=(a2 y Z).2.1;omega;omega⟩,
      ((a0.fs.lt.E kB (fun y E t=>by have:=E.1.1.1;simp at t;omega)).E q.E (fun y E t=>E.1.2 (Option.mem_toList.1 t))).mono fun y E=>⟨E.1.1,fun e=>by have Z:=(j y e).2.2;have h2:=E.2;rcases Z with Z|Z;exact E.1.2 Z;omega⟩,
      (b8.E kB EP).E q.E (fun E=>by have:=(G _ E).1;omega),by have:=q.E.size;omega⟩
  ·obtain rfl:k=P.length:=by omega
   rw[List.take_length]at a3 bW;have bf:=bW.D;refine go ?_;refine AI (cs:=[iV a6,AL nm,iV vk,iV 0,v0]) rfl rfl rfl ?_ zW EV (fun w9 D=>?_)
   ·intro u hu;simp at hu;rcases hu with rfl|rfl|rfl|rfl|rfl<;>first|rfl|exact own_oneC bW.own
   refine go ?_;exact AW rfl rfl rfl D.D.cells ⟨kW.trans D.E (fun y E X=>by simp at E;omega),a3.E D.E EP,(bW.fin.E D.E (fun y E t=>by have:=E.1;simp at t;omega)).mono fun y E=>by have:=E.1;omega⟩
 refine D_A rfl ?_ (D_E rfl ?_)
 ·refine AF (full_ok N z) rfl ?_;rintro _ _⟨rfl,rfl⟩;refine wNl (Ext.refl _) ?_;refine go ?_;refine D_E rfl ?_;refine AY (L:=zero5) (fun w4 n4=>?_);refine wNl n4.E ?_;exact b1 () _ _ ag n4
 ·refine AY (L:=zero5) (fun w4 n4=>?_);refine wNl n4.E ?_;refine D_E rfl ?_;refine AF (full_ok w4 z) rfl ?_;rintro _ _⟨rfl,rfl⟩;refine wNl n4.E ?_;refine go ?_;exact b1 () _ _ ag n4
end
end Go.Proofs.YtjbocjodncbogaaGreatDoor
