/- TopTextGoals, part 8 of 16: rules, lemmas, walks. Conditions: none. -/
import Derived.Test.YtjbocjodncbogaaGreatDoorTX7
import Derived.Test.YtjbocjodncbogaaGreatDoorShq
import Derived.Maps.RangeRun
namespace Go.Proofs.YtjbocjodncbogaaGreatDoor
open Go.RowKit
set_option linter.unusedVariables false
section
variable {mk:Prop}[MK mk]
def valS(l:List Sgn)(x:Int)(i:Nat):Int:=match l[i]? with
 |some s=>x/Bq (l.take i)%s.size
 |none=>0
theorem num_valid{l:List Sgn}(h:Bk l=true):numLet l=Bq l/\Bq l<=64:=by
 unfold numLet;rw[if_pos h];exact⟨rfl,(EJ h).2.2.2⟩
set_option maxHeartbeats 1600000 in
theorem value_ok(w:World)(v:Value)(l:List Sgn)(x:Int)(i:Nat)(h:SlAt sgnR Af w v l)(hK:KY w)(hN:10<=w.heap.size)(hv:Bk l=true)(a2:0<=x)(b7:x<numLet l)(hi:i<l.length):
  Fn Zp 185 [v,iV x,iV (i:Int)] w fun u w'=>u=iV (valS l x i)/\Ext w w':=by
 have a1:=h.lt (show(0:Nat)<3 by omega);obtain⟨a,c,rfl,b4⟩:=h.len;obtain⟨s,hs⟩:∃s,l[i]?=some s:=⟨_,List.getElem?_eq_getElem hi⟩;have b1:valS l x i=x/Bq (l.take i)%s.size:=by unfold valS;rw[hs]
 obtain⟨b9,c0⟩:=num_valid hv;refine DC Tryz.func185 rfl Tryz.ntmps185 nlr EO (go ?_);refine A3 (L:=[.slice a l.length c]) rfl (fun w1 n1=>?_);refine A3 (L:=[iV x]) rfl (fun w2 n2=>?_);refine A3 (L:=[iV (i:Int)]) rfl (fun z n3=>?_);refine AY (fun w4 S=>go ?_);have z1:=n1.size;have z2:=n2.size;have z3:=n3.size;have z4:=S.size;have n:=n1.D.E (n2.E.trans (n3.E.trans S.E)) O;have j:=n2.D.E (n3.E.trans S.E) O;have g:=n3.D.E S.E O;have p:Blk w4 z.heap.size 3 [iV 0]:=S.D;have k4:Ext w w4:=((n1.E.trans n2.E).trans n3.E).trans S.E;refine Ac (rd 0 5 (.alt 5 (rd 6 12 .done) .stop)) Ap EO (fun N M ed=>⟨Ext N,?_,?_⟩)
 ·exact FQ
 have f1:∀V,Ext N V->V.cell? ⟨w.heap.size,0,none⟩=some (.slice a l.length c):=fun V e=>(n.E (M.trans e) O).cell rfl;have f2:∀V,Ext N V->V.cell? ⟨w1.heap.size,0,none⟩=some (iV x):=fun V e=>(j.E (M.trans e) O).cell rfl;have f3:∀V,Ext N V->V.cell? ⟨w2.heap.size,0,none⟩=some (iV (i:Int)):=fun V e=>(g.E (M.trans e) O).cell rfl;((refine D_R rfl rfl (fun W d=>AH rfl (f2 W d) dz) ?_)<;>(refine D5 rfl rfl rfl rfl (fun T=>?_) (fun T=>?_)<;>try omega)<;>(refine D_R rfl rfl (fun W d=>AE rfl dz) ?_)<;>(refine D_R rfl rfl (fun W d=>AK rfl (AH rfl (f2 W d) dz)) ?_)<;>(refine D_R rfl rfl (fun W d=>AK rfl (AH rfl (f1 W d) dz)) ?_))
 refine D_E rfl (go ?_);refine AF (letters_ok N _ l (h.ext (k4.trans M)) (hK.E (k4.trans M) O) (Nat.le_trans hN (k4.trans M).size)) rfl ?_;rintro _ w5⟨rfl,k5⟩;refine AA ⟨Ext N,fun _ e=>e,k5,?_⟩;((refine D_geq rfl rfl rfl rfl (fun T=>?_) (fun T=>?_)<;>try omega)<;>(refine D_R rfl rfl (fun W d=>Ad rfl (AE rfl dz)) ?_)<;>(refine D_R rfl rfl (fun W d=>AE rfl dz) ?_)<;>(refine D_R rfl rfl (fun W d=>AK rfl (AH rfl (f3 W d) dz)) ?_)<;>(refine D5 rfl rfl rfl rfl (fun T=>?_) (fun T=>?_)<;>try omega)<;>(refine D_R rfl rfl (fun W d=>Ad rfl (AE rfl dz)) ?_)<;>(refine D_R rfl rfl (fun W d=>AE rfl dz) ?_)<;>(refine D_R rfl rfl (fun W d=>AK rfl (AH rfl (f3 W d) dz)) ?_)<;>(refine D_R rfl rfl (fun W d=>AK rfl (AH rfl (f1 W d) dz)) ?_)<;>(refine D_R rfl rfl (fun W d=>AK rfl (Bi rfl dz)) ?_)<;>(refine D_geq rfl rfl rfl rfl (fun T=>?_) (fun T=>?_)<;>try omega)<;>(refine D_R rfl rfl (fun W d=>Ad rfl (AE rfl dz)) ?_)<;>refine Bc ?_)
 refine go ?_;have I:=M.trans k5;clear f1 f2 f3;replace n:=n.E I O;replace j:=j.E I O;replace g:=g.E I O;replace p:=p.E I O;have e5:=k4.trans I;refine go ?_;refine AF (weights_ok w5 _ rfl) rfl ?_;rintro _ m⟨rfl,C⟩;refine go ?_;have z5:=I.size;have z6:=C.size;replace n:=n.E C.E O;replace j:=j.E C.E O;replace g:=g.E C.E O;replace p:=p.E C.E O;have b6:=C.D;have e6:=e5.trans C.E;refine C_range [] [pt w5.heap.size] rfl EO fun a6 b2 a5 w7 G K s7 m7 r7=>?_;replace n:=n.E K O;replace j:=j.E K O;replace g:=g.E K O;replace p:=p.E K O;replace b6:=b6.E K O;have e7:=e6.trans K;obtain⟨a0,A⟩:∃a0:Nat->World->Prop,∀k W,a0 k W↔(k<=i/\Ext w W/\Blk W z.heap.size 3 [iV 0]/\Blk W w.heap.size 22 [.slice a l.length c]/\Blk W w1.heap.size 3 [iV x]/\Blk W w2.heap.size 3 [iV (i:Int)]/\a6 W/\W.heap[m.heap.size]?=some (.deferred (some []))/\w7.heap.size<=W.heap.size):=⟨_,fun _ _=>Iff.rfl⟩;obtain⟨D,hD⟩:∃D:World->Prop,∀W,D W↔(Ext w W/\Blk W z.heap.size 3 [iV (valS l x i)]/\a5 .ret W/\W.heap[m.heap.size]?=some (.deferred (some []))/\w7.heap.size<=W.heap.size):=⟨_,fun _=>Iff.rfl⟩
 have H:WtsR (.func (.yield (m.heap.size+1)) #[] #[]) [z.heap.size,m.heap.size+1] w7.heap.size l a0 D:=by
  refine⟨⟨_,rfl⟩,fun hj k F=>?_,fun{k W y}hj hy=>?_⟩
  ·obtain⟨j0,j1,Z,X,Q,B,P,q,j7⟩:=(A _ _).1 hj;exact(A _ _).2 ⟨j0,j1.E k (fun x f=>by have:=F x f;omega),Z.E k (fun h=>by have:=F _ h;omega),X.E k (fun h=>by have:=F _ h;omega),Q.E k (fun h=>by have:=F _ h;omega),B.E k (fun h=>by have:=F _ h;omega),G.rdy P k (fun h=>by have:=F _ h;omega),(k.block _ (by have:=G.lt P;omega) (fun h=>by have:=F _ h;omega)).trans q,Nat.le_trans j7 k.size⟩
  ·obtain⟨j0,j1,Z,X,Q,B,P,q,j7⟩:=(A _ _).1 hj;have b5:=G.lt P;have b0:=(List.getElem?_eq_some_iff.1 hy).1;obtain⟨p1,p2,p3,p4,p5,p6⟩:=prod_bound hv hy;refine YldP.mono (R:=fun v W'=>Keep [z.heap.size,m.heap.size+1] W W'/\((v=.bool true/\a0 (k+1) W')\/(v=.bool false/\D W'))) (Y:=fun _ _=>False) (G.round P rfl ?_) (fun v W' h=>h) (fun _ _ h=>h);refine go ?_;refine⟨P,fun W2 E c3 y2=>?_⟩;replace Z:=Z.E E EP;replace X:=X.E E EP;replace Q:=Q.E E EP;replace B:=B.E E EP;replace q:=(E.block _ U O).trans q;have r:=j1.E E EP;have a4:Keep [z.heap.size,m.heap.size+1] W W2:=E.mono (fun x f=>by simp at f;simp[f]);refine go ?_;have ci:=B.cell (o:=0) rfl;by_cases a9:k=i
   ·subst a9;rw[hs]at hy;cases hy;refine go ?_;obtain⟨_,b,o,rfl,hb,a8⟩:=(a1.ext r).sig hs;have b3:0<=x/Bq (l.take k)/\x/Bq (l.take k)<=x:=⟨Int.ediv_nonneg a2 U,Int.ediv_le_self _ a2⟩;refine Ac (rd 0 9 (.alt 9 .done .stop)) Ap EO (fun N M ed=>⟨Keep [z.heap.size] N,?_,?_⟩)
    ·exact Ff
    have g1:∀V,Keep [z.heap.size] N V->V.cell? ⟨w.heap.size,0,none⟩=some (.slice (some ⟨b,o,none⟩) l.length c):=fun V e=>((X.E M O).E e EP).cell rfl;have g2:∀V,Keep [z.heap.size] N V->V.cell? ⟨w1.heap.size,0,none⟩=some (iV x):=fun V e=>((Q.E M O).E e EP).cell rfl;have g3:∀V,Keep [z.heap.size] N V->V.cell? ⟨w2.heap.size,0,none⟩=some (iV (k:Int)):=fun V e=>((B.E M O).E e EP).cell rfl;have g4:∀V,Keep [z.heap.size] N V->V.cell? ⟨b,o+k*3+2,none⟩=some (iV s.size):=fun V e=>((a8.E M O).E e (by have:=hb.2;simp;omega)) 2 _ rfl;((refine D_R rfl rfl (fun W d=>AH rfl (g2 W d) dz) ?_)<;>(refine D_R rfl rfl (fun W d=>AS rfl dz) ?_)<;>(apply D_R rfl rfl;(intro W d;refine W_quo rfl rfl U U Ea ?_;exact AA ⟨rfl,rfl,rfl⟩))<;>(refine D_R rfl rfl (fun W d=>AH rfl (g1 W d) dz) ?_)<;>(refine D_R rfl rfl (fun W d=>AH rfl (g3 W d) dz) ?_))
    refine D_R rfl rfl (fun V hV=>by refine CG (k:=k) rfl rfl rfl b0 ?_;exact AA ⟨rfl,rfl,rfl⟩) ?_;((refine D_R rfl rfl (fun W d=>AB rfl dz) ?_)<;>(refine D_R rfl rfl (fun W d=>AH rfl (g4 W d) dz) ?_)<;>(apply D_R rfl rfl;(intro W d;refine W_rem rfl rfl U U ?_;exact AA ⟨rfl,rfl,rfl⟩)))
    refine D_E rfl ?_;refine AU (v:=iV (x/Bq (l.take k)%s.size)) rfl rfl rfl (Z.E M O) O (fun W5 pp=>?_);refine AA ⟨Keep [z.heap.size] N,fun _ e=>e,pp.E,?_⟩;refine go ?_;have kk:Keep [z.heap.size] W2 W5:=M.any.trans pp.E (fun x f _=>f);have y3:=G.bsy y2 kk EP;have q5:Keep [z.heap.size,m.heap.size+1] W W5:=a4.trans kk (fun x f _=>by simp at f;simp[f]);replace q:=(kk.block _ U EP).trans q;replace r:=r.E kk EP;have Z:Blk W5 z.heap.size 3 [iV (x/Bq (l.take k)%s.size)]:=pp.D;have hs5:=q5.size;refine go ?_;refine Q_rnd_ret y3 fun W6 t z6 y6=>⟨q5.trans t (fun x f _=>by simp at f;simp[f]),.inr ⟨rfl,(hD _).2 ⟨r.E t EP,?_,y6,(t.block _ U O).trans q,by omega⟩⟩⟩;rw[b1];exact Z.E t EP
   ·refine go ?_;refine Q_rnd y2 fun W6 t z6 y6=>⟨a4.trans t (fun x f _=>by simp at f;simp[f]),.inl ⟨rfl,(A _ _).2 ⟨by omega,r.E t EP,Z.E t EP,X.E t EP,Q.E t EP,B.E t EP,y6,(t.block _ U O).trans q,by omega⟩⟩⟩
 have b8:w7.heap.size=m.heap.size+2:=s7;refine Fn.mono (weightsIt_ok w7 w5.heap.size (.slice a l.length c) l H b6 (((a1.ext e7)).mono fun x f=>by have:=f.2;simp;omega) hv ((A _ _).2 ⟨by omega,e7,p,n,j,g,r7,m7,Nat.le_refl _⟩) EP) ?_;rintro v w8⟨_,hj|hd⟩
 ·obtain⟨j0,_⟩:=(A _ _).1 hj;omega
 obtain⟨j1,Z,P,q,j7⟩:=(hD _).1 hd;refine .inr ⟨.ret,P,fun w9 k9 s9=>?_⟩;clear A H hD hd G r7 m7 b6;replace Z:=Z.E k9 EP;replace q:=(k9.block _ U O).trans q;have e9:=j1.E k9 EP;unfold behind;simp only;refine go ?_;refine Cm q fun c2 a3 c1=>?_;have a7:=(Z.E a3 EP).cell (o:=0) rfl;exact BF (A7 rfl a7 ⟨rfl,e9.E a3 EP⟩)
def valsC(S:List Sgn)(x:Int)(n:Nat):LV:=(List.range n).map fun i=>iV (valS S x i)
theorem valsC_succ(S:List Sgn)(x:Int)(n:Nat):valsC S x (n+1)=valsC S x n++[iV (valS S x n)]:=by
 unfold valsC;rw[List.range_succ,List.map_append];rfl
theorem madeInt:(madeCells (iV 0).cells (1*1)).toList=[iV 0]:=by kernel_rfl
theorem own_oneC'{w:World}{B e size n:Nat}{v:Value}{xs:LV}(h:w.ownsRow B e size v n xs):v.oneCell'=true:=by
 rcases h.2 with⟨rfl,_⟩|⟨g,E,G,rfl,_⟩<;>rfl
end
section
variable {mk:Prop}[MK mk]
end
section
variable {mk:Prop}[MK mk]
end
section
variable {mk:Prop}[MK mk]
def vlS(S:List Sgn)(x:Int):Vl:=fun k=>match S.findIdx? (fun y=>decide (y.name=k))with
 |some i=>valS S x i
 |none=>0
def knS(S:List Sgn)(k:LU)(v:Int):Bool:=match S.findIdx? (fun y=>decide (y.name=k))with
 |some i=>match S[i]? with
  |some s=>decide (v<s.size)
  |none=>false
 |none=>false
theorem kn_find{S:List Sgn}{k:LU}{v:Int}(h:knS S k v=true):∃i s,S.findIdx? (fun y=>decide (y.name=k))=some i/\S[i]?=some s/\v<s.size:=by
 unfold knS at h
 split at h
 ·rename_i i hi
  split at h
  ·rename_i s hs;exact⟨i,s,hi,hs,by simpa using h⟩
  ·cases h
 ·cases h
theorem own_ints{w:World}{B e n:Nat}{v:Value}{L:LV}(h:w.ownsRow B e 1 v n L):∃a c,v=.slice a n c/\∀i u,L[i]?=some u->∃g o,a=some ⟨g,o,none⟩/\w.cell? ⟨g,o+i,none⟩=some u:=by
 obtain⟨a,c,rfl,_,_,_,f⟩:=Aa (ok:=Af) h fun _ _=>trivial;refine⟨a,c,rfl,fun i u d=>?_⟩;rcases f with t|⟨b,o,e,_,T⟩
 ·have:=(List.getElem?_eq_some_iff.1 d).1;have:=h.1;omega
 ·exact⟨b,o,e,T i u d⟩
theorem formM_kind(op:Int):(Bd op).past=pstB op/\(Bd op).future=futB op/\(Bd op).loose=looseO op:=by
 by_cases h:isOpB op=true
 ·have Z:1<=op/\op<20:=by simpa[isOpB]using h
  have s:Bd op=formsL.getD op.toNat zeroForm:=by unfold Bd;rw[if_pos h]
  rw[s];have:op=1\/op=2\/op=3\/op=4\/op=5\/op=6\/op=7\/op=8\/op=9\/op=10\/op=11\/op=12\/op=13\/op=14\/op=15\/op=16\/op=17\/op=18\/op=19:=by omega
  rcases this with rfl|rfl|rfl|rfl|rfl|rfl|rfl|rfl|rfl|rfl|rfl|rfl|rfl|rfl|rfl|rfl|rfl|rfl|rfl<;>exact⟨rfl,rfl,rfl⟩
 ·have Z:¬(1<=op/\op<20):=by simpa[isOpB]using h
  have s:Bd op=zeroForm:=by unfold Bd;rw[if_neg h]
  rw[s];refine⟨?_,?_,?_⟩
  ·show false=pstB op
   symm;simp[pstB];omega
  ·show false=futB op
   symm;simp[futB];omega
  ·show false=looseO op
   symm;simp[looseO];omega
theorem bareB_eq(i:Bool)(op:Int)(k:LU)(v b:Int)(args:LF):Dq i (.mk op k v b args)=(looseO op&&Bs op k v b args.length&& !(i&&futB op)&&(if op=4 then negOk (.mk op k v b args)else true)&&bareL (i||pstB op) args):=by
 cases args<;>simp only[Dq]<;>rfl
theorem bareN_eq(op:Int)(k:LU)(v b:Int)(args:LF)(i:Bool)(o:args.length<=1000000):bareN (.mk op k v b args,i)=(looseO op&&Bs op k v b args.length&& !(i&&futB op)&&(if op=4 then negOk (.mk op k v b args)else true)):=by
 obtain⟨_,W,R⟩:=formM_kind op;unfold bareN;simp only;rw[shapeF_eq (.mk op k v b args) o];show((Bd op).loose&&Bs op k v b args.length&& !((Bd op).future&&i)&&(if op=4 then negOk (.mk op k v b args)else true))=_;rw[W,R,Bool.and_comm (futB op) i]
theorem bareG_aux:∀(n:Nat)(f:Fml)(i:Bool),szF f<=n->n<=1000000->(Dp i f).all bareN=Dq i f
 |0,f,i,hz,_=>by rw[BL]at hz;omega
 |n+1,.mk op nm v b args,i,hz,hn=>by
  rw[BL]at hz;have S:szL args+1<=n+1:=hz
  have K:∀(l:LF)(j:Bool),(∀a∈l,a∈args)->(DE j l).all bareN=bareL j l:=by
   intro l
   induction l with
   |nil=>intro j _;rfl
   |cons a l ih=>
    intro j s;have Z:=Bb (s a O);rw[DE,List.all_append,bareG_aux n a j U U,bareL,ih j fun c T=>s c Eb]
  rw[Dp,List.all_cons,bareN_eq _ _ _ _ _ _ (by have:=CE args;omega),K args _ (fun a h=>h),bareB_eq,(formM_kind op).1]
theorem bareG_eq{f:Fml}(o:szF f<=1000000):bareG f=Dq false f:=bareG_aux _ f false o (Nat.le_refl _)
theorem shaped_ok9{op v b:Int}{c:LU}{n:Nat}(h:Bs op c v b n=true):(op=4\/op=13\/op=14->1<=n)/\0<=b/\b<=9∧ -9<=v/\v<=9:=by
 simp only[Bs,Bool.and_eq_true,decide_eq_true_eq,BX]at h;obtain⟨⟨⟨⟨⟨⟨⟨_,_⟩,R⟩,B⟩,d⟩,k⟩,K⟩,_⟩:=h;refine⟨fun a=>?_,k,?_,by omega,?_⟩
 ·rcases a with rfl|rfl|rfl<;>(simp at R;omega)
 ·split at K<;>omega
 ·split at d
  ·omega
  ·split at d<;>omega
theorem okN_mk{op v b:Int}{k:LU}{args:LF}(h:Bs op k v b args.length=true)(D:okNL args=true):okN (.mk op k v b args)=true:=by
 obtain⟨Z,W,R,B,d⟩:=shaped_ok9 h;simp only[okN,Bool.and_eq_true,decide_eq_true_eq];refine⟨⟨⟨⟨⟨?_,W⟩,R⟩,B⟩,d⟩,D⟩
 split
 ·rename_i h;simpa using Z h
 ·rfl
theorem okNL_of:∀{l:LF},(∀a∈l,okN a=true)->okNL l=true
 | [],_=>rfl
 |a::l,h=>by rw[okNL,h a O,okNL_of fun c T=>h c Eb];rfl
theorem okN_of:∀(n:Nat)(f:Fml)(i:Bool),szF f<=n->n<=1000000->(Dp i f).all (fun x=>Dn x.1)=true->okN f=true
 |0,f,i,hz,_,_=>by rw[BL]at hz;omega
 |n+1,.mk op nm v b args,i,hz,hn,h=>by
  rw[BL]at hz;have S:szL args+1<=n+1:=hz
  have K:∀(l:LF)(j:Bool),(∀a∈l,a∈args)->(DE j l).all (fun x=>Dn x.1)=true->∀a∈l,okN a=true:=by
   intro l
   induction l with
   |nil=>intro j _ _ a D;cases D
   |cons a l ih=>
    intro j s h;have Z:=Bb (s a O);rw[DE,List.all_append,Bool.and_eq_true]at h;intro c T;rcases List.mem_cons.1 T with rfl|T
    ·exact okN_of n c j U U h.1
    ·exact ih j (fun c T=>s c Eb) h.2 c T
  rw[Dp,List.all_cons,Bool.and_eq_true]at h;have Z:=h.1;simp only at Z;rw[shapeF_eq _ (by simp only[Fml.args];have:=CE args;omega)]at Z;exact okN_mk Z (okNL_of (K args _ (fun a h=>h) h.2))
theorem valid_okN{f:Fml}(h:validG f=true):szF f<=60/\dpF f<=20/\okN f=true:=by
 simp only[validG,Bool.and_eq_true,decide_eq_true_eq]at h;exact⟨h.1.1,h.1.2,okN_of _ f false (Nat.le_refl _) U h.2⟩
theorem bare_okN:∀(n:Nat)(f:Fml)(i:Bool),szF f<=n->Dq i f=true->okN f=true
 |0,f,i,hz,_=>by rw[BL]at hz;omega
 |n+1,.mk op nm v b args,i,hz,h=>by
  rw[BL]at hz;have S:szL args+1<=n+1:=hz;obtain⟨_,W,_,B⟩:=DH h;refine okN_mk W (okNL_of fun a D=>?_);have:=Bb D;exact bare_okN n a _ U (B a D)
theorem loose_okN{f:Fml}(h:CB f=true):szF f<=400/\dpF f<=60/\Dq false f=true/\okN f=true:=by
 simp only[CB,Bool.and_eq_true,decide_eq_true_eq]at h;obtain⟨⟨Z,W⟩,R⟩:=h;rw[bareG_eq U]at R;exact⟨Z,W,R,bare_okN _ f false (Nat.le_refl _) R⟩
def kernR(f:Fml):Fml×Int:=if(validG f&&layG f)=true then(if(fmB f false 20 (60,false)).2.2=true then(Am,2)else((fmB f false 20 (60,false)).1,0))else(Am,30)
def notR(f:Fml):Fml:=if CB f=true then(if(fmB f true 60 (400,false)).2.2=true then Am else(fmB f true 60 (400,false)).1)else Am
theorem not_ok(w:World)(v:Value)(f:Fml)(P:FAt Af w v f)(X:GF w)(hK:KY w)(hN:10<=w.heap.size):
  Fn Zp 38 [v] w fun u w'=>Ext w w'/\FAt (fun b=>w.heap.size<=b) w' u (notR f):=by
 obtain⟨c,rfl,a1,d⟩:=P.cells;obtain⟨Z,x1,x2,s,r,rfl⟩:=Ak a1;have E:=P.lt;refine AN Tryz.func38 rfl Tryz.ntmps38 (go ?_);refine A3 (L:=[Z,x1,x2,s,r]) rfl (fun w1 e=>?_);refine AY (L:=zero5) (fun N W=>go ?_);have z1:=e.size;have z2:=W.size;have Q:=e.E.trans W.E;have n:Blk N w.heap.size 37 [Z,x1,x2,s,r]:=e.D.E W.E O;have j:=W.D;have a4:PF Af N w.heap.size 0 f:=⟨trivial,_,rfl,n.cells,(E.ext Q).mono fun _ _=>trivial⟩;refine AF (loose_ok N _ _ f a4 (X.ext Q) (hK.E Q O) (Nat.le_trans hN Q.size)) rfl ?_;rintro _ S⟨rfl,a⟩;have z3:=a.size;unfold notR;cases hl:CB f with
 |false=>
  rw[if_neg Bool.false_ne_true];refine go ?_;refine AI (cs:=zero5) rfl rfl rfl (AV rfl) (j.E a O) EV (fun V i=>go ?_);exact AW rfl rfl rfl i.D.cells ⟨(Q.trans a).E i.E EP,FAt.leaf _ _ 0 [] 0 0⟩
 |true=>
  rw[if_pos rfl];obtain⟨hz,hd,a8,a3⟩:=loose_okN hl;refine go ?_;refine A3 (L:=[iV 400,.bool false]) rfl (fun h G=>?_);have C:=(Q.trans a).trans G.E;have z5:=G.size;have H:Ext N h:=a.trans G.E;have a0:=n.E H O;have a5:PF (fun b=>b≠S.heap.size) h w.heap.size 0 f:=⟨by omega,_,rfl,a0.cells,(E.ext C).mono fun b hb=>by have:=hb.2;omega⟩;refine go ?_;refine AF (gform_ok S.heap.size _ h w.heap.size 0 f true 60 (400,false) (Nat.le_refl _) U a5 a3 U U ⟨by simp,by simp,by simp⟩ G.D) rfl ?_;rintro u T⟨o,t,I⟩;obtain⟨q,rfl,a2,d⟩:=I.cells;obtain⟨k,p,x,z,B,rfl⟩:=Ak a2;obtain⟨R,hR⟩:∃R,R=fmB f true 60 (400,false):=⟨_,rfl⟩;rw[<-hR]at t I⊢;obtain⟨g,l,ov⟩:=R;simp only at t I⊢;have z6:=o.size;refine AY (L:=zero5) (fun w7 K=>?_);refine AI (cs:=[k,p,x,z,B]) rfl rfl rfl d K.D EV (fun m M=>?_);have A:Ext T m:=K.E.E M.E O;have a7:=t.E A O;have a6:Blk m T.heap.size 37 [k,p,x,z,B]:=M.D;have D:Blk m w1.heap.size 37 zero5:=((j.E H O).E o EP).E A O;have F:Ext w m:=(C.E o EP).trans A;refine go ?_;cases ov with
  |true=>
   rw[if_pos rfl];refine go ?_;refine AI (cs:=zero5) rfl rfl rfl (AV rfl) (D) EV (fun V i=>go ?_);exact AW rfl rfl rfl i.D.cells ⟨F.E i.E EP,FAt.leaf _ _ 0 [] 0 0⟩
  |false=>
   rw[if_neg Bool.false_ne_true];refine go ?_;refine AI (cs:=[k,p,x,z,B]) rfl rfl rfl d D EV (fun V i=>go ?_);exact AW rfl rfl rfl i.D.cells ⟨F.E i.E EP,((I.ext A).E i.E (fun y hy hm=>by simp at hm;omega)).mono fun y hy=>by omega⟩
theorem gkernel_ok(w:World)(v:Value)(f:Fml)(P:FAt Af w v f)(X:GF w)(hK:KY w)(S:10<=w.heap.size):
  Fn Zp 37 [v] w fun u w'=>∃c:Value,u=.tuple #[c,iV (kernR f).2]/\Ext w w'/\FAt (fun b=>w.heap.size<=b) w' c (kernR f).1:=by
 obtain⟨c,rfl,a2,h⟩:=P.cells;obtain⟨x0,x1,x2,x3,x4,rfl⟩:=Ak a2;have a4:=P.lt;refine AN Tryz.func37 rfl Tryz.ntmps37 (go ?_);refine A3 (L:=[x0,x1,x2,x3,x4]) rfl (fun w1 k=>?_);refine AY (L:=zero5) (fun N W=>?_);have z1:=k.size;have z2:=W.size;have Q:=k.E.trans W.E;have n:Blk N w.heap.size 37 [x0,x1,x2,x3,x4]:=k.D.E W.E O;have j:=W.D;refine go ?_;refine AF (fvalid_ok N _ f (P.ext Q) (X.ext Q) (hK.E Q O) (Nat.le_trans S Q.size)) rfl ?_;rintro _ w3⟨rfl,a⟩;have z3:=a.size;have I:=Q.trans a;have a7:=n.E a O;have E:=j.E a O;unfold kernR;cases hv:validG f with
 |false=>
  rw[Bool.false_and,if_neg Bool.false_ne_true];refine go ?_;refine AI (cs:=zero5) rfl rfl rfl (AV rfl) (E) EV (fun s i=>go ?_);exact BB rfl rfl rfl i.D.cells ⟨_,rfl,I.E i.E EP,FAt.leaf _ _ 0 [] 0 0⟩
 |true=>
 rw[Bool.true_and];obtain⟨hz,hd,a5⟩:=valid_okN hv;refine go ?_;refine AF (flay_ok w3 _ f (P.ext I) (X.ext I) (Nat.le_trans S I.size) U) rfl ?_;rintro _ Z⟨rfl,e⟩;have z4:=e.size;have K:=I.trans e;have a1:=E.E e O;cases hl:layG f with
 |false=>
  rw[if_neg Bool.false_ne_true];refine go ?_;refine AI (cs:=zero5) rfl rfl rfl (AV rfl) (a1) EV (fun s i=>go ?_);exact BB rfl rfl rfl i.D.cells ⟨_,rfl,K.E i.E EP,FAt.leaf _ _ 0 [] 0 0⟩
 |true=>
  rw[if_pos rfl];refine go ?_;refine A3 (L:=[iV 60,.bool false]) rfl (fun r G=>?_);have C:=K.trans G.E;have z5:=G.size;have H:Ext N r:=(a.trans e).trans G.E;have a0:=n.E H O;have a6:PF (fun b=>b≠Z.heap.size) r w.heap.size 0 f:=⟨by omega,_,rfl,a0.cells,(a4.ext C).mono fun b hb=>by have:=hb.2;omega⟩;refine go ?_;refine AF (gform_ok Z.heap.size _ r w.heap.size 0 f false 20 (60,false) (Nat.le_refl _) U a6 a5 U U ⟨by simp,by simp,by simp⟩ G.D) rfl ?_;rintro u w6⟨o,t,d⟩;obtain⟨q,rfl,a3,h⟩:=d.cells;obtain⟨B,p,x,z,D,rfl⟩:=Ak a3;obtain⟨R,hR⟩:∃R,R=fmB f false 20 (60,false):=⟨_,rfl⟩;rw[<-hR]at t d⊢;obtain⟨g,l,ov⟩:=R;simp only at t d⊢;have z6:=o.size;refine AY (L:=zero5) (fun w7 T=>?_);refine AI (cs:=[B,p,x,z,D]) rfl rfl rfl h T.D EV (fun m V=>?_);have A:Ext w6 m:=T.E.E V.E O;have a9:=t.E A O;have a8:Blk m w6.heap.size 37 [B,p,x,z,D]:=V.D;have F:Blk m w1.heap.size 37 zero5:=((j.E H O).E o EP).E A O;have M:Ext w m:=(C.E o EP).trans A;refine go ?_;cases ov with
  |true=>
   rw[if_pos rfl];refine go ?_;refine AI (cs:=zero5) rfl rfl rfl (AV rfl) (F) EV (fun s i=>go ?_);exact BB rfl rfl rfl i.D.cells ⟨_,rfl,M.E i.E EP,FAt.leaf _ _ 0 [] 0 0⟩
  |false=>
   rw[if_neg Bool.false_ne_true];refine go ?_;refine AI (cs:=[B,p,x,z,D]) rfl rfl rfl h F EV (fun s i=>go ?_);exact BB rfl rfl rfl i.D.cells ⟨_,rfl,M.E i.E EP,((d.ext A).E i.E (fun y hy hm=>by simp at hm;omega)).mono fun y hy=>by omega⟩
end
instance weakMK:MK False:=⟨trivial⟩
section
open Go.Shelf Go.Sort
theorem ext_grow{w w':World}(k:Ext w w'):∃q b,w'=grow (w.drewN q) b:=by
 refine⟨w'.drawn-w.drawn,w'.heap.extract w.heap.size w'.heap.size,?_⟩;have Z:=k.os;have W:=k.tape;have R:=k.output;have B:=k.drawn;have d:=k.size;have a:=k.block;obtain⟨S,y,c,b,Q⟩:=w;obtain⟨P,N,M,L,K⟩:=w';simp only at Z W R B d a;subst Z W R;simp only[grow,World.drewN,World.mk.injEq,and_true,true_and];refine⟨?_,by omega⟩;apply Array.ext_getElem?;intro i;rw[Array.getElem?_append];by_cases H:i<S.size
 ·rw[if_pos H];exact a i H O
 ·rw[if_neg H];simp only[Array.getElem?_extract];by_cases e:i<P.size
  ·rw[if_pos U];congr 1;omega
  ·rw[if_neg U];exact Array.getElem?_eq_none U
def Cel(ok:Nat->Prop)(w:World):Type:={p:LV×Fml//p.1.length=5/\szF p.2<=1000000/\FAt ok w (.agg p.1.toArray) p.2}
instance (ok:Nat->Prop)(w:World):Inhabited (Cel ok w):=⟨⟨(zero5,Am),rfl,by decide,FAt.leaf ok w 0 [] 0 0⟩⟩
section
variable {ok:Nat->Prop}{w:World}
def encC(x:Cel ok w):LV:=x.1.1
def fmlC(x:Cel ok w):Fml:=x.1.2
theorem encC_len(x:Cel ok w):(encC x).length=5:=x.2.1
theorem encC_one(x:Cel ok w):∀v∈encC x,v.oneCell'=true:=by
 obtain⟨c,e,_,h⟩:=x.2.2.2.cells;have:x.1.1=c:=by simpa using e
 unfold encC;rw[this];exact h
theorem cel_list:∀{l:LF}{L:List (LV)},FsAt ok w L l->(∀x∈l,szF x<=1000000)->∃D:List (Cel ok w),D.map encC=L/\D.map fmlC=l
 | [],L,h,_=>⟨[],by have:=List.eq_nil_of_length_eq_zero (l:=L) (by simpa using h.1);simp[this],rfl⟩
 |x::l,[],h,_=>by have:=h.1;simp at this
 |x::l,c::L,h,hz=>by
  obtain⟨D,Z,W⟩:=cel_list (l:=l) (L:=L) ⟨by simpa using h.1,fun c T=>h.2.1 c Eb,fun i c g T a=>h.2.2 (i+1) c g (by simpa using T) Eo⟩ (fun y E=>hz y (by simp[E]));exact⟨⟨(c,x),h.2.1 c O,hz x O,h.2.2 0 c x rfl rfl⟩::D,congrArg (c:: ·) Z,congrArg (x:: ·) W⟩
theorem cel_fs(D:List (Cel ok w)):FsAt ok w (D.map encC) (D.map fmlC):=by
 refine⟨by simp,fun c T=>?_,fun i c g T a=>?_⟩
 ·obtain⟨x,_,rfl⟩:=List.mem_map.1 T;exact encC_len x
 ·rw[List.getElem?_map]at T a;cases hx:D[i]? with
  |none=>rw[hx]at T;cases T
  |some x=>
   rw[hx]at T a;cases T;cases a;exact x.2.2.2
end
theorem flatK_list{α:Type}[Inhabited α](enc:α->LV)(d:∀x,(enc x).length=5)(D:Array α):(flatK enc 5 D).toList=(D.toList.map enc).flatten:=by
 have K:((D.toList.map enc).flatten).length=D.size*5:=by rw[Bw 5 _ (fun c T=>by obtain⟨x,_,rfl⟩:=List.mem_map.1 T;exact d x)];simp
 refine List.ext_getElem? fun t=>?_;by_cases a:t<D.size*5
 ·have C:t/5<D.size:=by omega
  have b:(flatK enc 5 D).toList[t]?=some (enc D[t/5]!)[t%5]! :=by
   have F:t<(flatK enc 5 D).size:=by simpa using a
   rw[Array.getElem?_toList,Array.getElem?_eq_getElem F,<-get_flatK enc 5 D t a,getElem!_pos (flatK enc 5 D) t F]
  rw[b]
  symm
  have I:(enc D[t/5]!)[t%5]?=some (enc D[t/5]!)[t%5]! :=by
   have s:t%5<(enc D[t/5]!).length:=by rw[d];omega
   rw[List.getElem?_eq_getElem s,getElem!_pos (enc D[t/5]!) (t%5) s]
  have r:=CR 5 (D.toList.map enc) (t/5) (t%5) (enc D[t/5]!) (enc D[t/5]!)[t%5]! (fun c T=>by obtain⟨x,_,rfl⟩:=List.mem_map.1 T;exact d x) (by rw[List.getElem?_map,Array.getElem?_toList,Array.getElem?_eq_getElem C,getElem!_pos D (t/5) C];rfl) I;rw[show t/5*5+t%5=t by omega]at r;exact r
 ·rw[List.getElem?_eq_none EP,List.getElem?_eq_none U]
theorem swo_cmp{ok:Nat->Prop}{w:World}:SWO (ltOf fun(x y:Cel ok w)=>B0 (fmlC x) (fmlC y)) where
 irrefl x:=by simp only[ltOf,decide_eq_false_iff_not];exact cmp_irr _
 trans x y z h1 h2:=by
  simp only[ltOf,decide_eq_true_eq]at h1 h2⊢;exact Dl _ _ _ h1 h2
 ntrans x y z h1 h2:=by
  simp only[ltOf,decide_eq_false_iff_not]at h1 h2⊢;intro R;have I:=cmpF_flip (fmlC x) (fmlC y);by_cases t:B0 (fmlC x) (fmlC y)=0
  ·rw[(C4 _ _).1 t]at R;exact h2 R
  ·exact h2 (Dl _ _ _ U R)
theorem sortW_at{ok:Nat->Prop}{w:World}{g e:Nat}{G:Array Value}{D:Array (Cel ok w)}(c:w.heap[g]?=some (.cells G e (0,0)))(y:D.size*5<=G.size)(m:Nat)(W:Array Obj):
  Keep [g] w (sortWorldK encC 5 w g 0 m D W)/\∃F:Array Value,(sortWorldK encC 5 w g 0 m D W).heap[g]?=some (.cells F e (0,0))/\F.size=G.size/\F.toList.take (D.size*5)=(D.toList.map encC).flatten:=by
 have x:g<w.heap.size:=(Array.getElem?_eq_some_iff.1 c).1;have M:(sortWorldK encC 5 w g 0 m D W).heap=w.heap.modify g (onCells (putCells id 0 (flatK encC 5 D)))++W:=rfl;refine⟨⟨rfl,rfl,rfl,by rw[M];simp,fun b S V=>?_,fun h=>h.elim,Nat.le_add_right _ _⟩,putCells id 0 (flatK encC 5 D) G,?_,by simp[putCells],?_⟩
 ·rw[M,Array.getElem?_append_left (by simpa using S),Array.getElem?_modify,if_neg (by simp at V;omega)]
 ·rw[M,Array.getElem?_append_left (by simpa using x),Array.getElem?_modify,if_pos rfl,c];rfl
 ·rw[<-flatK_list encC encC_len];refine List.ext_getElem? fun t=>?_;rw[List.getElem?_take];by_cases a:t<D.size*5
  ·rw[if_pos a];have d:t<(flatK encC 5 D).size:=by simpa using a
   have T:t<G.size:=by omega
   simp only[putCells,Array.getElem?_toList,Array.getElem?_mapIdx,Array.getElem?_eq_getElem T,Option.map_some];rw[if_pos ⟨Nat.zero_le _,by omega⟩,Array.getElem?_eq_getElem d,Nat.sub_zero,getElem!_pos (flatK encC 5 D) t d];rfl
  ·rw[if_neg a,List.getElem?_eq_none EP]
def Srt(l:LF):Prop:=l.Pairwise fun a b=>¬B0 b a<0
abbrev cmpV:Value:=.func (.func 208) #[] #[]
theorem sort_ok(w:World)(B:Nat)(v:Value)(l:LF)(L:List (LV))(ok:Nat->Prop)(a:w.ownsRow B 37 5 v l.length L.flatten)(s:FsAt ok w L l)
  (p:∀b,ok b->Unm w b/\b<w.heap.size/\v.ownBlock≠some b)(hz:∀x∈l,szF x<=1000000)(hn:l.length<4611686018427387904):
  Fn Zp 287 [v,cmpV] w fun u w'=>u=.tuple #[]/\Keep v.ownBlock.toList w w'/\∃M l',l'.Perm l/\Srt l'/\w'.ownsRow B 37 5 v l.length M.flatten/\FsAt ok w' M l':=by
 rcases a.2 with⟨rfl,h0⟩|⟨g,E,G,rfl,hB,f,a0,a3,Z,ht⟩
 ·have I:=AnyF.slices_SortFunc_none (P:=Zp) Tryz.sortF none 0 cmpV w;change Calls Zp 287 _ _ _ at I;have hl:l=[]:=List.eq_nil_of_length_eq_zero h0;subst hl;refine Calls.mono I ?_;rintro e w'⟨rfl,rfl⟩;exact⟨rfl,Keep.refl _ _,L,[],List.Perm.refl _,List.Pairwise.nil,a,s⟩
 ·obtain⟨D,a2,R⟩:=cel_list s hz;have F:D.length=l.length:=by rw[<-R];simp
  have a6:g<w.heap.size:=(Array.getElem?_eq_some_iff.1 f).1;have N:∀b,ok b->b∉[g]:=fun b S V=>by simp at V;exact(p b S).2.2 (by rw[V];rfl)
  have X:l.length*5<=G.size:=by rw[Z];exact Nat.mul_le_mul_right _ a0
  have hH:HoldsK encC 5 w g 0 D.toArray:=by
   intro j T;have H:j<l.length*5:=by simpa[F]using T
   have z:j<(flatK encC 5 D.toArray).size:=T
   have o:(flatK encC 5 D.toArray).toList[j]?=G.toList[j]?:=by
    rw[flatK_list encC encC_len];show(D.map encC).flatten[j]?=_;rw[a2,<-ht,List.getElem?_take,if_pos H]
   rw[Array.getElem?_toList,Array.getElem?_toList,Array.getElem?_eq_getElem z]at o;constructor
   ·rw[Nat.zero_add,getElem!_pos _ j z];simp only[World.cell?,f];exact o.symm
   ·simp[World.frozen?,f]
  have eg:∀Q w,(callFunc 208 Q).run Zp w=.ok (.enter 208 Q) w:=enters_of Tryz.func208 EO rfl
  have a4:CmpLays Zp 208 #[] (encC (ok:=ok) (w:=w)) 5 (fun x y=>B0 (fmlC x) (fmlC y)) g 0 D.toArray.size w:=by
   intro m W C a5 x y;obtain⟨q,_⟩:=sortW_at f (D:=C) (by rw[a5];simpa[F]using X) m W;have h:=fcompare_ok (sortWorldK encC 5 w g 0 m C W) (.agg (encC x).toArray) (.agg (encC y).toArray) (fmlC x) (fmlC y) ok ok (x.2.2.2.E q N) (y.2.2.2.E q N) (.inl fun b S=>(p b S).1.eq (q.block b (p b S).2.1 (N b S))) x.2.2.1;refine Calls.mono h ?_;intro e w' A;cases e with
   |returned u=>
    obtain⟨rfl,k⟩:=A;exact⟨rfl,ext_grow k⟩
   |panicked ch=>exact A.elim
   |outgrown=>exact A.elim
  have I:=AnyQ.slices_SortFunc (P:=Zp) Tryz.sortF 5 Tryz.isAgg37 Tryz.sizeOf37 encC encC_len encC_one (fun x y=>B0 (fmlC x) (fmlC y)) swo_cmp 208 #[] g 0 E D.toArray w eg a4 hH a6 (by simpa[F]using hn);change Calls Zp 287 _ _ _ at I;have K:D.toArray.size=l.length:=by simpa using F
  rw[K]at I;refine Calls.mono I ?_;rintro e w'⟨rfl,d,n,W,hp,z,rfl⟩;obtain⟨p1,_,p3⟩:=hp;have t:d.size=l.length:=by rw[p1,K]
  obtain⟨q,a1,g1,g2,g3⟩:=sortW_at f (D:=d) (by rw[t];exact X) n W
  have a9:d.toList.Perm D:=by
   have o:d.extract 0 l.length=d:=by rw[<-t];simp
   have r:D.toArray.extract 0 l.length=D.toArray:=by rw[<-K];simp
   rw[o,r]at p3;exact p3
  refine⟨rfl,q,d.toList.map encC,d.toList.map fmlC,by rw[<-R];exact a9.map fmlC,?_,⟨?_,.inr ⟨g,E,a1,rfl,hB,g1,a0,a3,g2.trans Z,?_⟩⟩,?_⟩
  ·unfold Srt;rw[List.pairwise_map,List.pairwise_iff_getElem];intro i j hi T a8;have a7:i<d.size:=by simpa using hi
   have H:j<d.size:=by simpa using T
   have h:=z i j (Nat.zero_le _) a8 U;rw[getElem!_pos d j H,getElem!_pos d i a7]at h;simp only[ltOf,decide_eq_false_iff_not]at h;simpa using h
  ·rw[Bw 5 _ (fun c hc=>by obtain⟨x,_,rfl⟩:=List.mem_map.1 hc;exact encC_len x)];simp[t]
  ·rw[<-t];exact g3
  ·exact(cel_fs d.toList).E q N
end
def cpN(l:LF):Nat->LF
 |0=>[]
 |p+1=>cpN l p++if 0<p/\B0 (l.getD p Am) (l.getD (p-1) Am)=0 then[]else[l.getD p Am]
theorem cpN_take{l:LF}:∀p,p<=l.length->(∀i,0<i->i<p->B0 (l.getD i Am) (l.getD (i-1) Am)≠0)->cpN l p=l.take p
 |0,_,_=>by simp[cpN]
 |p+1,hp,h=>by
  rw[cpN,cpN_take p U fun i t H=>h i t U,List.take_add_one,if_neg (fun M=>h p M.1 U M.2)];have:l[p]?=some (l.getD p Am):=by rw[List.getD_eq_getElem?_getD,List.getElem?_eq_getElem (by omega:p<l.length)];rfl
  rw[this];rfl
theorem inc_snoc{x:Fml}:∀{l:LF},Inc (l++[x])↔Inc l/\∀a∈l,B0 a x<0
 | []=>by simp[Inc]
 |c::l=>by
  rw[List.cons_append,Inc,Inc,inc_snoc (l:=l)];constructor
  ·rintro⟨Z,W,R⟩
   exact⟨⟨fun d C=>Z d (by simp[C]),W⟩,fun a D=>by
    rcases List.mem_cons.1 D with rfl|D
    ·exact Z x O
    ·exact R a D⟩
  ·rintro⟨⟨Z,W⟩,R⟩;refine⟨fun d C=>?_,W,fun a D=>R a (by simp[D])⟩;rcases List.mem_append.1 C with C|C
   ·exact Z d C
   ·obtain rfl:d=x:=by simpa using C
    exact R c O
theorem cpN_inc{l:LF}(F:Srt l):∀p,p<=l.length->Inc (cpN l p)/\∀x,x∈cpN l p↔x∈l.take p
 |0,_=>⟨trivial,by simp[cpN]⟩
 |p+1,hp=>by
  obtain⟨Z,W⟩:=cpN_inc F p U;have b:p<l.length:=by omega
  have w:∀i(H:i<l.length),l.getD i Am=l[i]:=fun i H=>by rw[List.getD_eq_getElem?_getD,List.getElem?_eq_getElem H];rfl
  have A:∀i j(H:i<l.length)(g:j<l.length),i<j->¬B0 l[j] l[i]<0:=fun i j H g d=>(List.pairwise_iff_getElem.1 F) i j H g d;have P:l.take (p+1)=l.take p++[l[p]]:=by rw[List.take_add_one,List.getElem?_eq_getElem b];rfl
  rw[cpN,w p b];by_cases T:0<p/\B0 l[p] (l.getD (p-1) Am)=0
  ·rw[if_pos T,List.append_nil];refine⟨Z,fun x=>?_⟩;rw[W,P,List.mem_append,List.mem_singleton];constructor
   ·exact .inl
   ·rintro(h|rfl)
    ·exact h
    ·rw[w (p-1) U]at T;have:=(C4 _ _).1 T.2;rw[this];exact List.mem_take_iff_getElem.2 ⟨p-1,by omega,rfl⟩
  ·rw[if_neg T];refine⟨inc_snoc.2 ⟨Z,fun a D=>?_⟩,fun x=>?_⟩
   ·obtain⟨i,H,rfl⟩:=List.mem_take_iff_getElem.1 ((W a).1 D);have q:i<p:=by omega
    have c:i<l.length:=by omega
    have f:p-1<l.length:=by omega
    have r:B0 l[p] l[p-1]≠0:=fun e=>T ⟨by omega,by rw[w (p-1) f];exact e⟩;have o:=A (p-1) p f b U;have I:=cmpF_flip l[p] l[p-1];have k:B0 l[p-1] l[p]<0:=by omega
    by_cases n:i=p-1
    ·subst n;exact k
    ·have K:=A i (p-1) c f U;have N:=cmpF_flip l[p-1] l[i];by_cases m:B0 l[p-1] l[i]=0
     ·rw[<-(C4 _ _).1 m];exact k
     ·exact Dl _ _ _ U k
   ·rw[List.mem_append,W,P,List.mem_append]
theorem cpN_dist{l m:LF}(F:Srt l)(y:l.Perm m):cpN l l.length=dist m:=by
 obtain⟨Z,W⟩:=cpN_inc F l.length (Nat.le_refl _);refine inc_ext Z (inc_dist m) fun x=>?_;rw[W,mem_dist,List.take_length,y.mem_iff]
theorem FAt.v5{ok:Nat->Prop}{w:World}{c:LV}{f:Fml}(h:FAt ok w (.agg c.toArray) f):∃a b j s r,c=[a,b,j,s,r]:=by
 obtain⟨I,e,d,_⟩:=h.cells;have:c=I:=by simpa using e
 subst this;exact Ak d
theorem FAt.one{ok:Nat->Prop}{w:World}{c:LV}{f:Fml}(h:FAt ok w (.agg c.toArray) f):oneC c:=by
 obtain⟨I,e,_,Z⟩:=h.cells;have:c=I:=by simpa using e
 rw[this];exact Z
abbrev eqV(B:Nat):Value:=.func (.func 289) #[] #[pt B]
theorem eq_ok(w:World)(B:Nat)(c d:LV)(f g:Fml)(ok:Nat->Prop)(P:FAt ok w (.agg c.toArray) f)(a:FAt ok w (.agg d.toArray) g)(q:∀b,ok b->Unm w b)(o:szF f<=1000000)(S:Blk w B 87 [cmpV]):
  Fn Zp 289 [.agg c.toArray,.agg d.toArray,pt B] w fun u w'=>u=.bool (decide (B0 f g=0))/\Ext w w':=by
 obtain⟨e,h,j,s,r,rfl⟩:=P.v5;obtain⟨m,p,x,z,k,rfl⟩:=a.v5;have N:=P.lt;have l:=a.lt;refine AN Tryz.func289 rfl Tryz.ntmps289 (go ?_);refine A3 (L:=[e,h,j,s,r]) rfl (fun C A=>?_);refine A3 (L:=[m,p,x,z,k]) rfl (fun t W=>go ?_);have n:=A.D.E W.E O;have v:=W.D;have Q:=A.E.trans W.E;have y:=S.E Q O;refine go ?_;refine A9 (v1:=[]) (v2:=[]) (vs:=[.agg #[e,h,j,s,r],.agg #[m,p,x,z,k]]) rfl (fcompare_ok t _ _ f g _ _ (N.E Q (fun _ _=>by simp)) (l.E Q (fun _ _=>by simp)) (.inl fun b S=>(q b S.1).eq (Q.block b S.2 O)) o) rfl ?_;rintro _ D⟨rfl,i⟩;by_cases T:B0 f g=0
 ·refine go ?_;exact AC rfl ⟨by rw[decide_eq_true T];rfl,Q.trans i⟩
 ·refine go ?_;exact AC rfl ⟨by rw[decide_eq_false T];rfl,Q.trans i⟩
theorem row_cellsS{w:World}{g e n p:Nat}{R:LV}{L:List (LV)}{c:LV}(S:Blk w g e R)(a:R.take (n*5)=L.flatten)(d:∀c∈L,c.length=5)(y:L[p]?=some c)(I:L.length=n):Cells w g (p*5) c:=by
 intro i u b;refine S.cell ?_;have Z:=CR 5 L p i c u d y b;rw[<-a,List.getElem?_take]at Z
 split at Z
 ·exact Z
 ·cases Z
theorem row_cells2{w:World}{g e n p q:Nat}{R:LV}{L v:List (LV)}{c:LV}(S:Blk w g e (v.flatten++R.drop (q*5)))(K:v.flatten.length=q*5)(z:q<=p)(a:R.take (n*5)=L.flatten)(d:∀c∈L,c.length=5)(y:L[p]?=some c)(I:L.length=n):Cells w g (p*5) c:=by
 intro i u b;refine S.cell ?_;have Z:=CR 5 L p i c u d y b;rw[<-a,List.getElem?_take]at Z
 split at Z
 ·rw[List.getElem?_append_right (by rw[K];omega),K,List.getElem?_drop];rw[show q*5+(p*5+i-q*5)=p*5+i by omega];exact Z
 ·cases Z
theorem take_flat(L:List (LV))(d:∀c∈L,c.length=5)(k:Nat):(L.take k).flatten=L.flatten.take (k*5):=by
 by_cases a:k<=L.length
 ·have e:L.flatten=(L.take k).flatten++(L.drop k).flatten:=by rw[<-List.flatten_append,List.take_append_drop]
  have K:(L.take k).flatten.length=k*5:=by rw[Bw 5 _ fun c T=>d c (List.mem_of_mem_take T),List.length_take,Nat.min_eq_left a]
  rw[e,<-K,List.take_left]
 ·rw[List.take_of_length_le U,List.take_of_length_le (by rw[Bw 5 L d];omega)]
theorem FsAt.take{ok:Nat->Prop}{w:World}{L:List (LV)}{l:LF}(h:FsAt ok w L l)(k:Nat):FsAt ok w (L.take k) (l.take k):=by
 refine⟨by simp[h.1],fun c T=>h.2.1 c (List.mem_of_mem_take T),fun i c g T a=>?_⟩;rw[List.getElem?_take]at T a
 split at T
 ·rename_i hi;rw[if_pos hi]at a;exact h.2.2 i c g T a
 ·cases T
theorem FsAt.at{ok:Nat->Prop}{w:World}{L:List (LV)}{l:LF}(h:FsAt ok w L l){k:Nat}(e:k<l.length):∃f a j s r,L[k]?=some [f,a,j,s,r]/\l[k]?=some (l.getD k Am)/\FAt ok w (.agg [f,a,j,s,r].toArray) (l.getD k Am):=by
 have b:l[k]?=some (l.getD k Am):=by rw[List.getD_eq_getElem?_getD,List.getElem?_eq_getElem e];rfl
 have I:k<L.length:=by rw[h.1];exact e
 obtain⟨c,d⟩:∃c,L[k]?=some c:=⟨_,List.getElem?_eq_getElem I⟩;have P:=h.2.2 k c _ d b;obtain⟨f,a,j,s,r,rfl⟩:=P.v5;exact⟨f,a,j,s,r,d,b,P⟩
theorem compact_ok(w:World)(B:Nat)(v:Value)(l:LF)(L:List (LV))(ok:Nat->Prop)(d:Nat)(ho:w.ownsRow B 37 5 v l.length L.flatten)(D:FsAt ok w L l)
  (Z:∀b,ok b->Unm w b/\b<w.heap.size/\v.ownBlock≠some b)(hz:∀x∈l,szF x<=1000000)(b0:Blk w d 87 [cmpV])(hc1:v.ownBlock≠some d):
  Fn Zp 288 [v,eqV d] w fun u w'=>Keep v.ownBlock.toList w w'/\u.ownBlock=v.ownBlock/\∃L',w'.ownsRow B 37 5 u (cpN l l.length).length L'.flatten/\FsAt ok w L' (cpN l l.length):=by
 obtain⟨p,n,E,hv,c2⟩:∃p n E,v=.slice p n E/\n=l.length:=by
  rcases ho.2 with⟨e,t⟩|⟨g,E,G,e,_⟩
  ·exact⟨_,_,_,e,t.symm⟩
  ·exact⟨_,_,_,e,rfl⟩
 have m:=D.2.1;have a0:=D.1;by_cases h2:l.length<2
 ·have M:cpN l l.length=l:=by rw[cpN_take l.length (Nat.le_refl _) (fun i t hi=>by omega),List.take_length]
  rw[M];subst hv c2;refine AN Tryz.func288 rfl Tryz.ntmps288 (go ?_);exact AC rfl ⟨Keep.refl _ _,rfl,L,ho,D⟩
 ·rcases ho.2 with⟨e,t⟩|⟨g,c3,G,e,hB,hg,c9,b1,b7,ht⟩
  ·omega
  subst e;cases hv;have a1:Blk w g 37 G.toList:=hg;have a9:∀b,ok b->b∉[g]:=fun b S hx=>by simp at hx;exact(Z b S).2.2 (by rw[hx];rfl)
  have c4:d≠g:=fun e=>hc1 (by rw[e];rfl);have c5:=a1.lt;have a5:G.toList.length=E*5:=by simpa using b7
  have c8:E<=9223372036854775807:=by unfold maxLen at b1;omega
  refine AN Tryz.func288 rfl Tryz.ntmps288 (go ?_);refine Ar (α:=Nat) (fun k=>[(0,.slice (sm g) l.length E),(1,eqV d),(5,iV (k:Int))]) (fun k W=>1<=k/\k<=l.length/\Ext w W/\∀i,0<i->i<k->B0 (l.getD i Am) (l.getD (i-1) Am)≠0) (fun k=>l.length-k) 1 ag ⟨by omega,by omega,Ext.refl _,fun i t hi=>by omega⟩ ?_;rintro k W fr⟨c6,hk,kW,a6⟩;refine go ?_;by_cases c0:k<l.length
  ·refine go ?_;obtain⟨f,c,j,s,C,a3,a8,R⟩:=D.at c0;obtain⟨y0,y1,y2,y3,y4,a4,b9,a7⟩:=D.at (k:=k-1) U;refine Ac (rd 0 10 (.alt 10 .done .stop)) Ap EO (fun N kd ed=>⟨Ext N,?_,?_⟩)
   ·exact FQ
   have Q:=kW.trans kd
   have s1:∀V,Ext N V->Cells V g (0+k*5) [f,c,j,s,C]:=fun V e=>by
    rw[Nat.zero_add];exact row_cellsS (a1.E (Q.trans e) O) ht m a3 a0
   have s2:∀V,Ext N V->Cells V g (0+((k:Int)-1).toNat*5) [y0,y1,y2,y3,y4]:=fun V e=>by
    rw[Nat.zero_add,show((k:Int)-1).toNat=k-1 by omega];exact row_cellsS (a1.E (Q.trans e) O) ht m a4 a0
   ((refine D_R rfl rfl (fun W o=>M_func rfl dz) ?_)<;>(refine D_R rfl rfl (fun W o=>Ay rfl dz) ?_)<;>(refine D_R rfl rfl (fun W o=>AS rfl dz) ?_)<;>(apply D_R rfl rfl;(intro W o;refine CG rfl rfl rfl U ?_;exact AA ⟨rfl,rfl,rfl⟩))<;>(apply D_R rfl rfl;(intro W o;refine AQ rfl EQ (s1 W o) ?_;exact AA ⟨rfl,rfl,rfl⟩))<;>(refine D_R rfl rfl (fun W o=>Ay rfl dz) ?_)<;>(refine D_R rfl rfl (fun W o=>AS rfl dz) ?_)<;>(apply D_R rfl rfl;(intro W o;refine W_sub rfl rfl Ea ?_;exact AA ⟨rfl,rfl,rfl⟩))<;>(apply D_R rfl rfl;(intro W o;refine Bt rfl rfl U U ?_;exact AA ⟨rfl,rfl,rfl⟩))<;>(apply D_R rfl rfl;(intro W o;refine AQ rfl EQ (s2 W o) ?_;exact AA ⟨rfl,rfl,rfl⟩)))
   refine D_E rfl ?_;refine A9 (v1:=[]) (v2:=[pt d]) (vs:=[.agg [f,c,j,s,C].toArray,.agg [y0,y1,y2,y3,y4].toArray]) rfl (eq_ok N d _ _ _ _ ok (R.ext Q) (a7.ext Q) (fun b S=>(Z b S).1.eq (Q.block b (Z b S).2.1 O)) (hz _ (List.mem_of_getElem? a8)) (b0.E Q O)) rfl ?_;rintro _ w4⟨rfl,I⟩;refine AA ⟨Ext N,fun _ e=>e,I,?_⟩;have A:=Q.trans I;by_cases T:B0 (l.getD k Am) (l.getD (k-1) Am)=0
   ·rw[decide_eq_true T];refine Bc ?_;repeat refine nx rfl ?_
    refine AJ (Ay rfl (AS rfl ?_));refine W_slice_lS rfl rfl U U ?_;((refine AO ?_;refine Ay rfl ?_))
    repeat refine nx rfl ?_
    refine AJ (AO (AS rfl ?_));repeat refine nx rfl ?_
    have M:cpN l (k+1)=l.take k:=by rw[cpN,if_pos ⟨by omega,T⟩,List.append_nil,cpN_take k hk a6]
    have b6:(L.take k).flatten++G.toList.drop (k*5)=G.toList:=by
     rw[take_flat L m,<-ht,List.take_take,Nat.min_eq_left U,List.take_append_drop]
    refine Ar (α:=Nat×Nat×List (LV)) (fun|(q,r,_)=>[(0,.slice (some ⟨g,0,none⟩) l.length E),(1,eqV d),(5,.int .i64 (q:Int)),(6,.slice (some ⟨g,0+k*5,none⟩) (l.length-k) (E-k)),(7,.int .i64 (r:Int))])
     (fun y V=>1<=y.2.1/\k+y.2.1<=l.length/\y.1<k+y.2.1/\y.1=(cpN l (k+y.2.1)).length/\Keep [g] w V/\Blk V g 37 (y.2.2.flatten++G.toList.drop (y.1*5))/\FsAt ok w y.2.2 (cpN l (k+y.2.1))) (fun y=>l.length-y.2.1) (k,1,L.take k) ag
     ⟨by simp,by simp only;omega,by simp only;omega,by simp only;rw[M,List.length_take];omega,A.any,by simp only;rw[b6];exact a1.E A O,by simp only;rw[M];exact D.take k⟩ ?_
    rintro⟨q,r,a⟩V fr⟨c1,hr,b2,K,kV,bV,H⟩;simp only at c1 hr b2 K kV bV H;have z:a.flatten.length=q*5:=by rw[H.flat,<-K]
    repeat refine nx rfl ?_
    by_cases c7:r<l.length-k
    ·(refine AJ (AS rfl (Ay rfl (Bi rfl ?_)))<;>(refine C6 rfl rfl (fun T=>?_) (fun T=>?_)<;>try omega))
     repeat refine nx rfl ?_
     obtain⟨f,c,j,s,C,a3,a8,R⟩:=D.at (k:=k+r) U;obtain⟨y0,y1,y2,y3,y4,a4,b9,a7⟩:=D.at (k:=k+r-1) U;refine Ac (rd 0 10 (.alt 10 (.read 11 .done) .stop)) Ap EO (fun N kd ed=>⟨Ext N,?_,?_⟩)
     ·exact FQ
     have Q:=kV.ext kd;have bd:=bV.E kd O
     have s1:∀F,Ext N F->Cells F g (0+k*5+r*5) [f,c,j,s,C]:=fun F e=>by
      rw[show 0+k*5+r*5=(k+r)*5 by omega];exact row_cells2 (bd.E e O) z U ht m a3 a0
     have s2:∀F,Ext N F->Cells F g (0+k*5+((r:Int)-1).toNat*5) [y0,y1,y2,y3,y4]:=fun F e=>by
      rw[show 0+k*5+((r:Int)-1).toNat*5=(k+r-1)*5 by omega];exact row_cells2 (bd.E e O) z U ht m a4 a0
     ((refine D_R rfl rfl (fun W o=>M_func rfl dz) ?_)<;>(refine D_R rfl rfl (fun W o=>Ay rfl dz) ?_)<;>(refine D_R rfl rfl (fun W o=>AS rfl dz) ?_)<;>(apply D_R rfl rfl;(intro W o;refine CG rfl rfl rfl U ?_;exact AA ⟨rfl,rfl,rfl⟩))<;>(apply D_R rfl rfl;(intro W o;refine AQ rfl EQ (s1 W o) ?_;exact AA ⟨rfl,rfl,rfl⟩))<;>(refine D_R rfl rfl (fun W o=>Ay rfl dz) ?_)<;>(refine D_R rfl rfl (fun W o=>AS rfl dz) ?_)<;>(apply D_R rfl rfl;(intro W o;refine W_sub rfl rfl Ea ?_;exact AA ⟨rfl,rfl,rfl⟩))<;>(apply D_R rfl rfl;(intro W o;refine Bt rfl rfl U U ?_;exact AA ⟨rfl,rfl,rfl⟩))<;>(apply D_R rfl rfl;(intro W o;refine AQ rfl EQ (s2 W o) ?_;exact AA ⟨rfl,rfl,rfl⟩)))
     refine D_E rfl ?_;refine A9 (v1:=[]) (v2:=[pt d]) (vs:=[.agg [f,c,j,s,C].toArray,.agg [y0,y1,y2,y3,y4].toArray]) rfl (eq_ok N d _ _ _ _ ok (R.E Q a9) (a7.E Q a9) (fun b S=>(Z b S).1.eq (Q.block b (Z b S).2.1 (a9 b S))) (hz _ (List.mem_of_getElem? a8)) (b0.E Q EP)) rfl ?_;rintro _ w4⟨rfl,I⟩;refine AA ⟨Ext N,fun _ e=>e,I,?_⟩;have A:=Q.ext I;have b5:=bd.E I O
     have X:cpN l (k+(r+1))=cpN l (k+r)++if B0 (l.getD (k+r) Am) (l.getD (k+r-1) Am)=0 then[]else[l.getD (k+r) Am]:=by
      show cpN l (k+r+1)=_;rw[cpN];by_cases h:B0 (l.getD (k+r) Am) (l.getD (k+r-1) Am)=0
      ·rw[if_pos ⟨by omega,h⟩,if_pos h]
      ·rw[if_neg (fun hh=>h hh.2),if_neg h]
     by_cases a2:B0 (l.getD (k+r) Am) (l.getD (k+r-1) Am)=0
     ·rw[decide_eq_true a2];rw[if_pos a2,List.append_nil]at X;((refine D_R rfl rfl (fun W o=>W_not rfl dz) ?_)<;>refine Bc ?_)
      repeat first|refine nx rfl ?_|refine nf rfl ?_
      (refine AJ (AS rfl ?_)<;>refine W_add rfl rfl Ea ?_<;>refine AO (AS rfl ?_))
      repeat refine nx rfl ?_
      refine⟨(q,r+1,a),⟨rfl,⟨rfl,rfl,rfl,rfl,?_,trivial⟩,⟨by simp,by simp only;omega,by simp only;omega,by simp only;rw[X];exact K,A,b5,by simp only;rw[X];exact H⟩⟩,by simp only;omega⟩;show iV ((r:Int)+1)=_;rw[Int.natCast_add];rfl
     ·rw[decide_eq_false a2];rw[if_neg a2]at X;((refine D_R rfl rfl (fun W o=>W_not rfl dz) ?_)<;>refine Bc ?_)
      repeat refine nx rfl ?_
      (refine AJ (Ay rfl (AS rfl (Ay rfl (AS rfl ?_))))<;>refine CG rfl rfl rfl U ?_)
      refine AQ (L:=[f,c,j,s,C]) rfl rfl (s1 w4 I) ?_;(refine CG rfl rfl rfl U ?_)
      have b3:q*5+5<=(a.flatten++G.toList.drop (q*5)).length:=by rw[List.length_append,z,List.length_drop,a5];omega
      refine AI (cs:=[f,c,j,s,C]) rfl rfl rfl R.one b5 (by show 0+q*5+5<=_;omega) (fun w5 p5=>?_);repeat refine nx rfl ?_
      (refine AJ (AS rfl ?_)<;>refine W_add rfl rfl Ea ?_<;>refine AO (AS rfl ?_))
      repeat refine nx rfl ?_
      (refine AJ (AS rfl ?_)<;>refine W_add rfl rfl Ea ?_<;>refine AO (AS rfl ?_))
      repeat refine nx rfl ?_
      have e5:splice (a.flatten++G.toList.drop (q*5)) (0+q*5) [f,c,j,s,C]=(a++[[f,c,j,s,C]]).flatten++G.toList.drop ((q+1)*5):=by
       unfold splice;rw[Nat.zero_add,<-z,List.take_left,List.drop_append,List.drop_of_length_le U,List.drop_drop,z,List.nil_append,List.flatten_append];simp[show(q+1)*5=q*5+5 by omega]
      have P:=p5.D;rw[e5]at P;refine⟨(q+1,r+1,a++[[f,c,j,s,C]]),⟨rfl,⟨rfl,rfl,?_,rfl,?_,trivial⟩,⟨by simp,by simp only;omega,by simp only;omega,by simp only;rw[X,List.length_append,<-K];rfl,A.trans p5.E (fun _ h _=>h),P,by simp only;rw[X];exact H.snoc R rfl⟩⟩,by simp only;omega⟩
      ·show iV ((q:Int)+1)=_;rw[Int.natCast_add];rfl
      ·show iV ((r:Int)+1)=_;rw[Int.natCast_add];rfl
    ·(refine AJ (AS rfl (Ay rfl (Bi rfl ?_)))<;>(refine C6 rfl rfl (fun T=>?_) (fun T=>?_)<;>try omega))
     repeat first|refine nx rfl ?_|refine nf rfl ?_
     obtain rfl:r=l.length-k:=by omega
     rw[show k+(l.length-k)=l.length by omega]at K H b2;refine AJ (Ay rfl (AS rfl ?_));refine W_slice_lS rfl rfl U U ?_;have b3:0+q*5+(l.length-q)*5<=(a.flatten++G.toList.drop (q*5)).length:=by rw[List.length_append,z,List.length_drop,a5];omega
     refine W_clear (L0:=zero5) rfl U (AV rfl) bV (by rw[show zero5.length=5 from rfl];exact b3) (fun w5 zs b4 p5=>?_);repeat refine nx rfl ?_
     (refine AJ (Ay rfl (AS rfl ?_))<;>refine W_slice_h rfl rfl U U ?_<;>refine AO (Ay rfl ?_))
     repeat refine nx rfl ?_
     have P:=p5.D;rw[show zero5.length=5 from rfl]at b4
     have e5:splice (a.flatten++G.toList.drop (q*5)) (0+q*5) zs=a.flatten++(zs++(G.toList.drop (q*5)).drop zs.length):=by
      unfold splice;rw[Nat.zero_add,<-z,List.take_left,List.drop_append,List.drop_of_length_le U,z,List.nil_append,show q*5+zs.length-q*5=zs.length by omega]
     rw[e5]at P;refine AC rfl ⟨kV.trans p5.E (fun _ h _=>h),rfl,a,⟨by rw[H.flat],.inr ⟨g,E,_,?_,hB,P,by omega,b1,?_,?_⟩⟩,H⟩
     ·rw[<-K];rfl
     ·simp only[List.size_toArray,List.length_append,List.length_drop,a5,z,b4];omega
     ·rw[<-K,<-z];simp
   ·rw[decide_eq_false T];refine go ?_;refine⟨k+1,⟨rfl,⟨rfl,rfl,?_,trivial⟩,⟨by omega,by omega,A,fun i t hi=>?_⟩⟩,by omega⟩
    ·show iV ((k:Int)+1)=_;rw[Int.natCast_add];rfl
    ·by_cases b8:i=k
     ·subst b8;exact T
     ·exact a6 i t U
  ·refine go ?_;obtain rfl:k=l.length:=by omega
   refine go ?_;have M:cpN l l.length=l:=by rw[cpN_take l.length (Nat.le_refl _) a6,List.take_length]
   rw[M];exact AC rfl ⟨kW.any,rfl,L,As ho kW,D⟩
section
variable {mk:Prop}[MK mk]
open Go.ChangeMaps (setBlock)
attribute [local semireducible] WC AT B6 BK Bz Cx DZ By
variable {P:Program}{all:Array Oper}{Z:Fr->DS->List PanicEntry->World->Prop}{K:Fr->DS->World->Prop}{rest:List Oper}{f:Fr}{ds:DS}{w:World}
 {d:Nat}{ty:TypeId}{pos:String}{af:Array Edge}
class VMapT (P:Program) (T:TypeId) (z:outParam Value):Prop where
 out:∃kt et i,P.underlying T=some (.map kt et)/\P.underlying kt=some (.int .i64)/\P.info? et=some i/\i.zero=some z
theorem vmapT_of{T a e:TypeId}{z:Value}(b:P.underlying T=some (.map a e))(W:P.underlying a=some (.int .i64))(R:(P.info? e).map (·.zero)=some (some z)):VMapT P T z:=by
 obtain⟨i,H,o⟩:=Option.map_eq_some_iff.1 R;exact⟨a,e,i,b,W,H,o⟩
def encV(p:Int×Value):Value×Value:=(iV p.1,p.2)
theorem intK_inj{a b:Int}(h:iV a=iV b):a=b:=by simpa using h
def rdV(e:MapEntry):Value×Value:=(e.key,e.val)
def VMap(w:World)(r:Nat)(L:List (Int×Value)):Prop:=
 ∃q h,w.heap[r]?=some (.map q h)/\MapKept.Stamped q h/\q.toList.map rdV=L.map encV
theorem VMap.lt{r:Nat}{L:List (Int×Value)}(h:VMap w r L):r<w.heap.size:=by
 obtain⟨q,c,a,_⟩:=h;exact(Array.getElem?_eq_some_iff.1 a).1
theorem VMap.E{X:List Nat}{w':World}{r:Nat}{L:List (Int×Value)}(h:VMap w r L)(k:Keep X w w')(G:r∉X):VMap w' r L:=by
 obtain⟨q,c,a,W,R⟩:=id h;exact⟨q,c,(k.block r h.lt G).trans a,W,R⟩
theorem keys_vint{q:List MapEntry}{L:List (Int×Value)}(h:q.map rdV=L.map encV):∀x∈q,MapKept.IsKey (.int .i64) x.key:=by
 intro x V;have:rdV x∈L.map encV:=by rw[<-h];exact List.mem_map.2 ⟨x,V,rfl⟩
 obtain⟨p,_,e⟩:=List.mem_map.1 this;have:x.key=iV p.1:=(congrArg Prod.fst e).symm;rw[this];trivial
theorem vlookup_none{L:List (Int×Value)}{x:Int}(h:∀p∈L,p.1≠x):L.lookup x=none:=by
 induction L with
 |nil=>rfl
 |cons q L ih=>
  exact GS
theorem vlookup_at{L:List (Int×Value)}(I:(L.map (·.1)).Nodup){p:Int×Value}(y:p∈L):L.lookup p.1=some p.2:=by
 induction L with
 |nil=>cases y
 |cons q L ih=>
  simp only[List.map_cons,List.nodup_cons]at I;obtain⟨a,b⟩:=q;rcases List.mem_cons.1 y with rfl|y
  ·simp[List.lookup]
  ·exact Gh
theorem nodup_vint{r:Nat}{L:List (Int×Value)}(h:VMap w r L):(L.map (·.1)).Nodup:=by
 obtain⟨q,c,_,⟨_,_,W⟩,R⟩:=h
 have e:q.toList.map (·.key)=L.map (fun p=>iV p.1):=by
  have:=congrArg (List.map Prod.fst) R;simpa[rdV,encV,List.map_map,Function.comp_def]using this
 rw[e]at W;have B:((L.map (·.1)).map (fun x=>iV x)).Nodup:=by rw[List.map_map];exact W
 exact List.Pairwise.of_map _ (fun a b g e=>g (by rw[e])) B
theorem find_vint{g:TypeId}{L:List (Int×Value)}(h:P.underlying g=some (.int .i64)){q:Array MapEntry}(s:q.toList.map rdV=L.map encV)(I:(L.map (·.1)).Nodup)(x:Int)(w:World):
  (L.lookup x=none/\(Instr.findKey g (iV x) q.toList).run P w=.ok none w/\∀e∈q.toList,e.key≠iV x)\/
  ∃i v,L.lookup x=some v/\(Instr.findKey g (iV x) q.toList).run P w=.ok (some (i,v)) w:=by
 have m:∀(i:Nat)(e:MapEntry),q.toList[i]?=some e->∃p,L[i]?=some p/\e.key=iV p.1/\e.val=p.2:=by
  exact Fo
 rcases MapKept.findNow_spec (d:=.int .i64) (k:=iV x) rfl q.toList 0 (keys_vint s)with⟨a,W⟩|⟨j,e,a,W,R⟩
 ·refine .inl ⟨vlookup_none fun p y n=>?_,MapKept.run_findKey h a,W⟩;obtain⟨i,H⟩:=List.getElem?_of_mem y;have:=congrArg (fun l=>l[i]?) s;simp only[List.getElem?_map,H,Option.map_some]at this;obtain⟨e,c,r⟩:=Option.map_eq_some_iff.1 this;refine W e (List.mem_of_getElem? c) ?_;rw[show e.key=iV p.1 from congrArg Prod.fst r,n]
 ·obtain⟨p,y,b,r⟩:=m j e W;rw[R]at b;have V:=intK_inj b;refine .inr ⟨j,p.2,?_,?_⟩
  ·rw[V];exact vlookup_at I (List.mem_of_getElem? y)
  ·have:=MapKept.run_findKey (P:=P) (w:=w) h a;rw[this,r,Nat.zero_add]
theorem W_makeMapV{T:TypeId}(h:∀w',Ext w w'->w'.heap.size=w.heap.size+1->VMap w' w.heap.size []->AT P all Z K rest (upd f d (.map (some w.heap.size))) ds w'):
  AT P all Z K (⟨some d,.makeMap T none,ty,pos,af,none⟩::rest) f ds w:=by
 refine A0 (v:=.map (some w.heap.size)) (w':=w.alloc (.map #[] 0)) rfl ?_ (h _ ⟨rfl,rfl,rfl,by simp,fun k L _=>heap_alloc_old w _ L,fun _=>mark_new O (fun k L=>heap_alloc_old w _ L) (fun c t D e=>by rw[heap_alloc_new]at e;cases e),Nat.le_refl _⟩ O ⟨#[],0,heap_alloc_new w _,MapKept.stamped_empty 0,rfl⟩);have G:(Instr.makeMap T none).run P w=.ok (.map (some w.heap.size)) (w.alloc (.map #[] 0)):=rfl;simp[execOp,G]
theorem W_lookup2V{T:TypeId}{m k:Operand}{r:Nat}{x:Int}{z:Value}{L:List (Int×Value)}[hT:VMapT P T z](s:ev f m=.map (some r))(p:ev f k=iV x)(l:VMap w r L)
  (h:AT P all Z K rest (upd f d (.tuple #[(L.lookup x).getD z,.bool (L.lookup x).isSome])) ds w):AT P all Z K (⟨some d,.lookup T m k true,ty,pos,af,none⟩::rest) f ds w:=by
 obtain⟨u,e,i,c,W,R,B⟩:=hT.out;have I:=nodup_vint l;obtain⟨q,t,S,F,g⟩:=l;refine A0 rfl ?_ h;have n:=MapKept.run_checkKey (P:=P) (w:=w) (k:=iV x) W rfl q.isEmpty 9999;have o:(zeroValue e).run P w=.ok z w:=by simp[zeroValue,typeInfo,R,B]
 rcases find_vint W g I x w with⟨b,a,_⟩|⟨j,v,b,a⟩
 ·simp[execOp,s,p,Instr.lookup,run_underlying c,MapKept.run_getObj_map S,n,a,o,b]
 ·simp[execOp,s,p,Instr.lookup,run_underlying c,MapKept.run_getObj_map S,n,a,b]
theorem setBlkV_keep{w:World}{r:Nat}{b:Obj}(a:∀c t D,b≠ .cells c t D):Keep [r] w {w with heap:=w.heap.setIfInBounds r b}:=
 ⟨rfl,rfl,rfl,by simp,fun k _ L=>by simp[Ne.symm (show k≠r by simpa using L)],fun _=>mark_obj a,Nat.le_refl _⟩
theorem A6{T:TypeId}{m k v:Operand}{r:Nat}{x:Int}{y z:Value}{L:List (Int×Value)}[hT:VMapT P T z](s:ev f m=.map (some r))(t:ev f k=iV x)(p:ev f v=y)(l:VMap w r L)(V:L.lookup x=none)
  (h:∀w',Keep [r] w w'->w'.heap.size=w.heap.size->VMap w' r (L++[(x,y)])->AT P all Z K rest f ds w'):AT P all Z K (⟨none,.insert T m k v,ty,pos,af,none⟩::rest) f ds w:=by
 obtain⟨A,e,i,n,W,R,B⟩:=hT.out;have u:=nodup_vint l;obtain⟨q,a,S,F,g⟩:=l;have o:=MapKept.run_checkKey (P:=P) (w:=w) (k:=iV x) W rfl false 9999;rcases find_vint W g u x w with⟨b,c,I⟩|⟨j,C,b,c⟩
 ·refine W_skp (w':={w with heap:=w.heap.setIfInBounds r (.map (q.push {key:=iV x,val:=y,born:=a}) (a+1))}) rfl ?_ (h _ (setBlkV_keep fun _ _ _ h=>by cases h) O ⟨_,_,(MapKept.heap_set S).1,MapKept.stamped_push F I,?_⟩)
  ·simp[execOp,s,t,p,Instr.mapUpdate,run_underlying n,MapKept.run_getObj_map S,o,c,MapKept.run_setObj_map _ S]
  ·rw[Array.toList_push,List.map_append,g];simp[rdV,encV]
 ·rw[b]at V;cases V
end
section
variable {mk:Prop}[MK mk]
section
attribute [local semireducible] WC AT B6 BK Bz Cx DZ By
variable {P:Program}{all:Array Oper}{Z:Fr->DS->List PanicEntry->World->Prop}{K:Fr->DS->World->Prop}{rest:List Oper}{f:Fr}{ds:DS}{w:World}{d:Nat}{ty:TypeId}{pos:String}{af:Array Edge}
theorem W_lookupV{T:TypeId}{m k:Operand}{r:Nat}{x:Int}{y z:Value}{L:List (Int×Value)}[hT:VMapT P T z](s:ev f m=.map (some r))(o:ev f k=iV x)(c:VMap w r L)(V:L.lookup x=some y)
  (h:AT P all Z K rest (upd f d y) ds w):AT P all Z K (⟨some d,.lookup T m k false,ty,pos,af,none⟩::rest) f ds w:=by
 obtain⟨t,e,i,l,W,R,B⟩:=hT.out;have I:=nodup_vint c;obtain⟨q,p,S,F,g⟩:=c;refine A0 rfl ?_ h;have n:=MapKept.run_checkKey (P:=P) (w:=w) (k:=iV x) W rfl q.isEmpty 9999;rcases find_vint W g I x w with⟨b,a,_⟩|⟨j,v,b,a⟩
 ·rw[b]at V;cases V
 ·rw[b]at V;cases V;simp[execOp,s,o,Instr.lookup,run_underlying l,MapKept.run_getObj_map S,n,a]
end
instance :VMapT Zp 262 .nilFunc:=vmapT_of Tryz.underlying262 Tryz.underlying3 EO
instance :VMapT Zp 263 .nilFunc:=vmapT_of Tryz.underlying263 Tryz.underlying3 EO
abbrev mvR(F:FuncId)(r:Nat):Value:=.func (.func F) #[pt r] #[]
def truT(r:Nat):List (Int×Value):=[(1,mvR 216 r),(2,mvR 217 r),(3,mvR 218 r),(4,mvR 219 r),(5,mvR 220 r),(6,mvR 221 r),(15,mvR 222 r),(16,mvR 223 r),(17,mvR 224 r)]
def rawT(r:Nat):List (Int×Value):=[(5,mvR 225 r),(6,mvR 225 r),(8,mvR 226 r),(9,mvR 227 r),(10,mvR 228 r)]
def Rdr(w:World)(r:Nat)(S:List Sgn)(x:Int):Prop:=∃X W T a z y,Blk w r 265 [.slice X S.length W,.slice T S.length a,.map (some z),.map (some y)]/\SlAt sgnR Af w (.slice X S.length W) S/\
 (∀i,i<S.length->∃g o,T=some ⟨g,o,none⟩/\w.cell? ⟨g,o+i,none⟩=some (iV (valS S x i)))/\VMap w z (truT r)/\VMap w y (rawT r)
theorem Rdr.ext{w w':World}{r:Nat}{S:List Sgn}{x:Int}(h:Rdr w r S x)(k:Ext w w'):Rdr w' r S x:=by
 obtain⟨X,c,a,b,z,y,Z,W,R,B,d⟩:=h;refine⟨X,c,a,b,z,y,Z.E k O,W.ext k,fun i H=>?_,B.E k O,d.E k O⟩;obtain⟨g,o,e,T⟩:=R i H;exact⟨g,o,e,k.cell T O⟩
theorem readerOf_ok(w:World)(sv:Value)(S:List Sgn)(x:Int)(l:SlAt sgnR Af w sv S)(hv:Bk S=true)(a4:0<=x)(a5:x<numLet S)(hK:KY w)(hN:10<=w.heap.size):
  Fn Zp 172 [sv,iV x] w fun u w'=>∃r,u=pt r/\Ext w w'/\Rdr w' r S x:=by
 obtain⟨sa,sc,rfl,_⟩:=l.len;refine AN Tryz.func172 rfl Tryz.ntmps172 (go ?_);refine A3 (L:=[.slice sa S.length sc,.slice none 0 0,.map none,.map none]) rfl (fun z n3=>go ?_);have k3:=n3.E;have z3:=n3.size;have h6:S.length<=6:=(EJ hv).2.1;refine Ar (α:=Nat×Value) (fun y=>[(0,.slice sa S.length sc),(1,iV x),(5,pt w.heap.size),(11,iV (S.length:Int)),(12,iV (y.1:Int))]) (fun y W=>y.1<=S.length/\Ext w W/\Blk W w.heap.size 265 [.slice sa S.length sc,y.2,.map none,.map none]/\W.ownsRow z.heap.size 3 1 y.2 y.1 (valsC S x y.1)/\z.heap.size<=W.heap.size) (fun y=>S.length-y.1) (0,.slice none 0 0) ag ⟨by simp,k3,n3.D,⟨rfl,.inl ⟨rfl,rfl⟩⟩,Nat.le_refl _⟩ ?_;rintro⟨k,r⟩W fr⟨hk,kW,s,P,hW⟩;simp only at hk kW s P hW;refine go ?_;by_cases hlt:k<S.length
 ·refine go ?_;refine Ac (rd 0 4 (rd 5 3 (.alt 4 (.alt 8 (.alt 9 (.alt 10 (.read 11 (.read 12 (.alt 13 .done .stop))) .stop) .stop) .stop) (.alt 8 (.alt 4 (.alt 9 (.alt 10 (.read 11 (.read 12 (.alt 13 .done .stop))) .stop) .stop) (.alt 9 (.alt 4 (.alt 10 (.read 11 (.read 12 (.alt 13 .done .stop))) .stop) .stop) .stop)) .stop)))) Ap EO (fun wd M ed=>⟨fun _=>True,?_,?_⟩)
  ·trivial
  have d:=kW.trans M;have a1:=s.E M O;have a6:=As P M;have b1:=M.size;refine go ?_;refine D_A rfl ?_ (D_E rfl ?_)
  ·refine AH rfl (a1.cell (o:=1) rfl) ?_;refine wNl trivial ?_;refine D_E rfl ?_;refine AF (value_ok wd _ S x k (l.ext d) (hK.E d O) (Nat.le_trans hN (d).size) hv a4 a5 hlt) rfl ?_;rintro _ wC⟨rfl,kC⟩;have R:=d.trans kC;have I:=a1.E kC O;have a0:=As a6 kC;have a9:=kC.size;refine wNl trivial ?_;refine D_E rfl ?_;refine AP (out:=[iV (valS S x k)]) rfl U (by rw[madeInt];rfl) (fun wB e=>?_);have kB:=e.E;have K:=e.own (n:=1) (size:=1) rfl EW (Nat.le_refl _);have j:=R.trans kB;have D:=I.E kB O;have p:=As a0 kB;have a7:=kB.size;refine wNl trivial ?_;refine D_E rfl ?_;refine Ax (ok:=Af) rfl rfl p (Aa K fun _ _=>trivial) U rfl rfl (AV rfl) U U U (fun T w7 c=>?_);refine wNl trivial ?_;refine go ?_;refine D_E rfl ?_;have G:∀g,r.ownBlock=some g->z.heap.size<=g:=fun g a=>(An p a).1;have z7:=c.E.size;have f:∀g,T.ownBlock=some g->z.heap.size<=g:=fun g a=>(An c.own a).1;refine AU (v:=T) rfl rfl (own_oneC' c.own) (D.E c.E (fun q=>by have:=G _ (Option.mem_toList.1 q);omega)) O (fun w8 t=>?_);refine wNl trivial ?_;refine go ?_;refine⟨(k+1,T),⟨rfl,⟨rfl,rfl,rfl,rfl,?_,trivial⟩,⟨by(try simp only);omega,?_,t.D,?_,by have:=t.size;(try simp only);omega⟩⟩,by simp only;omega⟩
   ·show iV ((k:Int)+1)=_;rw[Int.natCast_add];rfl
   ·exact Fi
   ·exact GI
  refine AF (value_ok wd _ S x k (l.ext d) (hK.E d O) (Nat.le_trans hN (d).size) hv a4 a5 hlt) rfl ?_;rintro _ wC⟨rfl,kC⟩;have R:=d.trans kC;have I:=a1.E kC O;have a0:=As a6 kC;have a9:=kC.size;refine wNl trivial ?_;refine D_A rfl ?_ (D_E rfl ?_)
  ·refine AH rfl (I.cell (o:=1) rfl) ?_;refine wNl trivial ?_;refine D_E rfl ?_;refine AP (out:=[iV (valS S x k)]) rfl U (by rw[madeInt];rfl) (fun wB e=>?_);have kB:=e.E;have K:=e.own (n:=1) (size:=1) rfl EW (Nat.le_refl _);have j:=R.trans kB;have D:=I.E kB O;have p:=As a0 kB;have a7:=kB.size;refine wNl trivial ?_;refine D_E rfl ?_;refine Ax (ok:=Af) rfl rfl p (Aa K fun _ _=>trivial) U rfl rfl (AV rfl) U U U (fun T w7 c=>?_);refine wNl trivial ?_;refine go ?_;refine D_E rfl ?_;have G:∀g,r.ownBlock=some g->z.heap.size<=g:=fun g a=>(An p a).1;have z7:=c.E.size;have f:∀g,T.ownBlock=some g->z.heap.size<=g:=fun g a=>(An c.own a).1;refine AU (v:=T) rfl rfl (own_oneC' c.own) (D.E c.E (fun q=>by have:=G _ (Option.mem_toList.1 q);omega)) O (fun w8 t=>?_);refine wNl trivial ?_;refine go ?_;refine⟨(k+1,T),⟨rfl,⟨rfl,rfl,rfl,rfl,?_,trivial⟩,⟨by(try simp only);omega,?_,t.D,?_,by have:=t.size;(try simp only);omega⟩⟩,by simp only;omega⟩
   ·show iV ((k:Int)+1)=_;rw[Int.natCast_add];rfl
   ·exact Fi
   ·exact GI
  refine AP (out:=[iV (valS S x k)]) rfl U (by rw[madeInt];rfl) (fun wB e=>?_);have kB:=e.E;have K:=e.own (n:=1) (size:=1) rfl EW (Nat.le_refl _);have j:=R.trans kB;have D:=I.E kB O;have p:=As a0 kB;have a7:=kB.size;refine wNl trivial ?_;refine D_E rfl ?_;refine AH rfl (D.cell (o:=1) rfl) ?_;refine wNl trivial ?_;refine D_E rfl ?_;refine Ax (ok:=Af) rfl rfl p (Aa K fun _ _=>trivial) U rfl rfl (AV rfl) U U U (fun T w7 c=>?_);refine wNl trivial ?_;refine go ?_;refine D_E rfl ?_;have G:∀g,r.ownBlock=some g->z.heap.size<=g:=fun g a=>(An p a).1;have z7:=c.E.size;have f:∀g,T.ownBlock=some g->z.heap.size<=g:=fun g a=>(An c.own a).1;refine AU (v:=T) rfl rfl (own_oneC' c.own) (D.E c.E (fun q=>by have:=G _ (Option.mem_toList.1 q);omega)) O (fun w8 t=>?_);refine wNl trivial ?_;refine go ?_;refine⟨(k+1,T),⟨rfl,⟨rfl,rfl,rfl,rfl,?_,trivial⟩,⟨by(try simp only);omega,?_,t.D,?_,by have:=t.size;(try simp only);omega⟩⟩,by simp only;omega⟩
  ·show iV ((k:Int)+1)=_;rw[Int.natCast_add];rfl
  ·exact Fi
  ·exact GI
 ·refine go ?_;obtain rfl:k=S.length:=by omega
  obtain⟨ra,rc,er,_⟩:=own_ints P;subst er;refine go ?_;refine W_makeMapV (fun wa ya za ma=>go ?_);refine A6 rfl rfl rfl ma rfl (fun wb X b mb=>?_);have yb:=(ya).E X O;replace b:=b.trans za;refine go ?_;refine A6 rfl rfl rfl mb rfl (fun wc m Z mc=>?_);have yc:=(yb).E m O;replace Z:=Z.trans b;refine go ?_;refine A6 rfl rfl rfl mc rfl (fun wd M B md=>?_);have yd:=(yc).E M O;replace B:=B.trans Z;refine go ?_;refine A6 rfl rfl rfl md rfl (fun we ke C me=>?_);have ye:=(yd).E ke O;replace C:=C.trans B;refine go ?_;refine A6 rfl rfl rfl me rfl (fun wf kf N mf=>?_);have A:=(ye).E kf O;replace N:=N.trans C;refine go ?_;refine A6 rfl rfl rfl mf rfl (fun wg kg zg mg=>?_);have yg:=(A).E kg O;replace zg:=zg.trans N;refine go ?_;refine A6 rfl rfl rfl mg rfl (fun wh kh zh mh=>?_);have yh:=(yg).E kh O;replace zh:=zh.trans zg;refine go ?_;refine A6 rfl rfl rfl mh rfl (fun wi ki zi mi=>?_);have yi:=(yh).E ki O;replace zi:=zi.trans zh;refine go ?_;refine A6 rfl rfl rfl mi rfl (fun wj kj zj mj=>?_);have yj:=(yi).E kj O;replace zj:=zj.trans zi;have b0:=s.lt;refine go ?_;refine AU (v:=.map (some W.heap.size)) rfl rfl rfl (s.E yj O) O (fun V H=>go ?_);have zV:V.heap.size=W.heap.size+1:=by rw[H.size,zj]
  have m1:VMap V W.heap.size (truT w.heap.size):=mj.E H.E EP;have eV:Ext w V:=(kW.trans yj).E H.E O;have oV:=Ai (Ai P yj (fun g a=>by simp)) H.E (fun g a=>by have:=(An P a).1;simp;omega);have bV:=H.D;clear mj ma mb mc md me mf mg mh mi yj H s P ya yb yc yd ye A yg yh yi X m M ke kf kg kh ki kj;refine go ?_;refine W_makeMapV (fun wa ya za ma=>go ?_);refine A6 rfl rfl rfl ma rfl (fun wb X b mb=>?_);have yb:=(ya).E X O;replace b:=b.trans za;refine go ?_;refine A6 rfl rfl rfl mb rfl (fun wc m Z mc=>?_);have yc:=(yb).E m O;replace Z:=Z.trans b;refine go ?_;refine A6 rfl rfl rfl mc rfl (fun wd M B md=>?_);have yd:=(yc).E M O;replace B:=B.trans Z;refine go ?_;refine A6 rfl rfl rfl md rfl (fun we ke C me=>?_);have ye:=(yd).E ke O;replace C:=C.trans B;refine go ?_;refine A6 rfl rfl rfl me rfl (fun wf kf N mf=>?_);have A:=(ye).E kf O;replace N:=N.trans C;refine go ?_;refine AU (v:=.map (some V.heap.size)) rfl rfl rfl (bV.E A O) O (fun Q F=>go ?_);have m2:VMap Q V.heap.size (rawT w.heap.size):=mf.E F.E EP;have m3:VMap Q W.heap.size (truT w.heap.size):=(m1.E A O).E F.E EP;have eU:Ext w Q:=(eV.trans A).E F.E O;have oU:=Ai (Ai oV A (fun g a=>by simp)) F.E (fun g a=>by have:=(An oV a).1;simp;omega);have q:=own_ints oU;have bU:=F.D;clear F oU oV;obtain⟨a2,c2,er,a3⟩:=q;have e1:ra=a2:=(Value.slice.inj er).1;rw[<-e1]at a3;have a8:∀i,i<S.length->∃g o,ra=some ⟨g,o,none⟩/\Q.cell? ⟨g,o+i,none⟩=some (iV (valS S x i)):=fun i hi=>a3 i _ (by simp[valsC,hi]);exact AC rfl ⟨_,rfl,eU,sa,sc,ra,rc,_,_,bU,l.ext eU,a8,m3,m2⟩
section
variable {α:Type}{p:α->Bool}{l:List α}{k:Nat}{y:α}
theorem all_stop(E:l[k]?=some y)(a:p y=false):l.all p=false:=by
 rw[<-Bool.not_eq_true,List.all_eq_true];intro h;have:=h _ (List.mem_of_getElem? E);rw[a]at this;cases this
theorem all_done(h:∀(i:Nat)(y:α),i<l.length->l[i]?=some y->p y=true):l.all p=true:=by
 rw[List.all_eq_true];intro z o;obtain⟨i,H⟩:=List.getElem?_of_mem o;exact h i z (List.getElem?_eq_some_iff.1 H).1 H
theorem any_stop(E:l[k]?=some y)(a:p y=true):l.any p=true:=by
 rw[List.any_eq_true];exact⟨y,List.mem_of_getElem? E,a⟩
theorem any_done(h:∀(i:Nat)(y:α),i<l.length->l[i]?=some y->p y=false):l.any p=false:=by
 rw[List.any_eq_false];intro z o;obtain⟨i,H⟩:=List.getElem?_of_mem o;rw[h i z (List.getElem?_eq_some_iff.1 H).1 H];exact Bool.false_ne_true
end
theorem pastL_all:∀l:LF,pastL l=l.all Dc
 | []=>rfl
 |a::l=>by rw[pastL,pastL_all l];rfl
theorem rpast_ok:∀(n:Nat)(w:World)(b o:Nat)(f:Fml),dpF f<=n->PF Af w b o f->Fn Zp 299 [.pointer (some ⟨b,o,none⟩)] w fun u w'=>u=.bool (Dc f)/\Ext w w':=by
 intro n
 induction n with
 |zero=>intro w b o f I;rw[CX]at I;omega
 |succ n ih=>
 intro w b o f I P;rw[CX]at I;obtain⟨C,X,r,q0,q1,q2,q3,G,T⟩:=P.all;obtain⟨M,nm,v,V,h⟩:=f;simp only[Fml.op,Fml.name,Fml.val,Fml.args]at*
 have K:∀(k:Nat)(a:Fml),h[k]?=some a->∀W,Ext w W->∃g s,C=some ⟨g,s,none⟩/\Fn Zp 299 [.pointer (some ⟨g,s+k*5,none⟩)] W fun u w'=>u=.bool (Dc a)/\Ext W w':=fun k a D W F=>by
  obtain⟨g,s,e,R⟩:=T k a D;have Q:=List.mem_of_getElem? D;have:=Ce Q;exact⟨g,s,e,ih W g _ a U (R.E F (fun _ _=>by simp))⟩
 refine AN Tryz.func299 rfl Tryz.ntmps299 (go ?_);rw[Dc];by_cases t:M=8
 ·subst t;exact Fk
 by_cases m:M=9
 ·subst m;exact Fk
 by_cases N:M=10
 ·subst N;exact Fk
 have S:(!(decide (M=8)||decide (M=9)||decide (M=10))&&pastL h)=h.all Dc:=by
  rw[pastL_all];simp[t,m,N]
 rw[S];refine go ?_;refine Ar (α:=Nat) (fun k=>[(0,.pointer (some ⟨b,o,none⟩)),(27,iV (h.length:Int)),(28,iV (k:Int))]) (fun k W=>k<=h.length/\Ext w W/\∀(i:Nat)(y:Fml),i<k->h[i]?=some y->Dc y=true) (fun k=>h.length-k) 0 (by repeat (first|exact trivial|refine⟨rfl,?_⟩)) ⟨by omega,Ext.refl _,fun i y H=>by omega⟩ ?_;rintro k W Z⟨a0,q,B⟩;have a1:=q.cell G O;refine go ?_;by_cases x:k<h.length
 ·refine go ?_;obtain⟨y,E⟩:∃y,h[k]?=some y:=⟨_,List.getElem?_eq_getElem x⟩;obtain⟨g,s,rfl,d⟩:=K k y E W q;refine go ?_;refine AF d rfl ?_;rintro _ w4⟨rfl,c⟩;have A:=q.trans c;cases hv:Dc y with
  |true=>
   refine go ?_;refine⟨k+1,⟨rfl,⟨(by repeat (first|exact trivial|refine⟨rfl,?_⟩)),⟨by omega,A,fun i z H j=>?_⟩⟩⟩,by omega⟩;by_cases L:i=k
   ·subst L;rw[E]at j;cases j;exact hv
   ·exact B i z U j
  |false=>
   refine go ?_;exact AC rfl ⟨congrArg Value.bool (all_stop E hv).symm,A⟩
 ·refine go ?_;exact AC rfl ⟨congrArg Value.bool (all_done fun i z H j=>B i z U j).symm,q⟩
theorem rnow_of(w:World)(r:Nat)(S:List Sgn)(x:Int)(F:FuncId)[hF:AM Zp F](b o:Nat)(f:Fml)(z:Rdr w r S x)(P:PF Af w b o f)(K:(truT r).lookup f.op=some (mvR F r))(v:Bool)
  (j:∀W,Ext w W->Fn Zp F [pt r,.pointer (some ⟨b,o,none⟩)] W fun u w'=>u=.bool v/\Ext W w'):Fn Zp 296 [pt r,.pointer (some ⟨b,o,none⟩)] w fun u w'=>u=.bool v/\Ext w w':=by
 obtain⟨X,D,T,C,m,B,i,t,A,s,h⟩:=z;have n:=P.opc;refine AN Tryz.func296 rfl Tryz.ntmps296 (go ?_);refine Ac (rd 0 10 (.alt 10 (.read 11 .done) .stop)) Ap EO (fun N M H=>⟨Ext N,?_,?_⟩)
 ·exact FQ
 have d:∀V,Ext N V->V.cell? ⟨r,0+2,none⟩=some (.map (some m)):=fun V e=>(i.E (M.trans e) O).cell rfl;have q:∀V,Ext N V->V.cell? ⟨b,o+0,none⟩=some (iV f.op):=fun V e=>(M.trans e).cell n O;((refine D_R rfl rfl (fun W a=>AX rfl dz) ?_)<;>(refine D_R rfl rfl (fun W a=>AG rfl dz) ?_)<;>(refine D_R rfl rfl (fun W a=>AB rfl dz) ?_)<;>(refine D_R rfl rfl (fun W a=>AH rfl (d W a) dz) ?_)<;>(refine D_R rfl rfl (fun W a=>AX rfl dz) ?_)<;>(refine D_R rfl rfl (fun W a=>AG rfl dz) ?_)<;>(refine D_R rfl rfl (fun W a=>AB rfl dz) ?_)<;>(refine D_R rfl rfl (fun W a=>AH rfl (q W a) dz) ?_))
 refine D_R rfl rfl (fun V g=>by refine W_lookupV rfl rfl (s.E (M.trans g) O) K ?_;exact AA ⟨rfl,rfl,rfl⟩) ?_;refine go ?_;refine D_E rfl ?_;refine A9 (v1:=[pt r]) (v2:=[]) (vs:=[.pointer (some ⟨b,o,none⟩)]) rfl (j N M) rfl ?_;rintro _ E⟨rfl,c⟩;refine AA ⟨Ext N,fun _ e=>e,c,?_⟩;refine go ?_;exact AC rfl ⟨rfl,M.trans c⟩
theorem ralways_ok(w:World)(r:Nat)(p:Value):Fn Zp 216 [pt r,p] w fun u w'=>u=.bool true/\Ext w w':=by
 refine AN Tryz.func216 rfl Tryz.ntmps216 (go ?_);exact AC rfl ⟨rfl,Ext.refl _⟩
theorem rnever_ok(w:World)(r:Nat)(p:Value):Fn Zp 217 [pt r,p] w fun u w'=>u=.bool false/\Ext w w':=by
 refine AN Tryz.func217 rfl Tryz.ntmps217 (go ?_);exact AC rfl ⟨rfl,Ext.refl _⟩
theorem ryest_ok(w:World)(r b o:Nat)(f:Fml)(P:PF Af w b o f):Fn Zp 222 [pt r,.pointer (some ⟨b,o,none⟩)] w fun u w'=>u=.bool (decide (f.val=1))/\Ext w w':=by
 obtain⟨_,_,_,_,_,L,_⟩:=P.all;by_cases a:f.val=1
 ·refine AN Tryz.func222 rfl Tryz.ntmps222 (go ?_);exact AC rfl ⟨by rw[decide_eq_true a];rfl,Ext.refl _⟩
 ·refine AN Tryz.func222 rfl Tryz.ntmps222 (go ?_);exact AC rfl ⟨by rw[decide_eq_false a];rfl,Ext.refl _⟩
def ArgN(w:World)(r:Nat)(x:Vl)(C:Option Addr)(args:LF):Prop:=∀(k:Nat)(a:Fml),args[k]?=some a->∀W,Ext w W->∃v b,C=some ⟨v,b,none⟩/\Fn Zp 296 [pt r,.pointer (some ⟨v,b+k*5,none⟩)] W fun u X=>u=.bool (Ck x a)/\Ext W X
theorem rnot_ok(w:World)(r b o:Nat)(x:Vl)(args:LF)(a:Fml)(C:Option Addr)(h:Nat)(G:w.cell? ⟨b,o+4,none⟩=some (.slice C args.length h))(c:ArgN w r x C args)(D:args=[a]):
  Fn Zp 219 [pt r,.pointer (some ⟨b,o,none⟩)] w fun u w'=>u=.bool (!Ck x a)/\Ext w w':=by
 subst D;obtain⟨v,e,rfl,d⟩:=c 0 a rfl w (Ext.refl _);simp only[List.length_singleton]at G;refine AN Tryz.func219 rfl Tryz.ntmps219 (go ?_);refine AF d rfl ?_;rintro _ Q⟨rfl,Z⟩;exact Fh
theorem rand_ok(w:World)(r b o:Nat)(x:Vl)(args:LF)(C:Option Addr)(h:Nat)(n:args.length<=9223372036854775807)(G:w.cell? ⟨b,o+4,none⟩=some (.slice C args.length h))(e:ArgN w r x C args):
  Fn Zp 220 [pt r,.pointer (some ⟨b,o,none⟩)] w fun u w'=>u=.bool (args.all (Ck x))/\Ext w w':=by
 refine AN Tryz.func220 rfl Tryz.ntmps220 (go ?_);refine Ar (α:=Nat) (fun k=>[(0,pt r),(1,.pointer (some ⟨b,o,none⟩)),(10,iV (args.length:Int)),(11,iV (k:Int))]) (fun k W=>k<=args.length/\Ext w W/\∀(i:Nat)(y:Fml),i<k->args[i]?=some y->Ck x y=true) (fun k=>args.length-k) 0 (by repeat (first|exact trivial|refine⟨rfl,?_⟩)) ⟨by omega,Ext.refl _,fun i y H=>by omega⟩ ?_;rintro k W D⟨m,q,v⟩;have Q:=q.cell G O;refine go ?_;by_cases g:k<args.length
 ·refine go ?_;obtain⟨y,E⟩:∃y,args[k]?=some y:=⟨_,List.getElem?_eq_getElem g⟩;obtain⟨j,s,rfl,d⟩:=e k y E W q;refine go ?_;refine AF d rfl ?_;rintro _ t⟨rfl,c⟩;have A:=q.trans c;cases hv:Ck x y with
  |true=>
   refine go ?_;refine⟨k+1,⟨rfl,⟨(by repeat (first|exact trivial|refine⟨rfl,?_⟩)),⟨by omega,A,fun i z H a=>?_⟩⟩⟩,by omega⟩;by_cases f:i=k
   ·subst f;rw[E]at a;cases a;exact hv
   ·exact v i z U a
  |false=>
   refine go ?_;exact AC rfl ⟨congrArg Value.bool (all_stop E hv).symm,A⟩
 ·refine go ?_;exact AC rfl ⟨congrArg Value.bool (all_done fun i z H a=>v i z U a).symm,q⟩
theorem ror_ok(w:World)(r b o:Nat)(x:Vl)(args:LF)(C:Option Addr)(h:Nat)(n:args.length<=9223372036854775807)(G:w.cell? ⟨b,o+4,none⟩=some (.slice C args.length h))(e:ArgN w r x C args):
  Fn Zp 221 [pt r,.pointer (some ⟨b,o,none⟩)] w fun u w'=>u=.bool (args.any (Ck x))/\Ext w w':=by
 refine AN Tryz.func221 rfl Tryz.ntmps221 (go ?_);refine Ar (α:=Nat) (fun k=>[(0,pt r),(1,.pointer (some ⟨b,o,none⟩)),(10,iV (args.length:Int)),(11,iV (k:Int))]) (fun k W=>k<=args.length/\Ext w W/\∀(i:Nat)(y:Fml),i<k->args[i]?=some y->Ck x y=false) (fun k=>args.length-k) 0 (by repeat (first|exact trivial|refine⟨rfl,?_⟩)) ⟨by omega,Ext.refl _,fun i y H=>by omega⟩ ?_;rintro k W D⟨m,q,v⟩;have Q:=q.cell G O;refine go ?_;by_cases g:k<args.length
 ·refine go ?_;obtain⟨y,E⟩:∃y,args[k]?=some y:=⟨_,List.getElem?_eq_getElem g⟩;obtain⟨j,s,rfl,d⟩:=e k y E W q;refine go ?_;refine AF d rfl ?_;rintro _ t⟨rfl,c⟩;have A:=q.trans c;cases hv:Ck x y with
  |false=>
   refine go ?_;refine⟨k+1,⟨rfl,⟨(by repeat (first|exact trivial|refine⟨rfl,?_⟩)),⟨by omega,A,fun i z H a=>?_⟩⟩⟩,by omega⟩;by_cases f:i=k
   ·subst f;rw[E]at a;cases a;exact hv
   ·exact v i z U a
  |true=>
   refine go ?_;exact AC rfl ⟨congrArg Value.bool (any_stop E hv).symm,A⟩
 ·refine go ?_;exact AC rfl ⟨congrArg Value.bool (any_done fun i z H a=>v i z U a).symm,q⟩
theorem rsince_ok(w:World)(r b o:Nat)(x:Vl)(v:Int)(args:LF)(a c:Fml)(C:Option Addr)(h:Nat)(L:w.cell? ⟨b,o+2,none⟩=some (iV v))(G:w.cell? ⟨b,o+4,none⟩=some (.slice C args.length h))(f:ArgN w r x C args)(D:args=[a,c]):
  Fn Zp 223 [pt r,.pointer (some ⟨b,o,none⟩)] w fun u w'=>u=.bool (Ck x c||(decide (v=1)&&Ck x a))/\Ext w w':=by
 subst D;obtain⟨n,q,rfl,d⟩:=f 1 c rfl w (Ext.refl _);simp only[List.length_cons,List.length_nil]at G;refine AN Tryz.func223 rfl Tryz.ntmps223 (go ?_);refine AF d rfl ?_;rintro _ Q⟨rfl,Z⟩;have m:=Z.cell L O;have R:=Z.cell G O;obtain⟨_,_,i,j⟩:=f 0 a rfl Q Z;cases i;cases hc1:Ck x c with
 |true=>
  exact Fh
 |false=>
  by_cases g:v=1
  ·subst g;refine go ?_;refine AF j rfl ?_;rintro _ N⟨rfl,e⟩;exact F9
  ·rw[decide_eq_false g];exact Fh
theorem rtrig_ok(w:World)(r b o:Nat)(x:Vl)(v:Int)(args:LF)(a c:Fml)(C:Option Addr)(h:Nat)(L:w.cell? ⟨b,o+2,none⟩=some (iV v))(G:w.cell? ⟨b,o+4,none⟩=some (.slice C args.length h))(f:ArgN w r x C args)(D:args=[a,c]):
  Fn Zp 224 [pt r,.pointer (some ⟨b,o,none⟩)] w fun u w'=>u=.bool (Ck x c&&(decide (v=1)||Ck x a))/\Ext w w':=by
 subst D;obtain⟨n,q,rfl,d⟩:=f 1 c rfl w (Ext.refl _);simp only[List.length_cons,List.length_nil]at G;refine AN Tryz.func224 rfl Tryz.ntmps224 (go ?_);refine AF d rfl ?_;rintro _ Q⟨rfl,Z⟩;have m:=Z.cell L O;have R:=Z.cell G O;obtain⟨_,_,i,j⟩:=f 0 a rfl Q Z;cases i;cases hc1:Ck x c with
 |false=>
  exact Fh
 |true=>
  by_cases g:v=1
  ·subst g;exact Fh
  ·rw[decide_eq_false g];refine go ?_;refine AF j rfl ?_;rintro _ N⟨rfl,e⟩;exact F9
theorem rdis_ok(w:World)(r b o:Nat)(S:List Sgn)(x:Int)(c:LU)(v:Int)(z:Rdr w r S x)(d:w.cell? ⟨b,o+1,none⟩=some (AL c))(E:w.cell? ⟨b,o+2,none⟩=some (iV v))(L:knS S c v=true):
  Fn Zp 218 [pt r,.pointer (some ⟨b,o,none⟩)] w fun u w'=>u=.bool (decide (vlS S x c=v))/\Ext w w':=by
 obtain⟨j,s,g,F,B⟩:=kn_find L;obtain⟨X,Z,ra,K,mt,mr,f,t,G,_,_⟩:=z;have C:=(List.getElem?_eq_some_iff.1 F).1;obtain⟨i,I,rfl,n⟩:=G j C;have m:findM S c=(j:Int):=by unfold findM;rw[g]
 have D:vlS S x c=valS S x j:=by unfold vlS;rw[g]
 rw[D];refine AN Tryz.func218 rfl Tryz.ntmps218 (go ?_);refine Ac (rd 0 12 (rd 15 4 (.alt 12 (.read 13 (.read 14 (.read 19 (.read 20 .done)))) .stop))) Ap EO (fun N M H=>⟨Ext N,?_,?_⟩)
 ·exact FQ
 have P:∀V,Ext N V->V.cell? ⟨r,0+0,none⟩=some (.slice X S.length Z):=fun V e=>(f.E (M.trans e) O).cell rfl;have Q:∀V,Ext N V->V.cell? ⟨r,0+1,none⟩=some (.slice (some ⟨i,I,none⟩) S.length K):=fun V e=>(f.E (M.trans e) O).cell rfl;have R:∀V,Ext N V->V.cell? ⟨b,o+1,none⟩=some (AL c):=fun V e=>(M.trans e).cell d O;have A:∀V,Ext N V->V.cell? ⟨b,o+2,none⟩=some (iV v):=fun V e=>(M.trans e).cell E O;have q:∀V,Ext N V->V.cell? ⟨i,I+j,none⟩=some (iV (valS S x j)):=fun V e=>(M.trans e).cell n O;((refine D_R rfl rfl (fun W a=>AX rfl dz) ?_)<;>(refine D_R rfl rfl (fun W a=>AG rfl dz) ?_)<;>(refine D_R rfl rfl (fun W a=>AB rfl dz) ?_)<;>(refine D_R rfl rfl (fun W a=>AH rfl (Q W a) dz) ?_)<;>(refine D_R rfl rfl (fun W a=>AX rfl dz) ?_)<;>(refine D_R rfl rfl (fun W a=>AG rfl dz) ?_)<;>(refine D_R rfl rfl (fun W a=>AB rfl dz) ?_)<;>(refine D_R rfl rfl (fun W a=>AH rfl (P W a) dz) ?_)<;>(refine D_R rfl rfl (fun W a=>AX rfl dz) ?_)<;>(refine D_R rfl rfl (fun W a=>AG rfl dz) ?_)<;>(refine D_R rfl rfl (fun W a=>AB rfl dz) ?_)<;>(refine D_R rfl rfl (fun W a=>AH rfl (R W a) dz) ?_)<;>(refine D_R rfl rfl (fun W a=>AX rfl dz) ?_)<;>(refine D_R rfl rfl (fun W a=>AG rfl dz) ?_)<;>(refine D_R rfl rfl (fun W a=>AB rfl dz) ?_)<;>(refine D_R rfl rfl (fun W a=>AH rfl (A W a) dz) ?_))
 refine D_E rfl ?_;refine AF (sigFind_ok N _ S c (t.ext M)) rfl ?_;rintro _ N⟨rfl,rfl⟩;rw[m];refine AA ⟨Ext N,fun _ e=>e,Ext.refl _,?_⟩;by_cases h:valS S x j=v
 ·((apply D_R rfl rfl;(intro W a;refine W_idx1 rfl rfl rfl U ?_;exact AA ⟨rfl,rfl,rfl⟩))<;>(refine D_R rfl rfl (fun W a=>AH rfl (q W a) dz) ?_)<;>(refine D_eql rfl rfl rfl rfl (fun T=>?_) (fun T=>?_)<;>try omega)<;>(refine D_R rfl rfl (fun W a=>AO (AE rfl dz)) ?_)<;>refine Bc ?_)
  refine go ?_;exact AC rfl ⟨by rw[decide_eq_true h];rfl,M⟩
 ·((apply D_R rfl rfl;(intro W a;refine W_idx1 rfl rfl rfl U ?_;exact AA ⟨rfl,rfl,rfl⟩))<;>(refine D_R rfl rfl (fun W a=>AH rfl (q W a) dz) ?_)<;>(refine D_eql rfl rfl rfl rfl (fun T=>?_) (fun T=>?_)<;>try omega)<;>(refine D_R rfl rfl (fun W a=>AO (AE rfl dz)) ?_)<;>refine Bc ?_)
  refine go ?_;exact AC rfl ⟨by rw[decide_eq_false h];rfl,M⟩
theorem rnow_ok(Q:World)(r:Nat)(S:List Sgn)(x:Int)(z:Rdr Q r S x):∀(n:Nat)(w:World)(b o:Nat)(f:Fml)(i:Bool),dpF f<=n->Ext Q w->PF Af w b o f->Dq i f=true->Dc f=true->isB (knS S) f=true->
  Fn Zp 296 [pt r,.pointer (some ⟨b,o,none⟩)] w fun u w'=>u=.bool (Ck (vlS S x) f)/\Ext w w':=by
 intro n
 induction n with
 |zero=>intro w b o f i I;rw[CX]at I;omega
 |succ n ih=>
 intro w b o f i I H P X A hk;rw[CX]at I;have g:=z.ext H;obtain⟨C,q,B,q0,d,L,q3,G,N⟩:=P.all;have j:=P;obtain⟨op,m,v,bd,h⟩:=f;obtain⟨a4,a6,_,a0⟩:=DH X;have M:=bare_arity a6;obtain⟨a1,a2⟩:=is_iff.1 hk;rw[nowM_eq];simp only[Dc,Bool.and_eq_true,Bool.not_eq_true',Bool.or_eq_false_iff,decide_eq_false_iff_not]at A;obtain⟨⟨⟨a8,a9⟩,a7⟩,a5⟩:=A;simp only[Fml.op,Fml.name,Fml.val,Fml.args]at I B q0 d L q3 G N⊢;have hc:=loose_cases a4
 have T:ArgN w r (vlS S x) C h:=fun k a D W F=>by
  obtain⟨E,o',e,A⟩:=N k a D;have s:=List.mem_of_getElem? D;have:=Ce s;exact⟨E,o',e,ih W E _ a _ U (H.trans F) (A.E F (fun _ _=>by simp)) (a0 a s) (pastL_mem a5 s) (a2 a s)⟩
 have K:∀W,Ext w W->ArgN W r (vlS S x) C h:=fun W e k a D V R=>T k a D V (e.trans R);rcases hc with rfl|rfl|rfl|rfl|rfl|rfl|rfl|rfl|rfl|rfl|rfl|rfl
 ·exact rnow_of w r S x 216 b o _ g j rfl _ fun W e=>ralways_ok W r _
 ·exact rnow_of w r S x 217 b o _ g j rfl _ fun W e=>rnever_ok W r _
 ·exact rnow_of w r S x 218 b o _ g j rfl _ fun W e=>rdis_ok W r b o S x m v (g.ext e) (e.cell d O) (e.cell L O) (a1 rfl)
 ·have a3:h.length=1:=by simpa[BX]using M
  obtain⟨a,D⟩:=one_arg a3;have t:nowOp (vlS S x) 4 m v (decide (v=1)) (h.map (Ck (vlS S x)))= !Ck (vlS S x) a:=by rw[D];rfl
  rw[t];exact rnow_of w r S x 219 b o _ g j rfl _ fun W e=>rnot_ok W r b o _ h a C q (e.cell G O) (K W e) D
 ·have t:nowOp (vlS S x) 5 m v (decide (v=1)) (h.map (Ck (vlS S x)))=h.all (Ck (vlS S x)):=by rw[show nowOp (vlS S x) 5 m v (decide (v=1)) (h.map (Ck (vlS S x)))=(h.map (Ck (vlS S x))).all id from rfl,List.all_map];rfl
  rw[t];exact rnow_of w r S x 220 b o _ g j rfl _ fun W e=>rand_ok W r b o _ h C q B (e.cell G O) (K W e)
 ·have t:nowOp (vlS S x) 6 m v (decide (v=1)) (h.map (Ck (vlS S x)))=h.any (Ck (vlS S x)):=by rw[show nowOp (vlS S x) 6 m v (decide (v=1)) (h.map (Ck (vlS S x)))=(h.map (Ck (vlS S x))).any id from rfl,List.any_map];rfl
  rw[t];exact rnow_of w r S x 221 b o _ g j rfl _ fun W e=>ror_ok W r b o _ h C q B (e.cell G O) (K W e)
 ·omega
 ·omega
 ·omega
 ·exact rnow_of w r S x 222 b o _ g j rfl _ fun W e=>ryest_ok W r b o _ (j.E e (fun _ _=>by simp))
 ·have Z:h.length=2:=by simpa[BX]using M
  obtain⟨a,c,D⟩:=two_args Z;have t:nowOp (vlS S x) 16 m v (decide (v=1)) (h.map (Ck (vlS S x)))=(Ck (vlS S x) c||(decide (v=1)&&Ck (vlS S x) a)):=by rw[D];rfl
  rw[t];exact rnow_of w r S x 223 b o _ g j rfl _ fun W e=>rsince_ok W r b o _ v h a c C q (e.cell L O) (e.cell G O) (K W e) D
 ·have Z:h.length=2:=by simpa[BX]using M
  obtain⟨a,c,D⟩:=two_args Z;have t:nowOp (vlS S x) 17 m v (decide (v=1)) (h.map (Ck (vlS S x)))=(Ck (vlS S x) c&&(decide (v=1)||Ck (vlS S x) a)):=by rw[D];rfl
  rw[t];exact rnow_of w r S x 224 b o _ g j rfl _ fun W e=>rtrig_ok W r b o _ v h a c C q (e.cell L O) (e.cell G O) (K W e) D
end
theorem distinct_ok(w:World)(B:Nat)(v:Value)(l:LF)(L:List (LV))(ok:Nat->Prop)(a:w.ownsRow B 37 5 v l.length L.flatten)(s:FsAt ok w L l)
  (c:∀b,ok b->Unm w b/\b<w.heap.size/\v.ownBlock≠some b)(o:∀x∈l,szF x<=1000000)(M:l.length<4611686018427387904):
  Fn Zp 207 [v,cmpV] w fun u w'=>Keep v.ownBlock.toList w w'/\u.ownBlock=v.ownBlock/\∃k,w'.ownsRow B 37 5 u (dist l).length k.flatten/\FsAt ok w' k (dist l):=by
 have X:∃p n E,v=.slice p n E:=by
  rcases a.2 with⟨e,t⟩|⟨g,E,G,e,_⟩
  ·exact⟨_,_,_,e⟩
  ·exact⟨_,_,_,e⟩
 obtain⟨p,n,E,rfl⟩:=X;have q:∀b,ok b->b∉(Value.slice p n E).ownBlock.toList:=fun b S V=>(c b S).2.2 (Option.mem_toList.1 V);have W:∀g,(Value.slice p n E).ownBlock=some g->g<w.heap.size:=fun g F=>(An a F).2;refine AN Tryz.func207 rfl Tryz.ntmps207 (go ?_);refine A3 (L:=[cmpV]) rfl (fun Q A=>go ?_);have z1:=A.size;have z:=A.D;have H:(Value.slice p n E).ownBlock≠some w.heap.size:=fun e=>by have:=W _ e;omega
 have D:w.heap.size∉(Value.slice p n E).ownBlock.toList:=fun V=>H (Option.mem_toList.1 V);refine go ?_;refine AF (sort_ok Q B _ l L ok (As a A.E) (s.ext A.E) (fun b S=>⟨(c b S).1.eq (A.E.block b (c b S).2.1 O),by have:=(c b S).2.1;omega,(c b S).2.2⟩) o M) rfl ?_;rintro _ N⟨rfl,r,d,K,f,P,T,C⟩;have Z:K.length=l.length:=f.length_eq;have j:Keep (Value.slice p n E).ownBlock.toList w N:=A.E.any.trans r (fun _ h _=>h);refine go ?_;rw[<-Z]at T;refine AF (compact_ok N B _ K d ok w.heap.size T C (fun b S=>⟨(c b S).1.eq (j.block b (c b S).2.1 (q b S)),by have:=(c b S).2.1;have:=j.size;omega,(c b S).2.2⟩) (fun x V=>o x (f.mem_iff.1 V)) (z.E r D) H) rfl ?_;rintro u w3⟨i,R,y,I,m⟩;rw[cpN_dist P f]at I m
 obtain⟨p',n',a0,rfl⟩:∃p n E,u=.slice p n E:=by
  rcases I.2 with⟨e,t⟩|⟨g,E,G,e,_⟩
  ·exact⟨_,_,_,e⟩
  ·exact⟨_,_,_,e⟩
 refine go ?_;exact AC rfl ⟨j.trans i (fun _ h _=>h),R,y,I,m.E i q⟩
theorem negated_ok(w:World)(c:LV)(f:Fml)(ok:Nat->Prop)(P:FAt ok w (.agg c.toArray) f)(D:f.op=4->0<f.args.length):
  Fn Zp 210 [.agg c.toArray] w fun u w'=>∃d:LV,u=.tuple #[.agg d.toArray,.bool (decide (f.op=4))]/\Ext w w'/\FAt ok w' (.agg d.toArray) (if f.op=4 then f.args.getD 0 Am else Am):=by
 obtain⟨X,Z,x2,x3,x4,rfl⟩:=P.v5;obtain⟨K,e,r,l,H,G,F⟩:=P.form;simp only[Value.agg.injEq,List.toArray_eq_iff,List.cons.injEq,and_true]at e;obtain⟨rfl,rfl,rfl,rfl,rfl⟩:=e;obtain⟨t,h,rfl,S,R,_⟩:=id l;refine AN Tryz.func210 rfl Tryz.ntmps210 (go ?_);refine A3 (L:=[iV f.op,AL f.name,iV f.val,iV f.bound,.slice t f.args.length h]) rfl (fun V i=>?_);refine AY (L:=zero5) (fun N W=>go ?_);have Q:=i.E.trans W.E;have n:=i.D.E W.E O;have j:=W.D;have z1:=i.size;by_cases B:f.op=4
 ·obtain⟨a,T⟩:∃a,f.args[0]?=some a:=⟨_,List.getElem?_eq_getElem (D B)⟩;obtain⟨d,o⟩:∃d,r[0]?=some d:=⟨_,List.getElem?_eq_getElem (by rw[H];exact D B)⟩;have b:=F 0 d a o T;obtain⟨m,p,x,z,g,rfl⟩:=b.v5;obtain⟨v,k,rfl,M,C⟩:=Sl.fml l G o (D B);have q:v<w.heap.size:=World.block_lt_of_cell? w _ (C 0 _ rfl);rw[if_pos B,decide_eq_true B,show f.args.getD 0 Am=a by rw[List.getD_eq_getElem?_getD,T];rfl];rw[B]at n;refine go ?_;refine AQ (L:=[m,p,x,z,g]) rfl rfl (C.E Q O) ?_;refine AI (cs:=[m,p,x,z,g]) rfl rfl rfl b.one j EV (fun I A=>go ?_);exact BB rfl rfl rfl A.D.cells ⟨[m,p,x,z,g],rfl,Q.E A.E EP,((b.lt.ext Q).E A.E (fun y E s=>by have:=E.2;simp at s;omega)).mono fun y E=>E.1⟩
 ·rw[if_neg B,decide_eq_false B];refine go ?_;refine AI (cs:=zero5) rfl rfl rfl (AV rfl) j EV (fun I A=>go ?_);exact BB rfl rfl rfl A.D.cells ⟨zero5,rfl,Q.E A.E EP,FAt.leaf _ _ 0 [] 0 0⟩
theorem SlAt.c5{ok:Nat->Prop}{w:World}{a:Option Addr}{n c:Nat}{l:LF}{k:Nat}(h:SlAt fmlR ok w (.slice a n c) l)(L:k<l.length):∃b o f g j s r,a=some ⟨b,o,none⟩/\Cells w b (o+k*5) [f,g,j,s,r]/\FAt ok w (.agg [f,g,j,s,r].toArray) (l.getD k Am):=by
 have i:l[k]?=some (l.getD k Am):=by rw[List.getD_eq_getElem?_getD,List.getElem?_eq_getElem L];rfl
 obtain⟨b,o,e,_,d,C,T,P⟩:=SlAt.pf h i;obtain⟨f,g,j,s,r,rfl⟩:=Ak C;exact⟨b,o,f,g,j,s,r,e,T,P⟩
theorem Inc.at{l:LF}(h:Inc l):∀i j,i<j->j<l.length->B0 (l.getD i Am) (l.getD j Am)<0:=by
 induction l with
 |nil=>intro i j _ T;simp at T
 |cons a l ih=>
  intro i j d T;obtain⟨Z,W⟩:=h;cases j with
  |zero=>omega
  |succ j=>
   have n:j<l.length:=by simpa using T
   have x:(a::l).getD (j+1) Am=l.getD j Am:=rfl;rw[x];cases i with
   |zero=>exact Z _ (by rw[List.getD_eq_getElem?_getD,List.getElem?_eq_getElem n];exact List.getElem_mem n)
   |succ i=>exact ih W i j U n
theorem bs_found{l:LF}{y:Fml}{i:Nat}(q:Inc l)(H:i<=l.length)(Z:∀a,a<i->B0 (l.getD a Am) y<0)(W:∀a,i<=a->a<l.length->¬B0 (l.getD a Am) y<0):
  l.any (fun z=>decide (B0 z y=0))=(decide (i<l.length)&&decide (B0 (l.getD i Am) y=0)):=by
 rw[Bool.eq_iff_iff,List.any_eq_true,Bool.and_eq_true,decide_eq_true_eq,decide_eq_true_eq];constructor
 ·rintro⟨z,o,T⟩;rw[decide_eq_true_eq]at T;obtain⟨j,b⟩:=List.getElem?_of_mem o;have k:=(List.getElem?_eq_some_iff.1 b).1;have x:l.getD j Am=z:=by rw[List.getD_eq_getElem?_getD,b];rfl
  by_cases C:j<i
  ·have:=Z j C;rw[x]at this;omega
  ·by_cases P:j=i
   ·subst P;exact⟨k,by rw[x];exact T⟩
   ·have R:=q.at i j U k;rw[x,(C4 _ _).1 T]at R;exact absurd R (W i (Nat.le_refl _) U)
 ·rintro⟨R,B⟩;exact⟨l.getD i Am,by rw[List.getD_eq_getElem?_getD,List.getElem?_eq_getElem R];exact List.getElem_mem R,by rw[decide_eq_true_eq];exact B⟩
theorem bs_ok(w:World)(a:Option Addr)(cap:Nat)(l:LF)(y:Fml)(d:LV)(ok a2:Nat->Prop)(hl:SlAt fmlR ok w (.slice a l.length cap) l)(hy:FAt a2 w (.agg d.toArray) y)(hu:∀b,ok b->Unm w b)(hz:∀x∈l,szF x<=1000000)(S:Inc l)(hn:l.length<=1000000):
  Fn Zp 291 [.slice a l.length cap,.agg d.toArray,cmpV] w fun u w'=>∃i:Int,u=.tuple #[iV i,.bool (l.any fun z=>decide (B0 z y=0))]/\Ext w w':=by
 obtain⟨E,F,G,H,g,rfl⟩:=hy.v5;have a4:∀V,Ext w V->∀b,(ok b/\b<w.heap.size)->Unm V b:=fun V e b hb=>(hu b hb.1).eq (e.block b hb.2 O);have a3:=hl.lt En;refine AN Tryz.func291 rfl Tryz.ntmps291 (go ?_);refine A3 (L:=[E,F,G,H,g]) rfl (fun w1 n1=>go ?_);have b1:=n1.D;have k1:=n1.E;refine go ?_;refine Ar (α:=Nat×Nat) (fun|(i,j)=>[(0,.slice a l.length cap),(2,cmpV),(4,pt w.heap.size),(8,.int .i64 (l.length:Int)),(9,.int .i64 (i:Int)),(10,.int .i64 (j:Int))]) (fun x W=>x.1<=x.2/\x.2<=l.length/\Ext w1 W/\(∀p,p<x.1->B0 (l.getD p Am) y<0)/\(∀p,x.2<=p->p<l.length->¬B0 (l.getD p Am) y<0)) (fun x=>x.2-x.1) (0,l.length) ag ⟨by simp,by simp,Ext.refl _,fun p A=>absurd A O,fun p A a6=>absurd a6 (by simp only at A;omega)⟩ ?_;rintro⟨i,j⟩W fr⟨a5,X,q,P,K⟩;simp only at a5 X P K;have B:=k1.trans q;refine go ?_;by_cases hlt:i<j
 ·refine go ?_;refine W_conv rfl (inR_u64 U U) ?_;refine W_shrU (m:=i+j) (n:=1) rfl rfl U ?_;obtain⟨h,hh⟩:∃h,h=(i+j)/2^1:=⟨_,rfl⟩;rw[<-hh];have a8:h=(i+j)/2:=hh;have a9:h<j:=by omega
  have b0:i<=h:=by omega
  refine go ?_;obtain⟨b,o,f,C,D,s,r,rfl,T,t⟩:=(a3.ext B).c5 (k:=h) U;refine Ac (rd 0 6 (.alt 6 (.read 7 .done) .stop)) Ap EO (fun N M ed=>⟨Ext N,?_,?_⟩)
  ·exact FQ
  have Q:=B.trans M;have s1:∀V,Ext N V->Cells V b (o+h*5) [f,C,D,s,r]:=fun V e=>T.E (M.trans e) O;have s2:∀V,Ext N V->Cells V w.heap.size 0 [E,F,G,H,g]:=fun V e=>(b1.E ((q.trans M).trans e) O).cells;((refine D_R rfl rfl (fun W v=>M_func rfl dz) ?_)<;>(refine D_R rfl rfl (fun W v=>Ay rfl dz) ?_)<;>(refine D_R rfl rfl (fun W v=>AS rfl dz) ?_)<;>(apply D_R rfl rfl;(intro W v;refine CG rfl rfl rfl U ?_;exact AA ⟨rfl,rfl,rfl⟩))<;>(apply D_R rfl rfl;(intro W v;refine AQ rfl EQ (s1 W v) ?_;exact AA ⟨rfl,rfl,rfl⟩))<;>(apply D_R rfl rfl;(intro W v;refine AQ rfl EQ (s2 W v) ?_;exact AA ⟨rfl,rfl,rfl⟩)))
  refine D_E rfl ?_;have a0:l.getD h Am∈l:=by rw[List.getD_eq_getElem?_getD,List.getElem?_eq_getElem (by omega:h<l.length)];exact List.getElem_mem (by omega:h<l.length)
  refine A9 (v1:=[]) (v2:=[]) (vs:=[.agg [f,C,D,s,r].toArray,.agg [E,F,G,H,g].toArray]) rfl (fcompare_ok N _ _ _ y _ a2 (t.ext M) (hy.ext Q) (.inl (a4 N Q)) (hz _ a0)) rfl ?_;rintro _ w4⟨rfl,c⟩;refine AA ⟨Ext N,fun _ e=>e,c,?_⟩;have k5:=(q.trans M).trans c;by_cases Z:B0 (l.getD h Am) y<0
  ·refine go ?_;refine⟨(h+1,j),⟨rfl,⟨rfl,rfl,rfl,rfl,?_,rfl,trivial⟩,⟨by simp only;omega,X,k5,fun p A=>?_,K⟩⟩,by simp only;omega⟩
   ·show iV ((h:Int)+1)=_;rw[Int.natCast_add];rfl
   ·simp only at A;by_cases a1:p=h
    ·subst a1;exact Z
    ·have R:=S.at p h U U;exact Dl _ _ _ R Z
  ·refine go ?_;refine⟨(i,h),⟨rfl,ag,⟨by simp only;omega,by simp only;omega,k5,P,fun p A a7=>?_⟩⟩,by simp only;omega⟩;simp only at A;by_cases a1:p=h
   ·subst a1;exact Z
   ·have R:=S.at h p U a7;intro h4;exact Z (Dl _ _ _ R h4)
 ·refine go ?_;obtain rfl:i=j:=by omega
  rw[bs_found S X P K];by_cases I:i<l.length
  ·rw[decide_eq_true I,Bool.true_and];obtain⟨b,o,f,C,D,s,r,rfl,T,t⟩:=(a3.ext B).c5 (k:=i) U;refine Ac (rd 0 11 (.alt 11 (rd 12 4 .done) .stop)) Ap EO (fun N M ed=>⟨Ext N,?_,?_⟩)
   ·exact FQ
   have Q:=B.trans M;have s1:∀V,Ext N V->Cells V b (o+i*5) [f,C,D,s,r]:=fun V e=>T.E (M.trans e) O;have s2:∀V,Ext N V->Cells V w.heap.size 0 [E,F,G,H,g]:=fun V e=>(b1.E ((q.trans M).trans e) O).cells;((refine D_R rfl rfl (fun W v=>AS rfl dz) ?_)<;>(refine D_R rfl rfl (fun W v=>AS rfl dz) ?_)<;>(refine D_R rfl rfl (fun W v=>AS rfl dz) ?_)<;>(refine D5 rfl rfl rfl rfl (fun T=>?_) (fun T=>?_)<;>try omega)<;>(refine D_R rfl rfl (fun W v=>AE rfl dz) ?_)<;>(refine D_R rfl rfl (fun W v=>AK rfl (M_func rfl dz)) ?_)<;>(refine D_R rfl rfl (fun W v=>AK rfl (Ay rfl dz)) ?_)<;>(refine D_R rfl rfl (fun W v=>AK rfl (AS rfl dz)) ?_)<;>(apply D_R rfl rfl;(intro W v;(refine AK rfl ?_;refine CG rfl rfl rfl U ?_);exact AA ⟨rfl,rfl,rfl⟩))<;>(apply D_R rfl rfl;(intro W v;(refine AK rfl ?_;refine AQ rfl EQ (s1 W v) ?_);exact AA ⟨rfl,rfl,rfl⟩))<;>(apply D_R rfl rfl;(intro W v;(refine AK rfl ?_;refine AQ rfl EQ (s2 W v) ?_);exact AA ⟨rfl,rfl,rfl⟩)))
   refine D_E rfl ?_;have a0:l.getD i Am∈l:=by rw[List.getD_eq_getElem?_getD,List.getElem?_eq_getElem I];exact List.getElem_mem I
   refine go ?_;refine A9 (v1:=[]) (v2:=[]) (vs:=[.agg [f,C,D,s,r].toArray,.agg [E,F,G,H,g].toArray]) rfl (fcompare_ok N _ _ _ y _ a2 (t.ext M) (hy.ext Q) (.inl (a4 N Q)) (hz _ a0)) rfl ?_;rintro _ w4⟨rfl,c⟩;refine AA ⟨Ext N,fun _ e=>e,c,?_⟩;by_cases Z:B0 (l.getD i Am) y=0
   ·rw[decide_eq_true Z];refine go ?_;exact BP rfl ⟨_,rfl,Q.trans c⟩
   ·rw[decide_eq_false Z];refine go ?_;exact BP rfl ⟨_,rfl,Q.trans c⟩
  ·rw[decide_eq_false I,Bool.false_and];refine Ac (rd 0 11 (.alt 11 (rd 12 4 .done) .stop)) Ap EO (fun N M ed=>⟨Ext N,?_,?_⟩)
   ·exact FQ
   ((refine D_R rfl rfl (fun W v=>AS rfl dz) ?_)<;>(refine D_R rfl rfl (fun W v=>AS rfl dz) ?_)<;>(refine D_R rfl rfl (fun W v=>AS rfl dz) ?_)<;>(refine D5 rfl rfl rfl rfl (fun T=>?_) (fun T=>?_)<;>try omega)<;>(refine D_R rfl rfl (fun W v=>AE rfl dz) ?_)<;>refine At rfl rfl rfl rfl (At rfl rfl rfl rfl (At rfl rfl rfl rfl (At rfl rfl rfl rfl (At rfl rfl rfl rfl (At rfl rfl rfl rfl ?_))))))
   refine D_E rfl ?_;refine Ah rfl ?_;refine AA ⟨Ext N,fun _ e=>e,Ext.refl _,?_⟩;refine go ?_;exact BP rfl ⟨_,rfl,B.trans M⟩
abbrev negV:Value:=.func (.func 210) #[] #[]
theorem opposed_ok(w:World)(a:Option Addr)(cap:Nat)(l:LF)(ok:Nat->Prop)(hl:SlAt fmlR ok w (.slice a l.length cap) l)(hu:∀b,ok b->Unm w b)(B:∀x∈l,szF x<=1000000)(a1:Inc l)(hn:l.length<=1000000)(h4:∀x∈l,x.op=4->0<x.args.length):
  Fn Zp 209 [.slice a l.length cap,cmpV,negV] w fun u w'=>u=.bool (oppB l)/\Ext w w':=by
 have G:=hl.lt En;have a3:∀V,Ext w V->∀b,(ok b/\b<w.heap.size)->Unm V b:=fun V e b S=>(hu b S.1).eq (e.block b S.2 O);refine AN Tryz.func209 rfl Tryz.ntmps209 (go ?_);refine Ar (α:=Nat) (fun k=>[(0,.slice a l.length cap),(1,cmpV),(2,negV),(13,.slice a l.length cap),(14,iV (l.length:Int)),(15,iV (k:Int))]) (fun k W=>k<=l.length/\Ext w W/\∀(i:Nat)(x:Fml),i<k->l[i]?=some x->(decide (x.op=4)&&l.any fun y=>decide (B0 y (x.args.getD 0 Am)=0))=false) (fun k=>l.length-k) 0 ag ⟨by omega,Ext.refl _,fun i x H=>by omega⟩ ?_;rintro k W fr⟨hk,q,v⟩;refine go ?_;by_cases F:k<l.length
 ·refine go ?_;obtain⟨b,o,f,c,C,s,D,rfl,hc,t⟩:=(G.ext q).c5 F;have h:l[k]?=some (l.getD k Am):=by rw[List.getD_eq_getElem?_getD,List.getElem?_eq_getElem F];rfl
  obtain⟨x,a4⟩:∃x,x=l.getD k Am:=⟨_,rfl⟩;rw[<-a4]at h t;have a2:=List.mem_of_getElem? h;refine go ?_;refine AQ (L:=[f,c,C,s,D]) rfl rfl hc ?_;refine AY (L:=zero5) (fun w4 M=>?_);refine AI (cs:=[f,c,C,s,D]) rfl rfl rfl t.one M.D EV (fun E N=>go ?_);have b8:Blk E W.heap.size 37 [f,c,C,s,D]:=N.D;have A:Ext W E:=M.E.E N.E O;refine go ?_;refine A9 (v1:=[]) (v2:=[]) (vs:=[.agg [f,c,C,s,D].toArray]) rfl (negated_ok E _ x _ (t.ext A) (h4 x a2)) rfl ?_;rintro _ R⟨d,rfl,k6,j⟩;obtain⟨T,Z,y2,y3,y4,rfl⟩:=j.v5;refine go ?_;refine AY (L:=zero5) (fun w7 Q=>?_);refine AI (cs:=[T,Z,y2,y3,y4]) rfl rfl rfl j.one Q.D EV (fun m P=>?_);have b9:Blk m R.heap.size 37 [T,Z,y2,y3,y4]:=P.D;have I:Ext R m:=Q.E.E P.E O;have g:Ext w m:=((q.trans A).trans k6).trans I
  have X:∀(V:World),Ext w V->∀(r:(decide (x.op=4)&&l.any fun y=>decide (B0 y (x.args.getD 0 Am)=0))=false),k+1<=l.length/\Ext w V/\∀(i:Nat)(z:Fml),i<k+1->l[i]?=some z->(decide (z.op=4)&&l.any fun y=>decide (B0 y (z.args.getD 0 Am)=0))=false:=fun V e r=>⟨by omega,e,fun i z H B=>by
   by_cases a0:i=k
   ·subst a0;rw[h]at B;cases B;exact r
   ·exact v i z U B⟩
  by_cases n:x.op=4
  ·rw[decide_eq_true n];rw[if_pos n]at j;refine go ?_;refine AF (bs_ok m _ cap l _ _ _ _ (G.ext g) (j.ext I) (a3 m g) B a1 hn) rfl ?_;rintro _ w9⟨i,rfl,K⟩;cases hr:l.any fun z=>decide (B0 z (x.args.getD 0 Am)=0)with
   |true=>
    refine go ?_;refine AC rfl ⟨?_,g.trans K⟩
    have:oppB l=true:=by
     unfold oppB;exact any_stop (p:=fun x=>decide (x.op=4)&&l.any fun y=>decide (B0 y (x.args.getD 0 Am)=0)) h (by rw[decide_eq_true n];exact hr)
    rw[this];rfl
   |false=>
    refine go ?_;refine⟨k+1,⟨rfl,⟨rfl,rfl,rfl,rfl,rfl,?_,trivial⟩,X _ (g.trans K) (by rw[hr,Bool.and_false])⟩,by omega⟩;show iV ((k:Int)+1)=_;rw[Int.natCast_add];rfl
  ·rw[decide_eq_false n];refine go ?_;refine⟨k+1,⟨rfl,⟨rfl,rfl,rfl,rfl,rfl,?_,trivial⟩,X _ g (by rw[decide_eq_false n,Bool.false_and])⟩,by omega⟩;show iV ((k:Int)+1)=_;rw[Int.natCast_add];rfl
 ·refine go ?_;refine AC rfl ⟨?_,q⟩
  have:oppB l=false:=by
   unfold oppB;exact any_done (p:=fun x=>decide (x.op=4)&&l.any fun y=>decide (B0 y (x.args.getD 0 Am)=0)) fun i x H h=>v i x U h
  rw[this];rfl
end Go.Proofs.YtjbocjodncbogaaGreatDoor
