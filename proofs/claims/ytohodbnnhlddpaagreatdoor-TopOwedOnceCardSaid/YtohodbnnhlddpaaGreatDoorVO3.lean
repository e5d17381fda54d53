/- TopOwedOnce, part 3 of 14: rules, lemmas, walks. Conditions: none. -/
import Derived.Test.YtohodbnnhlddpaaGreatDoorVO2
import Derived.Lib.ConvBytes
namespace Go.Proofs.YtohodbnnhlddpaaGreatDoor
open Go.RowKit
set_option linter.unusedVariables false
section
variable {mk:Prop}[MK mk]
structure Tok where
 kind:Int
 text:LU
 loc:Nat
deriving DecidableEq
def tokC(k:Tok):LV:=[iV k.kind,AK k.text,iV (k.loc:Int)]
def toksC(l:List Tok):LV:=l.flatMap tokC
abbrev fail(e:Int)(p:Nat):List PanicEntry:=[{v:=.iface 209 (.agg #[iV e,iV (p:Int)]),recovered:=false}]
structure St(w0 w:World)(s:Nat)(t:LU)(a:Nat)(ts:List Tok):Prop where
 E:Keep [s] w0 w
 lt:s<w0.heap.size
 len:t.length<=6000
 loc:a<=t.length
 cnt:ts.length<=2000
 D:∃tv,Blk w s 213 [AK t,iV (a:Int),tv]/\w.ownsRow w0.heap.size 217 3 tv ts.length (toksC ts)
def A0(p:UInt8->Bool)(t:LU)(a:Nat):Nat:=a+((t.drop a).takeWhile p).length
theorem whileB_step{p:UInt8->Bool}{t:LU}{a:Nat}{c:UInt8}(h:t[a]?=some c)(v:p c=true):A0 p t a=A0 p t (a+1):=by
 obtain⟨X,W⟩:=List.getElem?_eq_some_iff.1 h;unfold A0;rw[List.drop_eq_getElem_cons X,W,List.takeWhile_cons_of_pos v];simp;omega
theorem whileB_stop{p:UInt8->Bool}{t:LU}{a:Nat}{c:UInt8}(h:t[a]?=some c)(v:p c=false):A0 p t a=a:=by
 obtain⟨X,W⟩:=List.getElem?_eq_some_iff.1 h;unfold A0;rw[List.drop_eq_getElem_cons X,W,List.takeWhile_cons_of_neg (by simp[v])];simp
theorem whileB_end{p:UInt8->Bool}{t:LU}{a:Nat}(h:t.length<=a):A0 p t a=a:=by
 unfold A0;rw[List.drop_eq_nil_of_le h];simp
theorem whileB_le{p:UInt8->Bool}{t:LU}{a:Nat}(h:a<=t.length):A0 p t a<=t.length:=by
 have:=(List.takeWhile_prefix p (l:=t.drop a)).length_le;simp at this;unfold A0;omega
theorem whileB_ge(p:UInt8->Bool)(t:LU)(a:Nat):a<=A0 p t a:=by unfold A0;omega
theorem while_ok{g:FuncId}{p:UInt8->Bool}[AF Zp g](b:Test g p)(w:World)(s a:Nat)(t:LU)(x y:Value)(S:Blk w s 213 [AK t,x,y])(I:a<=t.length)(M:t.length<=6000):
  Fn Zp 243 [pt s,iV (a:Int),.func (.func g) #[] #[]] w fun v w'=>v=iV (A0 p t a:Int)/\w'=w:=by
 refine AG Tryz.func243 rfl Tryz.ntmps243 (go ?_);refine Ah (α:=Nat) (fun k=>[(0,pt s),(1,iV (k:Int)),(2,.func (.func g) #[] #[])]) (fun k R=>k<=t.length/\A0 p t k=A0 p t a/\R=w) (fun k=>t.length-k) a ⟨rfl,rfl,rfl,trivial⟩ ⟨I,rfl,rfl⟩ ?_;rintro k R W⟨P,D,rfl⟩;refine go ?_;by_cases B:k<t.length
 ·have l:t[k]?=some t[k]:=List.getElem?_eq_getElem B;generalize t[k]=c at l;refine go ?_;refine Az (v1:=[]) (v2:=[]) (vs:=[enc8 c]) rfl (b c _) rfl ?_;rintro v w'⟨rfl,rfl⟩;cases hp:p c with
  |true=>
   refine go ?_;refine⟨k+1,⟨rfl,⟨rfl,?_,rfl,trivial⟩,⟨by omega,(whileB_step l hp).symm.trans D,rfl⟩⟩,by omega⟩;show iV ((k:Int)+1)=_;rw[Int.natCast_add];rfl
  |false=>
   refine go ?_;exact AB rfl ⟨by rw[<-D,whileB_stop l hp];rfl,rfl⟩
 ·refine go ?_;exact AB rfl ⟨by rw[<-D,whileB_end U];rfl,rfl⟩
theorem made_tok:(madeCells (Value.agg #[iV 0,AK [],iV 0]).cells (1*3)).toList=[iV 0,AK [],iV 0]:=by
 kernel_rfl
theorem add_ok(c w:World)(s a n:Nat)(t:LU)(b:List Tok)(k:Int)(h:St c w s t a b)(h1:a<=n)(h2:n<=t.length):
  FnP Zp 248 [pt s,iV k,iV (n:Int)] w (fun v w'=>v=.tuple #[]/\b.length<2000/\St c w' s t n (b++[⟨k,(t.take n).drop a,a⟩])) (fun ch w'=>b.length=2000/\ch=fail 2 a/\Keep [s] c w'):=by
 obtain⟨P,hs,hl,ha,hn,tv,S,R⟩:=h
 obtain⟨z,u,rfl⟩:∃z u,tv=.slice z b.length u:=by
  rcases R.2 with⟨rfl,A⟩|⟨g,a0,a1,rfl,_⟩
  ·exact⟨none,0,by rw[A]⟩
  ·exact⟨_,_,rfl⟩
 refine A7 Tryz.func248 rfl Tryz.ntmps248 nlr Dv ?_;repeat refine nx rfl ?_
 (refine AJ (Af rfl (AM rfl (AD rfl ?_)))<;>refine AL rfl (Blk.cell Dz Dx) ?_<;>refine Bt rfl ?_<;>(refine Bm rfl rfl (fun hc=>?_) (fun hc=>?_)<;>try omega))
 ·repeat refine nx rfl ?_
  (refine AJ (Af rfl (AM rfl (AD rfl ?_)))<;>refine AL rfl (Blk.cell Dz Dx) ?_<;>refine Bv Dx Dx ?_<;>refine DZ (Dj rfl ?_))
  repeat refine nx rfl ?_
  exact Aj ⟨by omega,rfl,P⟩
 ·repeat first|refine nx rfl ?_|refine nf rfl ?_
  refine AX (rd 0 4 (rd 5 16 (.alt 4 (.alt 21 (.alt 22 (.read 23 (.read 24 (.alt 25 .done .stop))) .stop) .stop) (.alt 21 (.alt 4 (.alt 22 (.read 23 (.read 24 (.alt 25 .done .stop))) .stop) .stop) .stop)))) An Dv (fun wd I ed=>⟨fun W=>W.cell? ⟨s,0,none⟩=some (AK t)/\W.cell? ⟨s,1,none⟩=some (iV (a:Int)),?_,?_⟩)
  ·exact⟨(S.E I O).cell rfl,(S.E I O).cell rfl⟩
  have Z:=S.E I O;have a3:=Ae R I;have a4:∀W:World,(W.cell? ⟨s,0,none⟩=some (AK t)/\W.cell? ⟨s,1,none⟩=some (iV (a:Int)))->W.cell? ⟨s,0,none⟩=some (AK t):=fun W h=>h.1;have a2:∀W:World,(W.cell? ⟨s,0,none⟩=some (AK t)/\W.cell? ⟨s,1,none⟩=some (iV (a:Int)))->W.cell? ⟨s,1,none⟩=some (iV (a:Int)):=fun W h=>h.2;((apply D_R rfl rfl;(intro W f;refine Af rfl ?_;exact AA ⟨rfl,rfl,rfl⟩))<;>(apply D_R rfl rfl;(intro W f;refine Af rfl ?_;exact AA ⟨rfl,rfl,rfl⟩))<;>(apply D_R rfl rfl;(intro W f;refine AM rfl ?_;exact AA ⟨rfl,rfl,rfl⟩))<;>(apply D_R rfl rfl;(intro W f;refine AD rfl ?_;exact AA ⟨rfl,rfl,rfl⟩))<;>(apply D_R rfl rfl;(intro W f;refine AY rfl ?_;exact AA ⟨rfl,rfl,rfl⟩))<;>(apply D_R rfl rfl;(intro W f;refine Af rfl ?_;exact AA ⟨rfl,rfl,rfl⟩))<;>(apply D_R rfl rfl;(intro W f;refine AM rfl ?_;exact AA ⟨rfl,rfl,rfl⟩))<;>(apply D_R rfl rfl;(intro W f;refine AD rfl ?_;exact AA ⟨rfl,rfl,rfl⟩))<;>(apply D_R rfl rfl;(intro W f;refine AL rfl (a4 W f) ?_;exact AA ⟨rfl,rfl,rfl⟩))<;>(apply D_R rfl rfl;(intro W f;refine Af rfl ?_;exact AA ⟨rfl,rfl,rfl⟩))<;>(apply D_R rfl rfl;(intro W f;refine AM rfl ?_;exact AA ⟨rfl,rfl,rfl⟩))<;>(apply D_R rfl rfl;(intro W f;refine AD rfl ?_;exact AA ⟨rfl,rfl,rfl⟩))<;>(apply D_R rfl rfl;(intro W f;refine AL rfl (a2 W f) ?_;exact AA ⟨rfl,rfl,rfl⟩))<;>(apply D_R rfl rfl;(intro W f;refine AY rfl ?_;exact AA ⟨rfl,rfl,rfl⟩))<;>(apply D_R rfl rfl;(intro W f;refine W_sslice_lh rfl rfl rfl U U ?_;exact AA ⟨rfl,rfl,rfl⟩))<;>(apply D_R rfl rfl;(intro W f;refine Af rfl ?_;exact AA ⟨rfl,rfl,rfl⟩))<;>(apply D_R rfl rfl;(intro W f;refine AM rfl ?_;exact AA ⟨rfl,rfl,rfl⟩))<;>(apply D_R rfl rfl;(intro W f;refine AD rfl ?_;exact AA ⟨rfl,rfl,rfl⟩))<;>(apply D_R rfl rfl;(intro W f;refine AL rfl (a2 W f) ?_;exact AA ⟨rfl,rfl,rfl⟩))<;>(apply D_R rfl rfl;(intro W f;refine Bv Dx Dx ?_;exact AA ⟨rfl,rfl,rfl⟩)))
  have a6:tokC ⟨k,(t.take n).drop a,a⟩=[iV k,AK ((t.take n).drop a),iV (a:Int)]:=rfl;refine D_A rfl ?_ (D_E rfl ?_)
  ·refine AL rfl (Z.cell rfl) ?_;refine wNl (⟨Z.cell rfl,Z.cell rfl⟩) ?_;refine D_E rfl ?_;refine AP (out:=tokC ⟨k,(t.take n).drop a,a⟩) rfl U (by rw[made_tok];rfl) (fun w2 N=>?_);have K:=N.own (n:=1) (size:=3) rfl D3 (Nat.le_refl _);have s2:=N.size;have D:=Z.E N.E O;refine wNl (⟨D.cell rfl,D.cell rfl⟩) ?_;refine D_E rfl ?_;refine Ap (ok:=AV) rfl rfl (Ae a3 N.E) (Aa K fun _ _=>trivial) U rfl rfl (by intro y F;simp[tokC]at F;rcases F with rfl|rfl|rfl<;>rfl) U U (by have:=P.size;have:=I.size;omega) (fun v3 w3 d=>?_);have o:∀x∈(Value.slice z b.length u).ownBlock.toList,c.heap.size<=x:=fun x T=>(Ad R (by simpa using T)).1;have L:s∉(Value.slice z b.length u).ownBlock.toList:=fun T=>by have:=o s T;omega
   have l:=(Z.E N.E O).E d.E L;have M:Keep [s] c w3:=((P.ext I).ext N.E).trans d.E fun x T a5=>absurd (o x T) U;refine wNl (⟨l.cell rfl,l.cell rfl⟩) ?_;refine go ?_;refine D_E rfl ?_;have q:=d.own
   obtain⟨i,j,rfl⟩:∃i j,v3=.slice i (b.length+1) j:=by
    rcases q.2 with⟨rfl,A⟩|⟨g,a0,a1,rfl,_⟩
    ·exact absurd A U
    ·exact⟨_,_,rfl⟩
   exact Eh
  ·refine AP (out:=tokC ⟨k,(t.take n).drop a,a⟩) rfl U (by rw[made_tok];rfl) (fun w2 N=>?_);have K:=N.own (n:=1) (size:=3) rfl D3 (Nat.le_refl _);have s2:=N.size;have D:=Z.E N.E O;refine wNl (⟨D.cell rfl,D.cell rfl⟩) ?_;refine D_E rfl ?_;refine AL rfl (D.cell rfl) ?_;refine wNl (⟨D.cell rfl,D.cell rfl⟩) ?_;refine D_E rfl ?_;refine Ap (ok:=AV) rfl rfl (Ae a3 N.E) (Aa K fun _ _=>trivial) U rfl rfl (by intro y F;simp[tokC]at F;rcases F with rfl|rfl|rfl<;>rfl) U U (by have:=P.size;have:=I.size;omega) (fun v3 w3 d=>?_);have o:∀x∈(Value.slice z b.length u).ownBlock.toList,c.heap.size<=x:=fun x T=>(Ad R (by simpa using T)).1;have L:s∉(Value.slice z b.length u).ownBlock.toList:=fun T=>by have:=o s T;omega
   have l:=(Z.E N.E O).E d.E L;have M:Keep [s] c w3:=((P.ext I).ext N.E).trans d.E fun x T a5=>absurd (o x T) U;refine wNl (⟨l.cell rfl,l.cell rfl⟩) ?_;refine go ?_;refine D_E rfl ?_;have q:=d.own
   obtain⟨i,j,rfl⟩:∃i j,v3=.slice i (b.length+1) j:=by
    rcases q.2 with⟨rfl,A⟩|⟨g,a0,a1,rfl,_⟩
    ·exact absurd A U
    ·exact⟨_,_,rfl⟩
   exact Eh
abbrev Res:=Except (Int×Nat) (Nat×List Tok)
def FnS(g:FuncId)(args:LV)(w y:World)(s:Nat)(t:LU)(r:Res):Prop:=
 FnP Zp g args w (fun v Z=>v=.tuple #[]/\∃a k,r=.ok (a,k)/\St y Z s t a k) (fun m Z=>∃e p,r=.error (e,p)/\m=fail e p/\Keep [s] y Z)
def addM(t:LU)(a:Nat)(b:List Tok)(k:Int)(n:Nat):Res:=if b.length=2000 then .error (2,a)else .ok (n,b++[⟨k,(t.take n).drop a,a⟩])
theorem addS(y w:World)(s a n:Nat)(t:LU)(c:List Tok)(k:Int)(h:St y w s t a c)(X:a<=n)(W:n<=t.length):FnS 248 [pt s,iV k,iV (n:Int)] w y s t (addM t a c k n):=by
 refine FnP.mono (add_ok y w s a n t c k h X W) ?_ ?_
 ·rintro v Z⟨rfl,M,b⟩;exact⟨rfl,_,_,by unfold addM;rw[if_neg U],b⟩
 ·rintro m Z⟨M,rfl,b⟩;exact⟨_,_,by unfold addM;rw[if_pos M],rfl,b⟩
def blankM(a:Nat)(k:List Tok):Res:=.ok (a+1,k)
theorem blank_ok(y w:World)(s a:Nat)(t:LU)(k:List Tok)(h:St y w s t a k)(X:a<t.length):FnS 192 [pt s] w y s t (blankM a k):=by
 obtain⟨P,D,M,I,G,tv,S,R⟩:=h;refine A7 Tryz.func192 rfl Tryz.ntmps192 nlr Dv (go ?_);refine AR rfl rfl rfl S O (fun W b=>?_);have c:=b.D;have H:=Ac R b.E fun g d=>by have:=(Ad R d).1;simp;omega
 have i:Keep [s] y W:=P.trans b.E fun x T _=>T;refine go ?_;refine BF rfl ⟨rfl,_,_,rfl,⟨i,D,M,by omega,G,tv,?_,H⟩⟩;have e:((a:Int)+1)=((a+1:Nat):Int):=by omega
 exact e▸c
def commM(t:LU)(a:Nat)(k:List Tok):Res:=.ok (A0 inComm t a,k)
theorem comment_ok(y w:World)(s a:Nat)(t:LU)(k:List Tok)(h:St y w s t a k):FnS 193 [pt s] w y s t (commM t a k):=by
 obtain⟨P,D,M,I,G,tv,S,R⟩:=h;refine A7 Tryz.func193 rfl Tryz.ntmps193 nlr Dv (go ?_);refine AE (while_ok comm_ok w s a t _ _ S I M) rfl ?_;rintro v Z⟨rfl,rfl⟩;refine go ?_;refine AR rfl rfl rfl S O (fun W b=>?_);have e:=b.D;have H:=Ac R b.E fun g c=>by have:=(Ad R c).1;simp;omega
 have i:Keep [s] y W:=P.trans b.E fun x T _=>T;refine go ?_;exact BF rfl ⟨rfl,_,_,rfl,⟨i,D,M,whileB_le I,G,tv,e,H⟩⟩
def nameM(t:LU)(a:Nat)(k:List Tok):Res:=if 20<A0 inName t (a+1)-a then .error (40,a)else addM t a k 1 (A0 inName t (a+1))
theorem scanName_ok(y w:World)(s a:Nat)(t:LU)(k:List Tok)(h:St y w s t a k)(X:a<t.length):FnS 194 [pt s] w y s t (nameM t a k):=by
 obtain⟨P,D,M,I,G,tv,S,R⟩:=id h;have d:=whileB_ge inName t (a+1);have b:=whileB_le (p:=inName) (t:=t) (a:=a+1) U;refine A7 Tryz.func194 rfl Tryz.ntmps194 nlr Dv (go ?_);refine AE (while_ok name_ok w s (a+1) t _ _ S U M) (by rw[Int.natCast_add];rfl) ?_;rintro v Z⟨rfl,rfl⟩;refine AO (AY rfl ?_);repeat refine nx rfl ?_
 (refine AJ (AY rfl (Af rfl (AM rfl (AD rfl (AL rfl (Blk.cell Dz Dx) ?_)))))<;>refine W_sub rfl rfl D8 ?_<;>(refine W_gtr rfl rfl (fun V=>?_) (fun V=>?_)<;>try omega))
 ·repeat refine nx rfl ?_
  (refine AJ (Af rfl (AM rfl (AD rfl (AL rfl (Blk.cell Dz Dx) ?_))))<;>refine Bv Dx Dx ?_<;>refine DZ (Dj rfl ?_))
  repeat refine nx rfl ?_
  exact Aj ⟨_,_,by unfold nameM;rw[if_pos U],rfl,P⟩
 ·repeat first|refine nx rfl ?_|refine nf rfl ?_
  refine AJ (Af rfl (AY rfl ?_));have e:nameM t a k=addM t a k 1 (A0 inName t (a+1)):=by unfold nameM;rw[if_neg U]
  rw[e];refine At (addS y Z s a _ t k 1 h U b) rfl ?_ ?_
  ·exact FP
  ·intro m L x;refine go ?_;exact Aj x
def Bk(t:LU)(a:Nat):Bool:=
 decide (4<A0 A6 t a-a)||(decide (1<A0 A6 t a-a)&&decide ((t.getD a 0).toNat=48))||
  (decide (A0 A6 t a<t.length)&&(isLet (t.getD (A0 A6 t a) 0)||decide ((t.getD (A0 A6 t a) 0).toNat=95)))
def numM(t:LU)(a:Nat)(k:List Tok):Res:=if Bk t a=true then .error (40,a)else addM t a k 2 (A0 A6 t a)
theorem getD_of{t:LU}{a:Nat}{c:UInt8}(h:t[a]?=some c):t.getD a 0=c:=by simp[List.getD_eq_getElem?_getD,h]
theorem St.ext{y w w':World}{s a:Nat}{t:LU}{b:List Tok}(h:St y w s t a b)(k:Ext w w'):St y w' s t a b:=by
 obtain⟨P,D,M,I,G,tv,S,R⟩:=h;exact⟨P.ext k,D,M,I,G,tv,S.E k O,Ae R k⟩
theorem scanNumber_ok(y w:World)(s a:Nat)(t:LU)(k:List Tok)(h:St y w s t a k)(X:a<t.length):FnS 195 [pt s] w y s t (numM t a k):=by
 obtain⟨r,D,n,o,u,tv,l,A⟩:=id h;have q:=whileB_ge A6 t a;have S:=whileB_le (p:=A6) (t:=t) (a:=a) U;have P:t[a]?=some t[a]:=List.getElem?_eq_getElem X;generalize t[a]=c0 at P;refine A7 Tryz.func195 rfl Tryz.ntmps195 nlr Dv (go ?_);refine AE (while_ok dig_ok w s a t _ _ l U n) rfl ?_;rintro v B⟨rfl,rfl⟩;refine go ?_;refine AX (rd 0 18 .done) An Dv (fun H I G=>⟨fun W=>W=H,?_,?_⟩)
 ·rfl
 have Z:=l.E I O;have b:=h.ext I;by_cases m:4<A0 A6 t a-a
 ·((apply D_R rfl rfl;(intro W f;subst f;refine AY rfl ?_;exact AA ⟨rfl,rfl,rfl⟩))<;>(refine D_gtr rfl rfl rfl rfl (fun V=>?_) (fun V=>?_)<;>try omega)<;>(apply D_R rfl rfl;(intro W f;subst f;refine AI rfl ?_;exact AA ⟨rfl,rfl,rfl⟩))<;>refine A8 rfl rfl rfl rfl (A8 rfl rfl rfl rfl (A8 rfl rfl rfl rfl ?_))<;>(apply D_R rfl rfl;(intro W f;refine Ak rfl ?_;exact AA ⟨rfl,rfl,rfl⟩))<;>(apply D_R rfl rfl;(intro W f;refine Ak rfl ?_;exact AA ⟨rfl,rfl,rfl⟩))<;>(apply D_R rfl rfl;(intro W f;refine Ak rfl ?_;exact AA ⟨rfl,rfl,rfl⟩))<;>(apply D_R rfl rfl;(intro W f;refine Ak rfl ?_;exact AA ⟨rfl,rfl,rfl⟩))<;>(apply D_R rfl rfl;(intro W f;refine Ak rfl ?_;exact AA ⟨rfl,rfl,rfl⟩))<;>(apply D_R rfl rfl;(intro W f;refine Ak rfl ?_;exact AA ⟨rfl,rfl,rfl⟩))<;>(apply D_R rfl rfl;(intro W f;refine Ak rfl ?_;exact AA ⟨rfl,rfl,rfl⟩))<;>(apply D_R rfl rfl;(intro W f;refine Ak rfl ?_;exact AA ⟨rfl,rfl,rfl⟩))<;>(apply D_R rfl rfl;(intro W f;refine Ak rfl ?_;exact AA ⟨rfl,rfl,rfl⟩))<;>(apply D_R rfl rfl;(intro W f;refine Ak rfl ?_;exact AA ⟨rfl,rfl,rfl⟩))<;>refine A8 rfl rfl rfl rfl ?_<;>(apply D_R rfl rfl;(intro W f;subst f;(refine Am rfl ?_;refine AI rfl ?_);exact AA ⟨rfl,rfl,rfl⟩))<;>refine Bq ?_)
  have R:Bk t a=true:=by unfold Bk;simp[m]
  exact Eb
 ·by_cases d:1<A0 A6 t a-a
  ·by_cases j:c0.toNat=48
   ·((apply D_R rfl rfl;(intro W f;subst f;refine AY rfl ?_;exact AA ⟨rfl,rfl,rfl⟩))<;>(refine D_gtr rfl rfl rfl rfl (fun V=>?_) (fun V=>?_)<;>try omega)<;>(apply D_R rfl rfl;(intro W f;subst f;refine AI rfl ?_;exact AA ⟨rfl,rfl,rfl⟩))<;>(apply D_R rfl rfl;(intro W f;subst f;(refine AN rfl ?_;refine AY rfl ?_);exact AA ⟨rfl,rfl,rfl⟩))<;>(refine D_gtr rfl rfl rfl rfl (fun V=>?_) (fun V=>?_)<;>try omega)<;>(apply D_R rfl rfl;(intro W f;subst f;(refine AN rfl ?_;refine AI rfl ?_);exact AA ⟨rfl,rfl,rfl⟩))<;>(apply D_R rfl rfl;(intro W f;subst f;(refine AN rfl ?_;refine Af rfl ?_);exact AA ⟨rfl,rfl,rfl⟩))<;>(apply D_R rfl rfl;(intro W f;subst f;(refine AN rfl ?_;refine AM rfl ?_);exact AA ⟨rfl,rfl,rfl⟩))<;>(apply D_R rfl rfl;(intro W f;subst f;(refine AN rfl ?_;refine AD rfl ?_);exact AA ⟨rfl,rfl,rfl⟩))<;>(apply D_R rfl rfl;(intro W f;subst f;(refine AN rfl ?_;refine AL rfl (Blk.cell Dz Dx) ?_);exact AA ⟨rfl,rfl,rfl⟩))<;>(apply D_R rfl rfl;(intro W f;subst f;(refine AN rfl ?_;refine Af rfl ?_);exact AA ⟨rfl,rfl,rfl⟩))<;>(apply D_R rfl rfl;(intro W f;subst f;(refine AN rfl ?_;refine AM rfl ?_);exact AA ⟨rfl,rfl,rfl⟩))<;>(apply D_R rfl rfl;(intro W f;subst f;(refine AN rfl ?_;refine AD rfl ?_);exact AA ⟨rfl,rfl,rfl⟩))<;>(apply D_R rfl rfl;(intro W f;subst f;(refine AN rfl ?_;refine AL rfl (Blk.cell Dz Dx) ?_);exact AA ⟨rfl,rfl,rfl⟩))<;>(apply D_R rfl rfl;(intro W f;subst f;(refine AN rfl ?_;refine W_sidx rfl rfl Dz ?_);exact AA ⟨rfl,rfl,rfl⟩))<;>(refine D_eql rfl rfl rfl rfl (fun V=>?_) (fun V=>?_)<;>try omega)<;>(apply D_R rfl rfl;(intro W f;subst f;(refine AN rfl ?_;(refine Am rfl ?_;refine AI rfl ?_));exact AA ⟨rfl,rfl,rfl⟩))<;>(apply D_R rfl rfl;(intro W f;subst f;(refine Al rfl ?_;refine AI rfl ?_);exact AA ⟨rfl,rfl,rfl⟩))<;>refine Bq ?_)
    have R:Bk t a=true:=by unfold Bk;rw[getD_of P];simp[d,j]
    exact Eb
   ·have z:(decide (1<A0 A6 t a-a)&&decide ((t.getD a 0).toNat=48))=false:=by rw[getD_of P];simp[j]
    refine go ?_;by_cases c:A0 A6 t a<t.length
    ·have K:t[A0 A6 t a]?=some t[A0 A6 t a]:=List.getElem?_eq_getElem c;generalize t[A0 A6 t a]=c1 at K;have g:=getD_of K;refine go ?_;refine AE (let_ok c1 _) rfl ?_;rintro v L⟨rfl,rfl⟩;cases hlet:isLet c1 with
     |true=>
      have R:Bk t a=true:=by unfold Bk;rw[g];simp[c,hlet]
      (refine AN rfl (AI rfl (Ak rfl (Ak rfl (Ak rfl (Ak rfl (Ak rfl (Ak rfl (Ak rfl ?_))))))))<;>(refine AN rfl ?_;(refine Am rfl ?_;refine AI rfl ?_))<;>refine Am rfl (AI rfl ?_))
      exact Eb
     |false=>
      by_cases M:c1.toNat=95
      ·have R:Bk t a=true:=by unfold Bk;rw[g];simp[c,M]
       (refine AN rfl (AI rfl (AN rfl (Af rfl (AN rfl (AM rfl (AN rfl (AD rfl ?_)))))))<;>(refine AN rfl ?_;refine AL rfl (Blk.cell Dz Dx) ?_)<;>refine AN rfl (AY rfl (AN rfl ?_))<;>refine W_sidx rfl rfl Dz ?_<;>(refine AN rfl ?_;(refine Bm rfl rfl (fun V=>?_) (fun V=>?_)<;>try omega))<;>(refine AN rfl ?_;(refine Al rfl ?_;refine AI rfl ?_))<;>refine Am rfl (AI rfl ?_))
       exact Eb
      ·have R:Bk t a=false:=by
        unfold Bk;rw[g,z,hlet,decide_eq_false m,decide_eq_false M];simp
       refine go ?_;have e:numM t a k=addM t a k 2 (A0 A6 t a):=by unfold numM;rw[if_neg];simp only[R];simp
       rw[e];refine At (addS y _ s a _ t k 2 b U S) rfl ?_ ?_
       ·exact FP
       ·intro i L x;refine go ?_;exact Aj x
    ·have R:Bk t a=false:=by
      unfold Bk;rw[z,decide_eq_false m,decide_eq_false c];simp
     refine go ?_;have e:numM t a k=addM t a k 2 (A0 A6 t a):=by unfold numM;rw[if_neg];simp only[R];simp
     rw[e];refine At (addS y _ s a _ t k 2 b U S) rfl ?_ ?_
     ·exact FP
     ·intro i L x;refine go ?_;exact Aj x
  ·have z:(decide (1<A0 A6 t a-a)&&decide ((t.getD a 0).toNat=48))=false:=by simp[d]
   refine go ?_;by_cases c:A0 A6 t a<t.length
   ·have K:t[A0 A6 t a]?=some t[A0 A6 t a]:=List.getElem?_eq_getElem c;generalize t[A0 A6 t a]=c1 at K;have g:=getD_of K;refine go ?_;refine AE (let_ok c1 _) rfl ?_;rintro v L⟨rfl,rfl⟩;cases hlet:isLet c1 with
    |true=>
     have R:Bk t a=true:=by unfold Bk;rw[g];simp[c,hlet]
     (refine AN rfl (AI rfl (Ak rfl (Ak rfl (Ak rfl (Ak rfl (Ak rfl (Ak rfl (Ak rfl ?_))))))))<;>(refine AN rfl ?_;(refine Am rfl ?_;refine AI rfl ?_))<;>refine Am rfl (AI rfl ?_))
     exact Eb
    |false=>
     by_cases M:c1.toNat=95
     ·have R:Bk t a=true:=by unfold Bk;rw[g];simp[c,M]
      (refine AN rfl (AI rfl (AN rfl (Af rfl (AN rfl (AM rfl (AN rfl (AD rfl ?_)))))))<;>(refine AN rfl ?_;refine AL rfl (Blk.cell Dz Dx) ?_)<;>refine AN rfl (AY rfl (AN rfl ?_))<;>refine W_sidx rfl rfl Dz ?_<;>(refine AN rfl ?_;(refine Bm rfl rfl (fun V=>?_) (fun V=>?_)<;>try omega))<;>(refine AN rfl ?_;(refine Al rfl ?_;refine AI rfl ?_))<;>refine Am rfl (AI rfl ?_))
      exact Eb
     ·have R:Bk t a=false:=by
       unfold Bk;rw[g,z,hlet,decide_eq_false m,decide_eq_false M];simp
      refine go ?_;have e:numM t a k=addM t a k 2 (A0 A6 t a):=by unfold numM;rw[if_neg];simp only[R];simp
      rw[e];refine At (addS y _ s a _ t k 2 b U S) rfl ?_ ?_
      ·exact FP
      ·intro i L x;refine go ?_;exact Aj x
   ·have R:Bk t a=false:=by
     unfold Bk;rw[z,decide_eq_false m,decide_eq_false c];simp
    refine go ?_;have e:numM t a k=addM t a k 2 (A0 A6 t a):=by unfold numM;rw[if_neg];simp only[R];simp
    rw[e];refine At (addS y _ s a _ t k 2 b U S) rfl ?_ ?_
    ·exact FP
    ·intro i L x;refine go ?_;exact Aj x
def symsL:List (LU):=[[45,62],[33,61],[40],[41],[123],[125],[91],[93],[44],[59],[58],[61],[33],[38],[124]]
def spansL:List (Nat×Nat×Nat):=[(32,32,0),(9,10,0),(13,13,0),(37,37,1),(97,122,2),(65,90,2),(48,57,3),(40,41,4),(123,125,4),(91,91,4),(93,93,4),(44,45,4),(58,59,4),(61,61,4),(33,33,4),(38,38,4)]
def symC:LV:=symsL.map AK
def spanC1(p:Nat×Nat×Nat):LV:=[.int .u8 (p.1:Int),.int .u8 (p.2.1:Int),iV (p.2.2:Int)]
def spanC:LV:=spansL.flatMap spanC1
structure GV(w:World):Prop where
 spans:Cells w 3 0 spanC
 syms:Cells w 4 0 symC
 size:10<=w.heap.size
theorem GV.E{X:List Nat}{w w':World}(h:GV w)(k:Keep X w w')(s:3∉X)(a:4∉X):GV w':=⟨h.spans.E k s,h.syms.E k a,Nat.le_trans h.size k.size⟩
theorem GV.ext{w w':World}(h:GV w)(k:Ext w w'):GV w':=h.E k O O
def symM(t:LU)(a:Nat)(k:List Tok):Res:=
 match symsL.find? (hasPre (t.drop a))with
 |some y=>addM t a k 3 (a+y.length)
 |none=>.error (40,a)
theorem find_step{α:Type}{p:α->Bool}{l:List α}{k:Nat}{y:α}(h:l[k]?=some y):(l.drop k).find? p=if p y=true then some y else(l.drop (k+1)).find? p:=by
 obtain⟨X,W⟩:=List.getElem?_eq_some_iff.1 h;rw[List.drop_eq_getElem_cons X,W,List.find?_cons];cases p y<;>rfl
theorem symbol_ok(c w:World)(s a:Nat)(t:LU)(b:List Tok)(h:St c w s t a b)(X:a<t.length)(C:GV c)(z:10<=s):FnS 196 [pt s] w c s t (symM t a b):=by
 have g:GV w:=C.E h.E Dw Dw;refine A7 Tryz.func196 rfl Tryz.ntmps196 nlr Dv (go ?_);refine AQ rfl rfl g.syms (go ?_);refine Ah (α:=Nat) (fun k=>[(0,pt s),(4,.agg symC.toArray),(5,iV (k:Int))]) (fun k R=>k<=15/\Ext w R/\symsL.find? (hasPre (t.drop a))=(symsL.drop k).find? (hasPre (t.drop a))) (fun k=>15-k) 0 ⟨rfl,rfl,rfl,trivial⟩ ⟨by omega,Ext.refl _,rfl⟩ ?_;rintro k R u⟨P,D,K⟩;have d:=h.ext D;repeat refine nx rfl ?_
 by_cases B:k<15
 ·have F:symsL[k]?=some symsL[k]:=List.getElem?_eq_getElem B;generalize symsL[k]=y at F;have q:symC[k]?=some (AK y):=by unfold symC;rw[List.getElem?_map,F];rfl
  rw[find_step F]at K;(refine AJ ?_<;>(refine Dh rfl rfl (fun V=>?_) (fun V=>?_)<;>try omega))
  repeat refine nx rfl ?_
  (refine AJ ?_;refine W_vidx1 rfl rfl B q ?_;refine AO ?_;refine Cb rfl ?_;refine AA ?_)
  repeat refine nx rfl ?_
  refine AX (rd 0 10 (.alt 10 .done .stop)) An Dv (fun H I r=>⟨fun W=>W=H,?_,?_⟩)
  ·rfl
  obtain⟨i,p,M,j,G,tv,S,n⟩:=id d;have Z:=S.E I O;((apply D_R rfl rfl;(intro W f;subst f;refine Af rfl ?_;exact AA ⟨rfl,rfl,rfl⟩))<;>(apply D_R rfl rfl;(intro W f;subst f;refine AM rfl ?_;exact AA ⟨rfl,rfl,rfl⟩))<;>(apply D_R rfl rfl;(intro W f;subst f;refine AD rfl ?_;exact AA ⟨rfl,rfl,rfl⟩))<;>(apply D_R rfl rfl;(intro W f;subst f;refine AL rfl (Blk.cell Dz Dx) ?_;exact AA ⟨rfl,rfl,rfl⟩))<;>(apply D_R rfl rfl;(intro W f;subst f;refine Af rfl ?_;exact AA ⟨rfl,rfl,rfl⟩))<;>(apply D_R rfl rfl;(intro W f;subst f;refine AM rfl ?_;exact AA ⟨rfl,rfl,rfl⟩))<;>(apply D_R rfl rfl;(intro W f;subst f;refine AD rfl ?_;exact AA ⟨rfl,rfl,rfl⟩))<;>(apply D_R rfl rfl;(intro W f;subst f;refine AL rfl (Blk.cell Dz Dx) ?_;exact AA ⟨rfl,rfl,rfl⟩))<;>(apply D_R rfl rfl;(intro W f;subst f;refine W_sslice_l rfl rfl U ?_;exact AA ⟨rfl,rfl,rfl⟩))<;>(apply D_R rfl rfl;(intro W f;subst f;refine Cb rfl ?_;exact AA ⟨rfl,rfl,rfl⟩)))
  refine D_E rfl ?_;refine AE (pre_ok _ _ _) rfl ?_;rintro v L⟨rfl,rfl⟩;refine AA ⟨fun W=>W=_,fun _ h=>h,rfl,?_⟩;refine Bq ?_;cases hp:hasPre (t.drop a) y with
  |true=>
   rw[hp,if_pos rfl]at K;have o:=((hasPre_iff _ _).1 hp).length_le;simp at o;repeat refine nx rfl ?_
   (refine AJ (Af rfl (Af rfl (AM rfl (AD rfl ?_))))<;>refine AL rfl (Blk.cell Dz Dx) ?_<;>refine Cb rfl (W_slen rfl ?_)<;>refine W_add rfl rfl D8 ?_)
   have e:symM t a b=addM t a b 3 (a+y.length):=by unfold symM;rw[K]
   rw[e];refine At (addS c _ s a (a+y.length) t b 3 (d.ext I) U U) (by rw[Int.natCast_add];rfl) ?_ ?_
   ·rintro v L⟨rfl,x⟩;repeat refine nx rfl ?_
    exact fin_ret0 rfl ⟨rfl,x⟩
   ·intro m L x;repeat refine nx rfl ?_
    exact Aj x
  |false=>
   rw[hp,if_neg O]at K;repeat first|refine nx rfl ?_|refine nf rfl ?_
   (refine AJ ?_<;>refine W_add rfl rfl D8 ?_<;>refine AY rfl ?_)
   repeat refine nx rfl ?_
   refine⟨k+1,⟨rfl,⟨rfl,rfl,?_,trivial⟩,⟨by omega,D.trans I,K⟩⟩,by omega⟩;show iV ((k:Int)+1)=_;rw[Int.natCast_add];rfl
 ·obtain⟨i,p,M,j,G,tv,S,n⟩:=id d;(refine AJ ?_<;>(refine Dh rfl rfl (fun V=>?_) (fun V=>?_)<;>try omega))
  repeat first|refine nx rfl ?_|refine nf rfl ?_
  (refine AJ (Af rfl (AM rfl (AD rfl ?_)))<;>refine AL rfl (Blk.cell Dz Dx) ?_<;>refine Bv Dx Dx ?_<;>refine DZ (Dj rfl ?_))
  repeat refine nx rfl ?_
  refine Aj ⟨_,_,?_,rfl,i⟩;unfold symM;have l:symsL.drop k=[]:=List.drop_eq_nil_of_le (by show 15<=k;omega);rw[K,l];rfl
def inSpan(c:UInt8)(p:Nat×Nat×Nat):Bool:=decide (p.1<=c.toNat)&&decide (c.toNat<=p.2.1)
def kindB(c:UInt8):Option Nat:=(spansL.find? (inSpan c)).map (·.2.2)
def CJ(t:LU)(a:Nat)(k:List Tok):Res:=
 match kindB (t.getD a 0)with
 |some 0=>blankM a k
 |some 1=>commM t a k
 |some 2=>nameM t a k
 |some 3=>numM t a k
 |some _=>symM t a k
 |none=>.error (40,a)
def scanF(t:LU):Nat->Nat->List Tok->Res
 |0,a,_=>.error (40,a)
 |n+1,a,ts=>if a<t.length then(match CJ t a ts with| .ok (a',ts')=>scanF t n a' ts'| .error e=>.error e)else .ok (a,ts)
def scanR(t:LU):Res:=scanF t (t.length+1) 0 []
theorem DE{t:LU}{a n X:Nat}{b r:List Tok}{k:Int}(h:addM t a b k n=.ok (X,r)):X=n:=by
 unfold addM at h
 split at h
 ·cases h
 ·cases h;rfl
theorem kindB_dig{c:UInt8}(h:kindB c=some 3):A6 c=true:=by
 unfold kindB at h;obtain⟨p,v,P⟩:=Option.map_eq_some_iff.1 h;have X:=List.find?_some v;have W:=List.mem_of_find?_eq_some v;simp[spansL]at W;rcases W with rfl|rfl|rfl|rfl|rfl|rfl|rfl|rfl|rfl|rfl|rfl|rfl|rfl|rfl|rfl|rfl<;>simp at P;simpa[inSpan,A6]using X
theorem kindB_comm{c:UInt8}(h:kindB c=some 1):inComm c=true:=by
 unfold kindB at h;obtain⟨p,v,P⟩:=Option.map_eq_some_iff.1 h;have X:=List.find?_some v;have W:=List.mem_of_find?_eq_some v;simp[spansL]at W;rcases W with rfl|rfl|rfl|rfl|rfl|rfl|rfl|rfl|rfl|rfl|rfl|rfl|rfl|rfl|rfl|rfl<;>simp at P;simp[inSpan]at X;simp[inComm];omega
theorem step_on{t:LU}{a X:Nat}{k r:List Tok}(M:a<t.length)(h:CJ t a k=.ok (X,r)):a<X:=by
 have V:t[a]?=some t[a]:=List.getElem?_eq_getElem M;generalize t[a]=c at V;unfold CJ at h;rw[getD_of V]at h
 split at h
 ·cases h;omega
 ·cases h;rw[whileB_step V (kindB_comm Dz)];have:=whileB_ge inComm t (a+1);omega
 ·unfold nameM at h
  split at h
  ·cases h
  ·have:=DE h;have:=whileB_ge inName t (a+1);omega
 ·unfold numM at h
  split at h
  ·cases h
  ·have:=DE h;rw[whileB_step V (kindB_dig Dz)]at this;have:=whileB_ge A6 t (a+1);omega
 ·unfold symM at h
  split at h
  ·rename_i y hy;have W:=List.mem_of_find?_eq_some hy;have:=DE h;have A:∀y∈symsL,1<=y.length:=by decide
   have:=A y W;omega
  ·cases h
 ·cases h
theorem spanC_at:∀(l:List (Nat×Nat×Nat))(k:Nat)(p:Nat×Nat×Nat),l[k]?=some p->((l.flatMap spanC1).drop (k*3)).take 3=spanC1 p
 | [],k,p,h=>by simp at h
 |q::l,0,p,h=>by simp at h;subst h;simp[spanC1]
 |q::l,k+1,p,h=>by
  have:=spanC_at l k p EC;rw[<-this,List.flatMap_cons,List.drop_append,List.drop_eq_nil_of_le (by simp[spanC1];omega),List.nil_append]
  congr 2
  simp[spanC1];omega
def fnC(s:Nat):LV:=[.func (.func 192) #[pt s] #[],.func (.func 193) #[pt s] #[],.func (.func 194) #[pt s] #[],.func (.func 195) #[pt s] #[],.func (.func 196) #[pt s] #[]]
theorem scan_ok(w:World)(s:Nat)(t:LU)(S:Blk w s 213 [AK t,iV 0,.slice none 0 0])(hG:GV w)(b5:10<=s)(M:t.length<=6000):FnS 160 [pt s] w w s t (scanR t):=by
 have hsz:=S.lt;refine A7 Tryz.func160 rfl Tryz.ntmps160 nlr Dv ?_;repeat refine nx rfl ?_
 (refine AJ (Af rfl (Dl rfl rfl (Af rfl (Dl rfl rfl (Af rfl (Dl rfl rfl (Af rfl (Dl rfl rfl (Af rfl (Dl rfl rfl ?_))))))))))<;>refine W_buildArr Dx Dx ?_)
 refine AS (fun w1 n1=>?_);refine AH (cs:=fnC s) rfl rfl rfl (by intro u E;simp[fnC]at E;rcases E with rfl|rfl|rfl|rfl|rfl<;>rfl) n1.D (by simp[fnC]) (fun L G=>?_);have a3:Blk L w.heap.size 246 (fnC s):=G.D;have l:Ext w L:=n1.E.E G.E O;have b0:=S.E l O;repeat refine nx rfl ?_
 have a2:=hG.ext l;have b4:St L L s t 0 []:=⟨Keep.refl _ _,by have:=l.size;omega,M,by omega,by simp,_,b0,⟨rfl,.inl ⟨rfl,rfl⟩⟩⟩;have c0:=a3.lt
 have b1:∀Z a g,St L Z s t a g->St w Z s t a g:=fun Z a g h=>by
  obtain⟨hk,hs,M,ha,hn,tv,S,ho⟩:=h;exact⟨l.any.trans hk fun x hx _=>hx,hsz,M,ha,hn,tv,S,Bl ho l.size⟩
 have y:∀Z,Keep [s] L Z->Keep [s] w Z:=fun Z h=>l.any.trans h fun x hx _=>hx;refine Ah (α:=Nat×Nat×List Tok) (fun _=>[(0,pt s),(2,pt w.heap.size)]) (fun x w1=>St L w1 s t x.2.1 x.2.2/\t.length<x.1+x.2.1/\scanF t x.1 x.2.1 x.2.2=scanR t) (fun x=>x.1) (t.length+1,0,[]) ⟨rfl,rfl,trivial⟩ ⟨b4,by simp,rfl⟩ ?_;rintro⟨n,a,g⟩w3 f'⟨D,hn,b⟩;simp only at D hn b⊢;obtain⟨n,rfl⟩:∃m,n=m+1:=⟨n-1,by have:=D.loc;omega⟩;unfold scanF at b;repeat refine nx rfl ?_
 refine AX (rd 0 10 .done) An Dv (fun H I ed=>⟨fun W=>W=H,?_,?_⟩)
 ·rfl
 obtain⟨c3,c8,_,b8,c4,d0,a4,c6⟩:=id D;have a0:=a4.E I O;by_cases j:a<t.length
 ·rw[if_pos j]at b;((apply D_R rfl rfl;(intro W f;subst f;refine Af rfl ?_;exact AA ⟨rfl,rfl,rfl⟩))<;>(apply D_R rfl rfl;(intro W f;subst f;refine AM rfl ?_;exact AA ⟨rfl,rfl,rfl⟩))<;>(apply D_R rfl rfl;(intro W f;subst f;refine AD rfl ?_;exact AA ⟨rfl,rfl,rfl⟩))<;>(apply D_R rfl rfl;(intro W f;subst f;refine AL rfl (Blk.cell Dz Dx) ?_;exact AA ⟨rfl,rfl,rfl⟩))<;>(apply D_R rfl rfl;(intro W f;subst f;refine Af rfl ?_;exact AA ⟨rfl,rfl,rfl⟩))<;>(apply D_R rfl rfl;(intro W f;subst f;refine AM rfl ?_;exact AA ⟨rfl,rfl,rfl⟩))<;>(apply D_R rfl rfl;(intro W f;subst f;refine AD rfl ?_;exact AA ⟨rfl,rfl,rfl⟩))<;>(apply D_R rfl rfl;(intro W f;subst f;refine AL rfl (Blk.cell Dz Dx) ?_;exact AA ⟨rfl,rfl,rfl⟩))<;>(apply D_R rfl rfl;(intro W f;subst f;refine W_slen rfl ?_;exact AA ⟨rfl,rfl,rfl⟩))<;>(refine C8 rfl rfl rfl rfl (fun V=>?_) (fun V=>?_)<;>try omega)<;>refine Bq ?_)
  have a1:=D.ext I;have V:t[a]?=some t[a]:=List.getElem?_eq_getElem j;generalize t[a]=c at V;have a7:GV H:=a2.E a1.E Dw Dw;have a8:Blk H w.heap.size 246 (fnC s):=a3.E a1.E Dw;repeat refine nx rfl ?_
  clear a0;refine AX (rd 0 10 .done) An Dv (fun H I ed=>⟨fun W=>W=H,?_,?_⟩)
  ·rfl
  have a0:=(a4.E Dz O).E I O;((apply D_R rfl rfl;(intro W f;subst f;refine Af rfl ?_;exact AA ⟨rfl,rfl,rfl⟩))<;>(apply D_R rfl rfl;(intro W f;subst f;refine AM rfl ?_;exact AA ⟨rfl,rfl,rfl⟩))<;>(apply D_R rfl rfl;(intro W f;subst f;refine AD rfl ?_;exact AA ⟨rfl,rfl,rfl⟩))<;>(apply D_R rfl rfl;(intro W f;subst f;refine AL rfl (Blk.cell Dz Dx) ?_;exact AA ⟨rfl,rfl,rfl⟩))<;>(apply D_R rfl rfl;(intro W f;subst f;refine Af rfl ?_;exact AA ⟨rfl,rfl,rfl⟩))<;>(apply D_R rfl rfl;(intro W f;subst f;refine AM rfl ?_;exact AA ⟨rfl,rfl,rfl⟩))<;>(apply D_R rfl rfl;(intro W f;subst f;refine AD rfl ?_;exact AA ⟨rfl,rfl,rfl⟩))<;>(apply D_R rfl rfl;(intro W f;subst f;refine AL rfl (Blk.cell Dz Dx) ?_;exact AA ⟨rfl,rfl,rfl⟩))<;>(apply D_R rfl rfl;(intro W f;subst f;refine W_sidx rfl rfl Dz ?_;exact AA ⟨rfl,rfl,rfl⟩))<;>(apply D_R rfl rfl;(intro W f;subst f;(refine AO ?_;refine AY rfl ?_);exact AA ⟨rfl,rfl,rfl⟩))<;>refine Bq ?_)
  have b6:=a1.ext I;have a6:=a7.ext I;have a9:=a8.E I O;clear a0;repeat refine nx rfl ?_
  (refine AJ ?_;refine AQ rfl rfl a6.spans ?_;refine AY rfl ?_;refine AA ?_)
  repeat refine nx rfl ?_
  have z:CJ t a g=match(spansL.find? (inSpan c)).map (·.2.2)with|some 0=>blankM a g|some 1=>commM t a g|some 2=>nameM t a g|some 3=>numM t a g|some _=>symM t a g|none=>.error (40,a):=by
   unfold CJ;rw[getD_of V];rfl
  refine Ah (α:=Nat) (fun k=>[(0,pt s),(2,pt w.heap.size),(3,enc8 c),(36,.agg spanC.toArray),(37,iV (k:Int))]) (fun k N=>k<=16/\Ext H N/\spansL.find? (inSpan c)=(spansL.drop k).find? (inSpan c)) (fun k=>16-k) 0 ⟨rfl,rfl,rfl,rfl,rfl,trivial⟩ ⟨by omega,Ext.refl _,rfl⟩ ?_;rintro k N f5⟨hk,T,K⟩;have h5:=b6.ext T;repeat refine nx rfl ?_
  by_cases a5:k<16
  ·have R:spansL[k]?=some spansL[k]:=List.getElem?_eq_getElem a5;generalize spansL[k]=p at R;rw[find_step R]at K
   have b3:p.2.2<5:=by
    have:∀p∈spansL,p.2.2<5:=by decide
    exact this p (List.mem_of_getElem? R)
   (refine AJ ?_<;>(refine Dh rfl rfl (fun V=>?_) (fun V=>?_)<;>try omega))
   repeat refine nx rfl ?_
   (refine AJ ?_;refine W_vidx rfl rfl a5 (spanC_at _ _ _ R) ?_;refine AS (fun w6 n6=>?_))
   refine AH (cs:=spanC1 p) rfl rfl rfl (by intro u E;simp[spanC1]at E;rcases E with rfl|rfl|rfl<;>rfl) n6.D (by simp[spanC1]) (fun Q p7=>?_);have b7:Blk Q N.heap.size 248 (spanC1 p):=p7.D;have k7:Ext N Q:=n6.E.E p7.E O;have C:=h5.ext k7;repeat refine nx rfl ?_
   have hb7:Blk Q w.heap.size 246 (fnC s):=(a9.E T O).E k7 O;obtain⟨p1,G,A⟩:=p;simp only at b3;replace b7:Blk Q N.heap.size 248 [.int .u8 (p1:Int),.int .u8 (G:Int),iV (A:Int)]:=b7;by_cases c1:p1<=c.toNat
   ·by_cases c2:c.toNat<=G
    ·rw[if_pos (by simp[inSpan,c1,c2])]at K;(refine AJ (AD rfl ?_)<;>refine AL rfl (Blk.cell Dz Dx) ?_<;>refine AY rfl ?_<;>(refine Cr rfl rfl (fun V=>?_) (fun V=>?_)<;>try omega)<;>refine AI rfl (AN rfl (AY rfl (AN rfl (AD rfl ?_))))<;>(refine AN rfl ?_;refine AL rfl (Blk.cell Dz Dx) ?_)<;>(refine AN rfl ?_;(refine Cr rfl rfl (fun V=>?_) (fun V=>?_)<;>try omega))<;>refine Am rfl (AI rfl ?_))
     repeat refine nx rfl ?_
     obtain rfl|rfl|rfl|rfl|rfl:A=0\/A=1\/A=2\/A=3\/A=4:=by omega
     ·have d:CJ t a g=blankM a g:=by rw[z,K];rfl
      (refine AJ (AD rfl ?_)<;>refine AL rfl (Blk.cell Dz Dx) ?_<;>refine Dp rfl rfl U U ?_<;>refine AL rfl (Blk.cell Dz Dx) ?_)
      refine C0 (v1:=[pt s]) (v2:=[]) (vs:=[]) rfl (blank_ok L _ s a t g C j) rfl ?_ ?_
      ·exact Ek
      ·exact Er
     ·have d:CJ t a g=commM t a g:=by rw[z,K];rfl
      (refine AJ (AD rfl ?_)<;>refine AL rfl (Blk.cell Dz Dx) ?_<;>refine Dp rfl rfl U U ?_<;>refine AL rfl (Blk.cell Dz Dx) ?_)
      refine C0 (v1:=[pt s]) (v2:=[]) (vs:=[]) rfl (comment_ok L _ s a t g C) rfl ?_ ?_
      ·exact Ek
      ·exact Er
     ·have d:CJ t a g=nameM t a g:=by rw[z,K];rfl
      (refine AJ (AD rfl ?_)<;>refine AL rfl (Blk.cell Dz Dx) ?_<;>refine Dp rfl rfl U U ?_<;>refine AL rfl (Blk.cell Dz Dx) ?_)
      refine C0 (v1:=[pt s]) (v2:=[]) (vs:=[]) rfl (scanName_ok L _ s a t g C j) rfl ?_ ?_
      ·exact Ek
      ·exact Er
     ·have d:CJ t a g=numM t a g:=by rw[z,K];rfl
      (refine AJ (AD rfl ?_)<;>refine AL rfl (Blk.cell Dz Dx) ?_<;>refine Dp rfl rfl U U ?_<;>refine AL rfl (Blk.cell Dz Dx) ?_)
      refine C0 (v1:=[pt s]) (v2:=[]) (vs:=[]) rfl (scanNumber_ok L _ s a t g C j) rfl ?_ ?_
      ·exact Ek
      ·exact Er
     ·have d:CJ t a g=symM t a g:=by rw[z,K];rfl
      (refine AJ (AD rfl ?_)<;>refine AL rfl (Blk.cell Dz Dx) ?_<;>refine Dp rfl rfl U U ?_<;>refine AL rfl (Blk.cell Dz Dx) ?_)
      refine C0 (v1:=[pt s]) (v2:=[]) (vs:=[]) rfl (symbol_ok L _ s a t g C j a2 b5) rfl ?_ ?_
      ·exact Ek
      ·exact Er
    ·rw[if_neg (by simp[inSpan,c2])]at K;(refine AJ (AD rfl ?_)<;>refine AL rfl (Blk.cell Dz Dx) ?_<;>refine AY rfl ?_<;>(refine Cr rfl rfl (fun V=>?_) (fun V=>?_)<;>try omega)<;>refine AI rfl (AN rfl (AY rfl (AN rfl (AD rfl ?_))))<;>(refine AN rfl ?_;refine AL rfl (Blk.cell Dz Dx) ?_)<;>(refine AN rfl ?_;(refine Cr rfl rfl (fun V=>?_) (fun V=>?_)<;>try omega))<;>refine Am rfl (AI rfl ?_))
     repeat first|refine nx rfl ?_|refine nf rfl ?_
     (refine AJ ?_<;>refine W_add rfl rfl D8 ?_<;>refine AY rfl ?_)
     repeat refine nx rfl ?_
     refine⟨k+1,⟨rfl,⟨rfl,rfl,rfl,rfl,?_,trivial⟩,⟨by omega,T.trans k7,K⟩⟩,by omega⟩;show iV ((k:Int)+1)=_;rw[Int.natCast_add];rfl
   ·rw[if_neg (by simp[inSpan,c1])]at K;(refine AJ (AD rfl ?_)<;>refine AL rfl (Blk.cell Dz Dx) ?_<;>refine AY rfl ?_<;>(refine Cr rfl rfl (fun V=>?_) (fun V=>?_)<;>try omega)<;>refine AI rfl (Ak rfl (Ak rfl (Ak rfl (Ak rfl (Al rfl (AI rfl ?_)))))))
    repeat first|refine nx rfl ?_|refine nf rfl ?_
    (refine AJ ?_<;>refine W_add rfl rfl D8 ?_<;>refine AY rfl ?_)
    repeat refine nx rfl ?_
    refine⟨k+1,⟨rfl,⟨rfl,rfl,rfl,rfl,?_,trivial⟩,⟨by omega,T.trans k7,K⟩⟩,by omega⟩;show iV ((k:Int)+1)=_;rw[Int.natCast_add];rfl
  ·obtain⟨b2,c9,_,b9,c5,d1,hb6,c7⟩:=id h5;(refine AJ ?_<;>(refine Dh rfl rfl (fun V=>?_) (fun V=>?_)<;>try omega))
   repeat first|refine nx rfl ?_|refine nf rfl ?_
   (refine AJ (Af rfl (AM rfl (AD rfl ?_)))<;>refine AL rfl (Blk.cell Dz Dx) ?_<;>refine Bv Dx Dx ?_<;>refine DZ (Dj rfl ?_))
   repeat refine nx rfl ?_
   have hd:spansL.drop k=[]:=List.drop_eq_nil_of_le (by show 16<=k;omega);rw[hd]at K;rw[z,K]at b;exact Aj ⟨_,_,b.symm,rfl,y _ b2⟩
 ·rw[if_neg j]at b;((apply D_R rfl rfl;(intro W f;subst f;refine Af rfl ?_;exact AA ⟨rfl,rfl,rfl⟩))<;>(apply D_R rfl rfl;(intro W f;subst f;refine AM rfl ?_;exact AA ⟨rfl,rfl,rfl⟩))<;>(apply D_R rfl rfl;(intro W f;subst f;refine AD rfl ?_;exact AA ⟨rfl,rfl,rfl⟩))<;>(apply D_R rfl rfl;(intro W f;subst f;refine AL rfl (Blk.cell Dz Dx) ?_;exact AA ⟨rfl,rfl,rfl⟩))<;>(apply D_R rfl rfl;(intro W f;subst f;refine Af rfl ?_;exact AA ⟨rfl,rfl,rfl⟩))<;>(apply D_R rfl rfl;(intro W f;subst f;refine AM rfl ?_;exact AA ⟨rfl,rfl,rfl⟩))<;>(apply D_R rfl rfl;(intro W f;subst f;refine AD rfl ?_;exact AA ⟨rfl,rfl,rfl⟩))<;>(apply D_R rfl rfl;(intro W f;subst f;refine AL rfl (Blk.cell Dz Dx) ?_;exact AA ⟨rfl,rfl,rfl⟩))<;>(apply D_R rfl rfl;(intro W f;subst f;refine W_slen rfl ?_;exact AA ⟨rfl,rfl,rfl⟩))<;>(refine C8 rfl rfl rfl rfl (fun V=>?_) (fun V=>?_)<;>try omega)<;>refine Bq ?_)
  repeat first|refine nx rfl ?_|refine nf rfl ?_
  exact BF rfl ⟨rfl,_,_,b.symm,b1 _ _ _ (D.ext I)⟩
theorem rec_ret(w:World)(D S f:Nat):CallsDIn Fence.wide 0 Zp 159 ([]++[pt D,pt S,pt f]:LV).toArray .returning w (fun e o w'=>match e with| .returned _=>o=.returning/\Ext w w'|_=>False):=by
 refine callsD_rec (u1:=.returning) (v0:=.nilIface) (G:=fun _ w'=>Ext w w') (args:=[pt D,pt S,pt f]) Tryz.func159 rfl Tryz.ntmps159 O D7 Dv Dv (.inl ⟨rfl,rfl,rfl⟩) ?_;refine W_assert_nil (z:=.agg #[iV 0,iV 0]) rfl Dv (go ?_);refine AS (fun R E=>?_);refine AH (cs:=[iV 0,iV 0]) rfl rfl rfl (by intro u n;simp at n;subst n;rfl) E.D O (fun L a=>?_);have l:Ext w L:=E.E.E a.E O;refine go ?_;exact BF rfl l
theorem rec_pan(w:World)(D S f:Nat)(c b a:Value)(e q:Int)(V:Blk w D 159 [c])(T:Blk w S 43 [b])(d:Blk w f 3 [a])(r:D≠S)(Q:D≠f)(P:S≠f):
  CallsDIn Fence.wide 0 Zp 159 ([]++[pt D,pt S,pt f]:LV).toArray (.panicking [{v:=.iface 209 (.agg #[iV e,iV q]),recovered:=false}]) w
   (fun N o w'=>match N with| .returned _=>o=.panicking [{v:=.iface 209 (.agg #[.int .i64 e,.int .i64 q]),recovered:=true}]/\(Keep [D,S,f] w w'/\Blk w' D 159 [.slice none 0 0]/\Blk w' S 43 [.int .i64 e]/\Blk w' f 3 [.int .i64 q])|_=>False):=by
 have t:=V.lt;have g:=T.lt;have M:=d.lt
 refine callsD_rec (u1:=.panicking [{v:=.iface 209 (.agg #[iV e,iV q]),recovered:=true}]) (v0:=.iface 209 (.agg #[iV e,iV q]))
  (G:=fun _ w'=>Keep [D,S,f] w w'/\Blk w' D 159 [.slice none 0 0]/\Blk w' S 43 [iV e]/\Blk w' f 3 [iV q]) (args:=[pt D,pt S,pt f]) Tryz.func159 rfl Tryz.ntmps159 O D7 Dv Dv (.inr ⟨_,rfl,rfl,rfl⟩) ?_
 refine W_assert_yes rfl ?_;refine M_tuple rfl (Du rfl rfl (Du rfl rfl ?_));refine AS (fun x E=>?_);refine AH (cs:=[iV e,iV q]) rfl rfl rfl (by intro u n;simp at n;rcases n with rfl|rfl<;>rfl) E.D O (fun L j=>?_);have l:Ext w L:=E.E.E j.E O;have y:Blk L w.heap.size 209 [iV e,iV q]:=j.D;replace V:=V.E l O;replace T:=T.E l O;replace d:=d.E l O;refine go ?_;refine AX (rd 0 4 (.alt 4 (.alt 5 (.alt 6 .done .stop) .stop) .stop)) An Dv (fun H I s=>⟨fun W=>W.cell? ⟨w.heap.size,0,none⟩=some (iV e)/\W.cell? ⟨w.heap.size,1,none⟩=some (iV q),?_,?_⟩)
 ·exact⟨(y.E I O).cell rfl,(y.E I O).cell rfl⟩
 have z:∀W:World,(W.cell? ⟨w.heap.size,0,none⟩=some (iV e)/\W.cell? ⟨w.heap.size,1,none⟩=some (iV q))->W.cell? ⟨w.heap.size,0,none⟩=some (iV e):=fun W h=>h.1;have m:∀W:World,(W.cell? ⟨w.heap.size,0,none⟩=some (iV e)/\W.cell? ⟨w.heap.size,1,none⟩=some (iV q))->W.cell? ⟨w.heap.size,1,none⟩=some (iV q):=fun W h=>h.2;replace y:=y.E I O;replace V:=V.E I O;replace T:=T.E I O;replace d:=d.E I O;have k:Keep [D,S,f] w H:=(l.trans I).any;((apply D_R rfl rfl;(intro W i;refine AD rfl ?_;exact AA ⟨rfl,rfl,rfl⟩))<;>(apply D_R rfl rfl;(intro W i;refine AL rfl (z W i) ?_;exact AA ⟨rfl,rfl,rfl⟩))<;>(apply D_R rfl rfl;(intro W i;refine AD rfl ?_;exact AA ⟨rfl,rfl,rfl⟩))<;>(apply D_R rfl rfl;(intro W i;refine AL rfl (m W i) ?_;exact AA ⟨rfl,rfl,rfl⟩)))
 refine D_E rfl ?_;refine AR rfl rfl rfl V O (fun W p=>?_);have R:=p.D;replace T:=T.E p.E Dw;replace d:=d.E p.E Dw;replace y:=y.E p.E Dw;replace k:=k.trans p.E O;clear V;have V:=R;clear R p;refine wNl (⟨y.cell rfl,y.cell rfl⟩) ?_;refine D_E rfl ?_;refine AR rfl rfl rfl T O (fun W p=>?_);have R:=p.D;replace V:=V.E p.E Dw;replace d:=d.E p.E Dw;replace y:=y.E p.E Dw;replace k:=k.trans p.E O;clear T;have T:=R;clear R p;refine wNl (⟨y.cell rfl,y.cell rfl⟩) ?_;refine D_E rfl ?_;refine AR rfl rfl rfl d O (fun W p=>?_);have R:=p.D;replace V:=V.E p.E Dw;replace T:=T.E p.E Dw;replace y:=y.E p.E Dw;replace k:=k.trans p.E O;clear d;have d:=R;clear R p;refine wNl (⟨y.cell rfl,y.cell rfl⟩) ?_;refine go ?_;exact BF rfl ⟨k,V,T,d⟩
def lexM(t:LU):Except (Int×Nat) (List Tok):=
 if 6000<t.length then .error (2,6000)else match scanR t with| .ok r=>.ok r.2| .error e=>.error e
def LexAns(B:Nat)(w':World)(m:Except (Int×Nat) (List Tok))(tv:Value)(e q:Int):Prop:=
 match m with
 | .ok ts=>e=0/\q= -1/\w'.ownsRow B 217 3 tv ts.length (toksC ts)
 | .error (e',p)=>e=e'/\q=(p:Int)/\tv=.slice none 0 0
theorem lex_ok(w:World)(t:LU)(C:GV w):Fn Zp 101 [AK t] w fun v w'=>∃tv e q,v=.tuple #[tv,iV e,iV q]/\Ext w w'/\LexAns w.heap.size w' (lexM t) tv e q:=by
 have h2:=C.size;refine DB Tryz.func101 rfl Tryz.ntmps101 nlr Dv (go ?_);refine AS (fun R V=>?_);refine AS (fun j N=>?_);refine AS (fun o Z=>?_);have z1:=V.size;have z2:=N.size;have z3:=Z.size;have I:Blk o w.heap.size 159 [.slice none 0 0]:=(V.D.E N.E O).E Z.E O;have K:Blk o R.heap.size 43 [iV 0]:=N.D.E Z.E O;have y:Blk o j.heap.size 3 [iV 0]:=Z.D;have k3:Ext w o:=(V.E.trans N.E).trans Z.E;refine go ?_;by_cases l:6000<t.length
 ·refine go ?_;refine AR rfl rfl rfl I O (fun u m=>?_);refine AR rfl rfl rfl (K.E m.E Dw) O (fun W s=>?_);refine AR rfl rfl rfl ((y.E m.E Dw).E s.E Dw) O (fun x b=>?_);have B:Blk x w.heap.size 159 [.slice none 0 0]:=(m.D.E s.E Dw).E b.E Dw;have D:Blk x R.heap.size 43 [iV 2]:=s.D.E b.E Dw;have S:Blk x j.heap.size 3 [iV 6000]:=b.D;have k6:Ext w x:=((k3.E m.E O).E s.E Dw).E b.E Dw;refine go ?_;refine BB (A9 rfl (B.cell rfl) (A9 rfl (D.cell rfl) (A9 rfl (S.cell rfl) ?_)));refine⟨_,_,_,rfl,k6,?_⟩;unfold lexM;rw[if_pos l];exact⟨rfl,rfl,rfl⟩
 ·refine go ?_;refine W_defer (v1:=[]) (v2:=[pt w.heap.size,pt R.heap.size,pt j.heap.size]) (vs:=[]) rfl rfl (go ?_);refine Ai (L:=[AK t,iV 0,.slice none 0 0]) rfl (fun u E=>?_);have z4:=E.size;have s4:=E.D;have z:Ext w u:=k3.trans E.E;refine go ?_;have hm:lexM t=match scanR t with| .ok r=>.ok r.2| .error e=>.error e:=by unfold lexM;rw[if_neg l]
  refine At (scan_ok u o.heap.size t s4 (C.ext z) U U) rfl ?_ ?_
  ·rintro v W⟨rfl,a,X,F,h5⟩;obtain⟨k,a5,_,a2,a4,tv,a3,T⟩:=h5;refine go ?_;have M:Blk W w.heap.size 159 [.slice none 0 0]:=(I.E E.E O).E k Dw;have A:Blk W R.heap.size 43 [iV 0]:=(K.E E.E O).E k Dw;have P:Blk W j.heap.size 3 [iV 0]:=(y.E E.E O).E k Dw
   obtain⟨G,f,rfl⟩:∃G f,tv=.slice G X.length f:=by
    rcases T.2 with⟨rfl,h0⟩|⟨g,a0,a1,rfl,_⟩
    ·exact⟨none,0,by rw[h0]⟩
    ·exact⟨_,_,rfl⟩
   refine AR rfl rfl rfl M O (fun x b=>?_);refine AR rfl rfl rfl (A.E b.E Dw) O (fun w7 n=>?_);refine AR rfl rfl rfl ((P.E b.E Dw).E n.E Dw) O (fun H d=>?_);have B:Blk H w.heap.size 159 [.slice G X.length f]:=(b.D.E n.E Dw).E d.E Dw;have D:Blk H R.heap.size 43 [iV 0]:=n.D.E d.E Dw;have S:Blk H j.heap.size 3 [iV (-1)]:=d.D;have i:Ext w W:=z.E k Dw;have k8:Ext w H:=((i.E b.E O).E n.E Dw).E d.E Dw;have Q:∀g,(Value.slice G X.length f).ownBlock=some g->u.heap.size<=g:=fun g c=>(Ad T c).1;have o8:=Ac (Ac (Ac T b.E fun g c=>by have:=Q g c;simp;omega) n.E fun g c=>by have:=Q g c;simp;omega) d.E fun g c=>by have:=Q g c;simp;omega
   refine go ?_;refine finD_ret_def (rec_ret _ _ _ _) fun w9 h=>?_;refine A9 rfl ((B.E h O).cell rfl) (A9 rfl ((D.E h O).cell rfl) (A9 rfl ((S.E h O).cell rfl) ?_));refine⟨_,_,_,rfl,k8.trans h,?_⟩;rw[hm,F];exact⟨rfl,rfl,Bl (Ae o8 h) z.size⟩
  ·rintro ch W⟨e,p,F,rfl,k⟩;refine go ?_;have M:Blk W w.heap.size 159 [.slice none 0 0]:=(I.E E.E O).E k Dw;have A:Blk W R.heap.size 43 [iV 0]:=(K.E E.E O).E k Dw;have P:Blk W j.heap.size 3 [iV 0]:=(y.E E.E O).E k Dw;have i:Ext w W:=z.E k Dw;refine finD_pan_def (rec_pan _ _ _ _ _ _ _ e (p:Int) M A P U U U) fun w9 h9=>?_;obtain⟨h,B,D,S⟩:=h9;refine A9 rfl (B.cell rfl) (A9 rfl (D.cell rfl) (A9 rfl (S.cell rfl) ?_));refine⟨_,_,_,rfl,i.E h Dw,?_⟩;rw[hm,F];exact⟨rfl,rfl,rfl⟩
theorem addM_err{t:LU}{a n p:Nat}{b:List Tok}{k e:Int}(h:addM t a b k n=.error (e,p)):e=2/\p=a/\b.length=2000:=by
 unfold addM at h
 split at h
 ·cases h;exact⟨rfl,rfl,by assumption⟩
 ·cases h
theorem stepM_err{t:LU}{a p:Nat}{k:List Tok}{e:Int}(h:CJ t a k=.error (e,p)):p=a/\(e=40\/e=2/\k.length=2000):=by
 unfold CJ at h
 split at h
 ·cases h
 ·cases h
 ·unfold nameM at h
  split at h
  ·cases h;exact⟨rfl,.inl rfl⟩
  ·obtain⟨X,W,Q⟩:=addM_err h;exact⟨W,.inr ⟨X,Q⟩⟩
 ·unfold numM at h
  split at h
  ·cases h;exact⟨rfl,.inl rfl⟩
  ·obtain⟨X,W,Q⟩:=addM_err h;exact⟨W,.inr ⟨X,Q⟩⟩
 ·unfold symM at h
  split at h
  ·obtain⟨X,W,Q⟩:=addM_err h;exact⟨W,.inr ⟨X,Q⟩⟩
  ·cases h;exact⟨rfl,.inl rfl⟩
 ·cases h;exact⟨rfl,.inl rfl⟩
theorem scanF_err(t:LU):∀(n a:Nat)(k:List Tok)(e:Int)(p:Nat),scanF t n a k=.error (e,p)->e≠0
 |0,a,k,e,p,h=>by unfold scanF at h;cases h;decide
 |n+1,a,k,e,p,h=>by
  unfold scanF at h
  split at h
  ·cases hs:CJ t a k with
   |ok r=>rw[hs]at h;exact scanF_err t n _ _ e p h
   |error r=>
    rw[hs]at h;cases h;rcases(stepM_err hs).2 with rfl|⟨rfl,_⟩<;>decide
  ·cases h
theorem lexM_err{t:LU}{e:Int}{p:Nat}(h:lexM t=.error (e,p)):e≠0:=by
 unfold lexM at h
 split at h
 ·cases h;decide
 ·cases hs:scanR t with
  |ok r=>rw[hs]at h;cases h
  |error r=>rw[hs]at h;cases h;exact scanF_err t _ _ _ _ _ hs
theorem addM_le{t:LU}{a n X:Nat}{b r:List Tok}{k:Int}(h:addM t a b k n=.ok (X,r)):r=b++[⟨k,(t.take n).drop a,a⟩]/\b.length≠2000:=by
 unfold addM at h
 split at h
 ·cases h
 ·cases h;exact⟨rfl,by assumption⟩
theorem step_le{t:LU}{a X:Nat}{k r:List Tok}(M:a<t.length)(h:CJ t a k=.ok (X,r)):X<=t.length:=by
 unfold CJ at h
 split at h
 ·cases h;omega
 ·cases h;exact whileB_le U
 ·unfold nameM at h
  split at h
  ·cases h
  ·have:=DE h;have:=whileB_le (p:=inName) (t:=t) (a:=a+1) U;omega
 ·unfold numM at h
  split at h
  ·cases h
  ·have:=DE h;have:=whileB_le (p:=A6) (t:=t) (a:=a) U;omega
 ·unfold symM at h
  split at h
  ·rename_i y hy;have W:=List.find?_some hy;have:=DE h;have:=((hasPre_iff _ _).1 W).length_le;simp at this;omega
  ·cases h
 ·cases h
theorem scanF_fuel(t:LU):∀(n m a:Nat)(k:List Tok),a<=t.length->t.length<n+a->t.length<m+a->scanF t n a k=scanF t m a k
 |0,_,_,_,h,h1,_=>by omega
 |_,0,_,_,h,_,h2=>by omega
 |n+1,m+1,a,k,h,h1,h2=>by
  unfold scanF
  split
  ·cases hs:CJ t a k with
   |ok r=>
    have b:=step_on Dz hs;have A:=step_le Dz hs;exact scanF_fuel t n m r.1 r.2 A U U
   |error e=>rfl
  ·rfl
def scanW(t:LU)(a:Nat)(k:List Tok):Res:=scanF t (t.length+1-a) a k
theorem scanW_end{t:LU}{k:List Tok}:scanW t t.length k=.ok (t.length,k):=by
 unfold scanW;rw[show t.length+1-t.length=0+1 by omega];unfold scanF;rw[if_neg U]
theorem scanW_step{t:LU}{a:Nat}{k:List Tok}(h:a<t.length):scanW t a k=match CJ t a k with| .ok r=>scanW t r.1 r.2| .error e=>.error e:=by
 unfold scanW;rw[show t.length+1-a=(t.length-a)+1 by omega]
 conv=>lhs;unfold scanF
 rw[if_pos h];cases hs:CJ t a k with
 |ok r=>
  have b:=step_on h hs;have A:=step_le h hs;exact scanF_fuel t _ _ r.1 r.2 A U U
 |error e=>rfl
theorem scanR_eq(t:LU):scanR t=scanW t 0 []:=rfl
theorem lexM_of{t:LU}(h:t.length<=6000):lexM t=match scanW t 0 []with| .ok r=>.ok r.2| .error e=>.error e:=by
 unfold lexM;rw[if_neg U,scanR_eq]<;>cases scanW t 0 []<;>rfl
inductive Reach1(t:LU):Nat->List Tok->Nat->List Tok->Prop
 |refl (a:Nat) (ts:List Tok):Reach1 t a ts a ts
 |step {a a1 b:Nat} {ts ts1 tsb:List Tok} (h:a<t.length) (hs:CJ t a ts=.ok (a1,ts1)) (hr:Reach1 t a1 ts1 b tsb):Reach1 t a ts b tsb
theorem step_shape{t:LU}{a u:Nat}{b Z:List Tok}(h:CJ t a b=.ok (u,Z)):Z=b\/∃k,Z=b++[⟨k,(t.take u).drop a,a⟩]:=by
 unfold CJ at h
 split at h
 ·cases h;exact .inl rfl
 ·cases h;exact .inl rfl
 ·unfold nameM at h
  split at h
  ·cases h
  ·have e:=DE h;subst e;exact .inr ⟨_,(addM_le h).1⟩
 ·unfold numM at h
  split at h
  ·cases h
  ·have e:=DE h;subst e;exact .inr ⟨_,(addM_le h).1⟩
 ·unfold symM at h
  split at h
  ·have e:=DE h;subst e;exact .inr ⟨_,(addM_le h).1⟩
  ·cases h
 ·cases h
theorem reach_of_scan{t:LU}:∀(m a:Nat)(k:List Tok),t.length-a<=m->a<=t.length->
  (∃c,scanW t a k=.ok (t.length,c)/\Reach1 t a k t.length c)\/∃e p X,scanW t a k=.error (e,p)/\Reach1 t a k p X/\p<t.length/\CJ t p X=.error (e,p):=by
 intro m
 induction m with
 |zero=>
  intro a k y I;obtain rfl:a=t.length:=by omega
  exact .inl ⟨k,scanW_end,.refl _ _⟩
 |succ m ih=>
  intro a k y I;by_cases h:a<t.length
  ·rw[scanW_step h];cases hs:CJ t a k with
   |ok r=>
    have b:=step_on h hs;have A:=step_le h hs;rcases ih r.1 r.2 U A with⟨c,d,W⟩|⟨e,p,X,d,W,Q,z⟩
    ·exact .inl ⟨c,d,.step h hs W⟩
    ·exact .inr ⟨e,p,X,d,.step h hs W,Q,z⟩
   |error r=>
    obtain⟨e,p⟩:=r;obtain⟨rfl,_⟩:=stepM_err hs;exact .inr ⟨e,p,k,rfl,.refl _ _,h,hs⟩
  ·obtain rfl:a=t.length:=by omega
   exact .inl ⟨k,scanW_end,.refl _ _⟩
theorem takeWhile_take{q:UInt8->Bool}:∀(l:LU)(m:Nat),(l.takeWhile q).length<=m->((l.take m).takeWhile q).length=(l.takeWhile q).length
 | [],m,_=>by simp
 |x::l,0,h=>by simp at h⊢;cases hq:q x<;>simp_all
 |x::l,m+1,h=>by
  rw[List.take_succ_cons,List.takeWhile_cons,List.takeWhile_cons]at*
  cases hq:q x with
  |false=>simp
  |true=>simp[hq]at h⊢;exact takeWhile_take l m h
theorem whileB_take{q:UInt8->Bool}{t:LU}{a p:Nat}(h:A0 q t a<=p):A0 q (t.take p) a=A0 q t a:=by
 unfold A0 at*
 rw[List.drop_take,takeWhile_take _ _ U]
theorem addM_take{t:LU}{a n p:Nat}{b:List Tok}{k:Int}(h:n<=p):addM (t.take p) a b k n=addM t a b k n:=by
 unfold addM;rw[List.take_take,Nat.min_eq_left h]
theorem getD_take{t:LU}{a p:Nat}(h:a<p):(t.take p).getD a 0=t.getD a 0:=by
 simp[List.getD_eq_getElem?_getD,h]
theorem find_same{α:Type}{f g:α->Bool}{l:List α}{y:α}(h:l.find? f=some y)(F:g y=true)(t:∀z,g z=true->f z=true):l.find? g=some y:=by
 induction l with
 |nil=>cases h
 |cons x l ih=>
  rw[List.find?_cons]at h⊢;cases hx:f x with
  |true=>rw[hx]at h;cases h;rw[F]
  |false=>
   rw[hx]at h;have:g x=false:=by cases hgx:g x with|false=>rfl|true=>rw[t x hgx]at hx;cases hx
   rw[this];exact ih h
theorem numBad_take{t:LU}{a p:Nat}(v:p<=t.length)(I:a<p)(G:A0 A6 t a<=p)(h:Bk t a=false):Bk (t.take p) a=false:=by
 unfold Bk at*
 rw[whileB_take G,getD_take I];rw[Bool.or_eq_false_iff]at h⊢;refine⟨h.1,?_⟩;by_cases B:A0 A6 t a<p
 ·rw[getD_take B];have W:=h.2;rw[decide_eq_true (show A0 A6 t a<t.length by omega)]at W;rw[Bool.true_and]at W;rw[W];simp
 ·rw[decide_eq_false Dw];rfl
theorem step_take{t:LU}{a u p:Nat}{k Z:List Tok}(v:p<=t.length)(M:a<t.length)(D:CJ t a k=.ok (u,Z))(X:u<=p):CJ (t.take p) a k=.ok (u,Z):=by
 have c:=step_on M D;have b:a<p:=by omega
 unfold CJ at D⊢;rw[getD_take b]
 split at D
 ·exact D
 ·cases D;simp only[commM];rw[whileB_take X]
 ·unfold nameM at D⊢
  split at D
  ·cases D
  ·have e:=DE D;subst e;rw[whileB_take X,if_neg Dz,addM_take X];exact D
 ·unfold numM at D⊢
  split at D
  ·cases D
  ·rename_i hb;have e:=DE D;subst e;rw[whileB_take X,if_neg (by rw[numBad_take v b X (by simpa using hb)];simp),addM_take X];exact D
 ·unfold symM at D⊢
  split at D
  ·rename_i y hy;have e:=DE D;have W:=(hasPre_iff _ _).1 (List.find?_some hy)
   have K:symsL.find? (hasPre ((t.take p).drop a))=some y:=by
    refine find_same hy ((hasPre_iff _ _).2 ?_) fun z o=>(hasPre_iff _ _).2 ?_
    ·rw[List.drop_take];exact List.prefix_of_prefix_length_le W (List.take_prefix _ _) (by have:=W.length_le;simp at this⊢;omega) |> fun h=>h
    ·have:=(hasPre_iff _ _).1 o;rw[List.drop_take]at this;exact this.trans (List.take_prefix _ _)
   rw[K];simp only;rw[addM_take U];exact D
  ·cases D
 ·cases D
theorem lexM_ok{t:LU}{k:List Tok}(h:lexM t=.ok k):t.length<=6000/\Reach1 t 0 [] t.length k:=by
 have M:t.length<=6000:=by
  unfold lexM at h
  split at h
  ·cases h
  ·omega
 refine⟨M,?_⟩;rw[lexM_of M]at h;rcases reach_of_scan (t:=t) t.length 0 [] U U with⟨a,X,W⟩|⟨e,p,b,X,_⟩
 ·rw[X]at h;cases h;exact W
 ·rw[X]at h;cases h
theorem drop_sh(v u:LU)(a:Nat):(v++u).drop (v.length+a)=u.drop a:=by
 rw[List.drop_append];simp
theorem whileB_sh{q:UInt8->Bool}(v u:LU)(a:Nat):A0 q (v++u) (v.length+a)=v.length+A0 q u a:=by
 unfold A0;rw[drop_sh];omega
theorem take_sh(v u:LU)(a n:Nat):((v++u).take (v.length+n)).drop (v.length+a)=(u.take n).drop a:=by
 rw[List.take_append];rw[List.take_of_length_le U,show v.length+n-v.length=n by omega,drop_sh]
theorem getD_sh(v u:LU)(a:Nat):(v++u).getD (v.length+a) 0=u.getD a 0:=by
 simp[List.getD_eq_getElem?_getD,List.getElem?_append_right]
theorem numBad_sh(v u:LU)(a:Nat):Bk (v++u) (v.length+a)=Bk u a:=by
 unfold Bk;rw[whileB_sh,getD_sh,getD_sh];rw[show v.length+A0 A6 u a-(v.length+a)=A0 A6 u a-a by omega];have e:decide (v.length+A0 A6 u a<(v++u).length)=decide (A0 A6 u a<u.length):=by simp
 rw[e]
end
section
variable {mk:Prop}[MK mk]
end
section
variable {mk:Prop}[MK mk]
end
section
variable {mk:Prop}[MK mk]
end
section
variable {mk:Prop}[MK mk]
theorem addM_un{v u:LU}{a n:Nat}{c:List Tok}{x:Tok}{k:Int}(h:addM (v++u) v.length c k (v.length+n)=.ok (a,c++[x])):
  addM u 0 [] k n=.ok (a-v.length,[⟨x.kind,x.text,0⟩]):=by
 have e:=DE h;obtain⟨b,A⟩:=addM_le h;subst e;have:=List.append_cancel_left b;simp at this;subst this;unfold addM;have:=take_sh v u 0 n;simp at this;simp[this]
theorem step_un{v u:LU}{a:Nat}{b:List Tok}{x:Tok}(h:CJ (v++u) v.length b=.ok (a,b++[x])):
  kindB (u.getD 0 0)≠some 1/\CJ u 0 []=.ok (a-v.length,[⟨x.kind,x.text,0⟩]):=by
 unfold CJ at h⊢;have t:=getD_sh v u 0;simp only[Nat.add_zero]at t;rw[t]at h
 split at h
 ·simp[blankM]at h
 ·simp[commM]at h
 ·rename_i hk;rw[hk];refine⟨by simp,?_⟩;unfold nameM at h⊢;have D:=whileB_sh (q:=inName) v u 1
  split at h
  ·cases h
  ·rename_i hn;rw[D]at h hn;rw[if_neg (by simp only[Nat.zero_add];omega)];exact addM_un h
 ·rename_i hk;simp only[hk];refine⟨by simp,?_⟩;unfold numM at h⊢;have D:=whileB_sh (q:=A6) v u 0;have S:=numBad_sh v u 0;simp only[Nat.add_zero]at D S;rw[S,D]at h
  split at h
  ·cases h
  ·rename_i hn;rw[if_neg hn];exact addM_un h
 ·rename_i k h0 h1 h2 h3 hk;rw[hk];refine⟨fun e=>h1 (Option.some.inj e),?_⟩;unfold symM at h⊢;have C:=drop_sh v u 0;simp only[Nat.add_zero,List.drop_zero]at C;rw[C]at h
  split at h
  ·rename_i y hy;rw[List.drop_zero,hy];simp only[Nat.zero_add];exact addM_un h
  ·cases h
 ·cases h
structure Alone(k:Int)(y:LU):Prop where
 pos:1<=y.length
 kind:kindB (y.getD 0 0)≠some 1
 step:CJ y 0 []=.ok (y.length,[⟨k,y,0⟩])
theorem Reach1.alone{t:LU}{a b:Nat}{c d:List Tok}(h:Reach1 t a c b d)(S:b<=t.length)(E:∀x∈c,Alone x.kind x.text):∀x∈d,Alone x.kind x.text:=by
 induction h with
 |refl=>exact E
 |step h hs hr ih=>
  rename_i a a1 b c ts1 d;refine ih S ?_;have s:=step_on h hs;have X:=step_le h hs;rcases step_shape hs with rfl|⟨k,rfl⟩
  ·exact E
  ·intro x T;rcases List.mem_append.1 T with T|T
   ·exact E x T
   ·simp at T;subst T;have g:=step_take (p:=a1) X h hs (Nat.le_refl _);have q:(t.take a).length=a:=by simp;omega
    have e:t.take a1=t.take a++(t.take a1).drop a:=by
     have:t.take a=(t.take a1).take a:=by rw[List.take_take,Nat.min_eq_left U]
     rw[this,List.take_append_drop]
    generalize f:(t.take a1).drop a=y at e g⊢;have i:y.length=a1-a:=by rw[<-f];simp;omega
    rw[e]at g;have Q:CJ (t.take a++y) (t.take a).length c=.ok (a1,c++[⟨k,y,a⟩]):=by rw[q];exact g
    obtain⟨F,v⟩:=step_un Q;rw[q,<-i]at v;exact⟨by simp only;omega,F,v⟩
def bare(x:Tok):Int×LU:=(x.kind,x.text)
structure Opr where
 op:Int
 indexed:Int
 val:Int
deriving DecidableEq
inductive NT where
 |formula|orN|orL|andN|andL|untilN|unary|primary|req|line|lines|part|parts|signal|sigs|spec|edit
abbrev NT.T:NT->Type
 | .formula| .orN| .andN| .untilN| .unary| .primary=>Fml
 | .orL| .andL=>LF
 | .req| .line=>Rqm
 | .lines| .part=>List Rqm
 | .parts=>List (List Rqm)
 | .signal=>Sgn
 | .sigs=>List Sgn
 | .spec=>Spc
 | .edit=>Edt
abbrev BT:=Int×LU
inductive G(α:Type):Type where
 |ret (a:α)
 |fail
 |look (k:Option BT->G α)
 |next (g:G α)
 |call (nt:NT) (k:nt.T->G α)
def G.bind{α β:Type}:G α->(α->G β)->G β
 | .ret a,f=>f a
 | .fail,_=>.fail
 | .look k,f=>.look fun o=>(k o).bind f
 | .next g,f=>.next (g.bind f)
 | .call nt k,f=>.call nt fun v=>(k v).bind f
abbrev Ans(α:Type):=Except (List Tok) (α×List Tok)
def evG(b:(s:NT)->List Tok->Option (Ans s.T)){α:Type}:G α->List Tok->Option (Ans α)
 | .ret a,l=>some (.ok (a,l))
 | .fail,l=>some (.error l)
 | .look k,l=>evG b (k (l.head?.map bare)) l
 | .next g,l=>evG b g l.tail
 | .call s k,l=>match b s l with
  |none=>none
  |some (.error e)=>some (.error e)
  |some (.ok (v,l'))=>evG b (k v) l'
def C4(s:LU):Option BT->Bool
 |some x=> !decide (x.1=2)&&decide (x.2=s)
 |none=>false
def Bb(s:LU):G Bool:=.look fun o=>if C4 s o=true then .next (.ret true)else .ret false
def DD(s:LU):G Unit:=.look fun o=>if C4 s o=true then .next (.ret ())else .fail
def nameG:G (LU):=.look fun o=>match o with
 |some x=>if decide (x.1=1)&&CH x.2 then .next (.ret x.2)else .fail
 |none=>.fail
def numOf(s:LU):Int:=s.foldl (fun n c=>10*n+((c.toNat:Int)-48)) 0
def numberG:G Int:=.look fun o=>match o with
 |some x=>if decide (x.1=2)then .next (.ret (numOf x.2))else .fail
 |none=>.fail
def prefixT:List (LU×Opr):=[([33],⟨4,0,0⟩),([88],⟨8,0,0⟩),([89],⟨15,0,0⟩),([90],⟨15,0,1⟩),([79],⟨18,0,0⟩),([72],⟨19,0,0⟩),([70],⟨11,13,0⟩),([71],⟨12,14,0⟩)]
def infixT:List (LU×Opr):=[([85],⟨9,0,0⟩),([82],⟨10,0,0⟩),([83],⟨16,16,0⟩),([84],⟨17,17,1⟩)]
def takeG(I:List (LU×Opr)):G (Option Opr):=.look fun o=>match o with
 |some x=>match I.lookup x.2 with
  |some p=>.next (.ret (some p))
  |none=>.ret none
 |none=>.ret none
def indexG(o:Opr):G (Option Int):=if o.indexed=0 then .ret none else(Bb [91]).bind fun b=>
 if b then numberG.bind fun n=>(DD [93]).bind fun _=>.ret (some n)else .ret none
def sees2(s t:LU):G Bool:=.look fun o=>.ret (C4 s o||C4 t o)
def body:(d:NT)->G d.T
 | .formula=>.call .orN fun a=>(Bb [45,62]).bind fun b=>if b then .call .formula fun c=>.ret ⟨7,[],0,0,[a,c]⟩else .ret a
 | .orN=>.call .andN fun a=>.call .orL fun l=>.ret (nodeF 6 (a::l))
 | .orL=>(Bb [124]).bind fun b=>if b then .call .andN fun a=>.call .orL fun l=>.ret (a::l)else .ret []
 | .andN=>.call .untilN fun a=>.call .andL fun l=>.ret (nodeF 5 (a::l))
 | .andL=>(Bb [38]).bind fun b=>if b then .call .untilN fun a=>.call .andL fun l=>.ret (a::l)else .ret []
 | .untilN=>.call .unary fun a=>(takeG infixT).bind fun
  |none=>.ret a
  |some o=>(indexG o).bind fun n=>.call .untilN fun c=>.ret ⟨o.op,[],n.getD o.val,0,[a,c]⟩
 | .unary=>(takeG prefixT).bind fun
  |none=>.call .primary .ret
  |some o=>(indexG o).bind fun n=>.call .unary fun a=>.ret (match n with
   |some n=>⟨o.indexed,[],o.val,n,[a]⟩
   |none=>⟨o.op,[],o.val,0,[a]⟩)
 | .primary=>(Bb [116,114,117,101]).bind fun b=>if b then .ret ⟨1,[],0,0,[]⟩else
  (Bb [102,97,108,115,101]).bind fun b=>if b then .ret ⟨2,[],0,0,[]⟩else
  (Bb [40]).bind fun b=>if b then .call .formula fun f=>(DD [41]).bind fun _=>.ret f else
  nameG.bind fun s=>(Bb [61]).bind fun b=>if b then numberG.bind fun n=>.ret (isF s n)else
  (Bb [33,61]).bind fun b=>if b then numberG.bind fun n=>.ret (notF (isF s n))else .ret (isF s 1)
 | .req=>(Bb [97,115,115,117,109,101]).bind fun b=>(if b then .ret 1 else(DD [103,117,97,114,97,110,116,101,101]).bind fun _=>.ret 2).bind fun k=>
  nameG.bind fun s=>(DD [58]).bind fun _=>.call .formula fun f=>.ret ⟨[],s,k,f⟩
 | .line=>.call .req fun r=>(DD [59]).bind fun _=>.ret r
 | .lines=>(sees2 [97,115,115,117,109,101] [103,117,97,114,97,110,116,101,101]).bind fun b=>if b then .call .line fun r=>.call .lines fun l=>.ret (r::l)else .ret []
 | .part=>(DD [112,97,114,116]).bind fun _=>nameG.bind fun s=>(DD [123]).bind fun _=>.call .lines fun l=>(DD [125]).bind fun _=>.ret (l.map fun r=>⟨s,r.name,r.kind,r.formula⟩)
 | .parts=>(sees2 [112,97,114,116] [112,97,114,116]).bind fun b=>if b then .call .part fun l=>.call .parts fun m=>.ret (l::m)else .ret []
 | .signal=>(Bb [105,110,112,117,116]).bind fun i=>(if i then .ret ()else DD [111,117,116,112,117,116]).bind fun _=>nameG.bind fun s=>
  ((Bb [58]).bind fun b=>if b then numberG else .ret 2).bind fun n=>(DD [59]).bind fun _=>.ret ⟨s,i,n⟩
 | .sigs=>(sees2 [105,110,112,117,116] [111,117,116,112,117,116]).bind fun b=>if b then .call .signal fun x=>.call .sigs fun l=>.ret (x::l)else .ret []
 | .spec=>.call .sigs fun s=>.call .parts fun r=>.ret ⟨s,r.flatten⟩
 | .edit=>(Bb [100,114,111,112]).bind fun b=>if b then nameG.bind fun s=>.ret ⟨2,⟨[],s,0,Ag⟩⟩else
  (Bb [97,100,100]).bind fun b=>(if b then .ret 1 else(DD [114,101,112,108,97,99,101]).bind fun _=>.ret 3).bind fun k=>
  nameG.bind fun p=>.call .req fun r=>.ret ⟨k,⟨p,r.name,r.kind,r.formula⟩⟩
def whole(s:NT):G s.T:=.call s fun v=>.look fun o=>match o with
 |none=>.ret v
 |some _=>.fail
def evN:Nat->(s:NT)->List Tok->Option (Ans s.T)
 |0,_,_=>none
 |n+1,s,l=>evG (evN n) (body s) l
def Run{α:Type}(p:G α)(l:List Tok)(r:Ans α):Prop:=∃n,evG (evN n) p l=some r
def RunN(s:NT)(l:List Tok)(r:Ans s.T):Prop:=Run (body s) l r
theorem evG_mono{f g:(s:NT)->List Tok->Option (Ans s.T)}(h:∀s l r,f s l=some r->g s l=some r){α:Type}:∀(p:G α)(l:List Tok)(r:Ans α),evG f p l=some r->evG g p l=some r
 | .ret a,l,r,hr=>hr
 | .fail,l,r,hr=>hr
 | .look k,l,r,hr=>by simp only[evG]at hr⊢;exact evG_mono h (k _) l r hr
 | .next q,l,r,hr=>by simp only[evG]at hr⊢;exact evG_mono h q _ r hr
 | .call s k,l,r,hr=>by
  simp only[evG]at hr⊢;cases hf:f s l with
  |none=>rw[hf]at hr;cases hr
  |some x=>
   rw[hf]at hr;rw[h s l x hf];cases x with
   |error e=>exact hr
   |ok y=>exact evG_mono h (k y.1) y.2 r hr
theorem evN_step:∀(n:Nat)(s:NT)(l:List Tok)(r:Ans s.T),evN n s l=some r->evN (n+1) s l=some r
 |0,s,l,r,h=>by cases h
 |n+1,s,l,r,h=>by
  unfold evN at h⊢;exact evG_mono (fun s l r h=>evN_step n s l r h) _ _ _ h
theorem evN_mono{n m:Nat}(h:n<=m)(s:NT)(l:List Tok)(r:Ans s.T)(x:evN n s l=some r):evN m s l=some r:=by
 induction h with
 |refl=>exact x
 |step _ ih=>exact evN_step _ _ _ _ ih
theorem ev_mono{n m:Nat}(h:n<=m){α:Type}{p:G α}{l:List Tok}{r:Ans α}(x:evG (evN n) p l=some r):evG (evN m) p l=some r:=
 evG_mono (fun s l r w=>evN_mono h s l r w) p l r x
theorem Run.det{α:Type}{p:G α}{l:List Tok}{r V:Ans α}(h:Run p l r)(w:Run p l V):r=V:=by
 obtain⟨n,a⟩:=h;obtain⟨m,y⟩:=w;have X:=ev_mono (Nat.le_max_left n m) a;have W:=ev_mono (Nat.le_max_right n m) y;rw[X]at W;exact Option.some.inj W
theorem Run.ret{α:Type}(a:α)(l:List Tok):Run (.ret a) l (.ok (a,l)):=⟨0,rfl⟩
theorem Run.fail{α:Type}(l:List Tok):Run (.fail:G α) l (.error l):=⟨0,rfl⟩
theorem Run.look{α:Type}{k:Option BT->G α}{l:List Tok}{r:Ans α}(h:Run (k (l.head?.map bare)) l r):Run (.look k) l r:=h
theorem Run.next{α:Type}{g:G α}{l:List Tok}{r:Ans α}(h:Run g l.tail r):Run (.next g) l r:=h
theorem Run.call{α:Type}{s:NT}{k:s.T->G α}{l a:List Tok}{v:s.T}{r:Ans α}(h:RunN s l (.ok (v,a)))(w:Run (k v) a r):Run (.call s k) l r:=by
 obtain⟨n,b⟩:=h;obtain⟨m,y⟩:=w;refine⟨max n m+1,?_⟩;have X:evN (max n m+1) s l=some (.ok (v,a)):=ev_mono (Nat.le_max_left n m) b;simp only[evG,X];exact ev_mono U y
theorem Run.callE{α:Type}{s:NT}{k:s.T->G α}{l e:List Tok}(h:RunN s l (.error e)):Run (.call s k) l (.error e):=by
 obtain⟨n,a⟩:=h;refine⟨n+1,?_⟩;have X:evN (n+1) s l=some (.error e):=a;simp only[evG,X]
theorem Run.call_inv{α:Type}{s:NT}{k:s.T->G α}{l:List Tok}{r:Ans α}(h:Run (.call s k) l r):(∃v b,RunN s l (.ok (v,b))/\Run (k v) b r)\/∃e,RunN s l (.error e)/\r=.error e:=by
 obtain⟨n,a⟩:=h;simp only[evG]at a;cases n with
 |zero=>simp[evN]at a
 |succ n=>
  cases hf:evN (n+1) s l with
  |none=>rw[hf]at a;cases a
  |some x=>
   rw[hf]at a;have f:evG (evN n) (body s) l=some x:=hf;cases x with
   |error e=>cases a;exact .inr ⟨e,⟨n,f⟩,rfl⟩
   |ok y=>exact .inl ⟨y.1,y.2,⟨n,f⟩,⟨n+1,a⟩⟩
theorem evG_bind(f:(s:NT)->List Tok->Option (Ans s.T)){α β:Type}:∀(p:G α)(q:α->G β)(l:List Tok),evG f (p.bind q) l=match evG f p l with
  |none=>none
  |some (.error e)=>some (.error e)
  |some (.ok (a,l'))=>evG f (q a) l'
 | .ret a,q,l=>rfl
 | .fail,q,l=>rfl
 | .look k,q,l=>by simp only[G.bind,evG];exact evG_bind f (k _) q l
 | .next g,q,l=>by simp only[G.bind,evG];exact evG_bind f g q _
 | .call s k,q,l=>by
  simp only[G.bind,evG];cases f s l with
  |none=>rfl
  |some x=>
   cases x with
   |error e=>rfl
   |ok y=>exact evG_bind f (k y.1) q y.2
theorem Run.bind{α β:Type}{p:G α}{q:α->G β}{l v:List Tok}{a:α}{r:Ans β}(h:Run p l (.ok (a,v)))(w:Run (q a) v r):Run (p.bind q) l r:=by
 obtain⟨n,b⟩:=h;obtain⟨m,y⟩:=w;refine⟨max n m,?_⟩;rw[evG_bind,ev_mono (Nat.le_max_left n m) b];exact ev_mono (Nat.le_max_right n m) y
theorem Run.bindE{α β:Type}{p:G α}{q:α->G β}{l e:List Tok}(h:Run p l (.error e)):Run (p.bind q) l (.error e):=by
 obtain⟨n,a⟩:=h;exact⟨n,by rw[evG_bind,a]⟩
theorem Run.bind_inv{α β:Type}{p:G α}{q:α->G β}{l:List Tok}{r:Ans β}(h:Run (p.bind q) l r):(∃a v,Run p l (.ok (a,v))/\Run (q a) v r)\/∃e,Run p l (.error e)/\r=.error e:=by
 obtain⟨n,b⟩:=h;rw[evG_bind]at b;cases hf:evG (evN n) p l with
 |none=>rw[hf]at b;cases b
 |some x=>
  rw[hf]at b;cases x with
  |error e=>cases b;exact .inr ⟨e,⟨n,hf⟩,rfl⟩
  |ok y=>exact .inl ⟨y.1,y.2,⟨n,hf⟩,⟨n,b⟩⟩
def Ans.rem{α:Type}:Ans α->List Tok
 | .ok y=>y.2
 | .error e=>e
theorem evG_suffix{f:(s:NT)->List Tok->Option (Ans s.T)}(K:∀s l r,f s l=some r->Ans.rem r<:+l){α:Type}:∀(p:G α)(l:List Tok)(r:Ans α),evG f p l=some r->Ans.rem r<:+l
 | .ret a,l,r,h=>by cases h;exact List.suffix_rfl
 | .fail,l,r,h=>by cases h;exact List.suffix_rfl
 | .look k,l,r,h=>evG_suffix K (k _) l r h
 | .next g,l,r,h=>(evG_suffix K g l.tail r h).trans (List.tail_suffix l)
 | .call s k,l,r,h=>by
  simp only[evG]at h;cases hn:f s l with
  |none=>rw[hn]at h;cases h
  |some x=>
   rw[hn]at h;have X:=K s l x hn;cases x with
   |error e=>cases h;exact X
   |ok y=>exact(evG_suffix K (k y.1) y.2 r h).trans X
theorem evN_suffix:∀(n:Nat)(s:NT)(l:List Tok)(r:Ans s.T),evN n s l=some r->Ans.rem r<:+l
 |0,_,_,_,h=>by cases h
 |n+1,s,l,r,h=>evG_suffix (evN_suffix n) (body s) l r h
theorem Run.suffix{α:Type}{p:G α}{l:List Tok}{r:Ans α}(h:Run p l r):Ans.rem r<:+l:=by
 obtain⟨n,a⟩:=h;exact evG_suffix (evN_suffix n) p l r a
structure Env where
 lo:Nat
 s:Nat
 n:Nat
 mp:Nat
 mi:Nat
abbrev inE(E:Env)(b:Nat):Prop:=E.lo<=b/\b<E.s
def oprV(o:Opr):Value:=.agg #[iV o.op,iV o.indexed,iV o.val]
def tabV(t:List (LU×Opr)):List (LU×Value):=t.map fun p=>(p.1,oprV p.2)
def TokWf(x:Tok):Prop:=x.kind=2->1<=x.text.length/\x.text.length<=4/\∀c∈x.text,A6 c=true
structure PSt(w:World)(E:Env)(ts:List Tok):Prop where
 D:∃a c,Blk w E.s 168 [.slice a ts.length c,iV (E.n:Int),.map (some E.mp),.map (some E.mi)]/\Sl (inE E) w (.slice a ts.length c) ts.length (toksC ts)
 pre:SMap w E.mp (tabV prefixT)
 inf:SMap w E.mi (tabV infixT)
 lt:E.mp<E.s/\E.mi<E.s
 wf:∀x∈ts,TokWf x
 cnt:ts.length<=2000
theorem PSt.E{X:List Nat}{w w':World}{E:Env}{d:List Tok}(h:PSt w E d)(k:Keep X w w')(i:∀x∈X,E.s<x):PSt w' E d:=by
 obtain⟨⟨a,c,e,W⟩,Q,z,f,V,g⟩:=h;have G:∀b,b<=E.s->b∉X:=fun b S T=>by have:=i b T;omega
 exact⟨⟨a,c,e.E k (G _ (Nat.le_refl _)),W.E k fun b S=>G b (by have:=S.2;omega)⟩,Q.E k (G _ U),z.E k (G _ U),f,V,g⟩
theorem PSt.ext{w w':World}{E:Env}{a:List Tok}(h:PSt w E a)(k:Ext w w'):PSt w' E a:=h.E k fun x T=>by cases T
theorem PSt.slt{w:World}{E:Env}{k:List Tok}(h:PSt w E k):E.s<w.heap.size:=by obtain⟨_,_,X,_⟩:=h.D;exact X.lt
abbrev failP(e:Int)(p:Nat):List PanicEntry:=[{v:=.iface 163 (.agg #[iV e,iV (p:Int)]),recovered:=false}]
def errV(n:Nat):List Tok->List PanicEntry
 | []=>failP 51 n
 |x::_=>failP 50 x.loc
def PDo{α:Type}(E:Env)(F:FuncId)(args:LV)(w:World)(p:G α)(k:List Tok)(e:World->Value->α->Prop):Prop:=
 FnP Zp F args w (fun v Z=>Keep [E.s] w Z/\∃a r,Run p k (.ok (a,r))/\PSt Z E r/\e Z v a) (fun m Z=>Keep [E.s] w Z/\∃l,Run p k (.error l)/\m=errV E.n l)
theorem PSt.tok{w:World}{E:Env}{x:Tok}{l:List Tok}{a:Option Addr}{c:Nat}(h:Sl (inE E) w (.slice a (x::l).length c) (x::l).length (toksC (x::l))):
  ∃b o,a=some ⟨b,o,none⟩/\1<=c/\(w.cell? ⟨b,o+0*3+0,none⟩=some (iV x.kind)/\w.cell? ⟨b,o+0*3+1,none⟩=some (AK x.text)/\w.cell? ⟨b,o+0*3+2,none⟩=some (iV (x.loc:Int)))/\
   Sl (inE E) w (.slice (adv c 1 3 a) l.length (c-1)) l.length (toksC l):=by
 obtain⟨X,d,q,f,W,Q,z⟩:=h;cases q;obtain⟨b,o,rfl,S,V⟩:=z.resolve_left O;have M:(x::l).length=l.length+1:=rfl;have e:toksC (x::l)=tokC x++toksC l:=by simp[toksC]
 refine⟨b,o,rfl,by omega,⟨V 0 _ rfl,V 1 _ rfl,V 2 _ rfl⟩,_,_,rfl,by omega,by omega,?_,?_⟩
 ·intro I;unfold adv at I
  split at I
  ·cases I
  ·simp at I
 ·by_cases s:l.length=0
  ·exact .inl s
  ·refine .inr ⟨b,o+3,?_,S,?_⟩
   ·unfold adv;rw[if_neg U];rfl
   ·intro i u n;have:=V (3+i) u (by rw[e,List.getElem?_append_right (by simp[tokC])];simpa[tokC]using n);rw[Nat.add_assoc];exact this
theorem PSt.taken{w w':World}{E:Env}{x:Tok}{l:List Tok}{a:Option Addr}{c:Nat}(h:PSt w E (x::l))(D:Sl (inE E) w (.slice (adv c 1 3 a) l.length (c-1)) l.length (toksC l))
  (p:Put w w' E.s 168 [.slice (adv c 1 3 a) l.length (c-1),iV (E.n:Int),.map (some E.mp),.map (some E.mi)]):PSt w' E l:=by
 obtain⟨_,Q,z,S,V,e⟩:=h;have d:=S.1;have o:=S.2;refine⟨⟨_,_,p.D,D.E p.E fun b f=>by have:=f.2;simp;omega⟩,Q.E p.E Dw,z.E p.E Dw,S,fun y F=>V y (by simp[F]),by simp at e;omega⟩
theorem wrong_ok(E:Env)(w:World)(k:List Tok)(h:PSt w E k){R:Value->World->Prop}:FnP Zp 105 [pt E.s] w R (fun m w'=>w'=w/\m=errV E.n k):=by
 obtain⟨a,c,S,D⟩:=h.D;refine A7 Tryz.func105 rfl Tryz.ntmps105 nlr Dv ?_;repeat refine nx rfl ?_
 cases k with
 |nil=>
  have M:([]:List Tok).length=0:=rfl;(refine AJ (Af rfl (AM rfl (AD rfl (AL rfl (Blk.cell Dz Dx) ?_))))<;>refine Bt rfl ?_<;>(refine Bm rfl rfl (fun V=>?_) (fun V=>?_)<;>try omega))
  repeat refine nx rfl ?_
  (refine AJ (Af rfl (AM rfl (AD rfl (AL rfl (Blk.cell Dz Dx) ?_))))<;>refine Bv Dx Dx ?_<;>refine DZ (Dj rfl ?_))
  repeat refine nx rfl ?_
  exact Aj ⟨rfl,rfl⟩
 |cons x l=>
  have M:(x::l).length=l.length+1:=rfl;obtain⟨b,o,rfl,_,⟨P,K,A⟩,_⟩:=PSt.tok D;(refine AJ (Af rfl (AM rfl (AD rfl (AL rfl (Blk.cell Dz Dx) ?_))))<;>refine Bt rfl ?_<;>(refine Bm rfl rfl (fun V=>?_) (fun V=>?_)<;>try omega))
  repeat first|refine nx rfl ?_|refine nf rfl ?_
  (refine AJ (Af rfl (AM rfl (AD rfl (AL rfl (Blk.cell Dz Dx) ?_))))<;>refine Bd rfl rfl U U (AD rfl (AL rfl Dz ?_))<;>refine Bv Dx Dx ?_<;>refine DZ (Dj rfl ?_))
  repeat refine nx rfl ?_
  exact Aj ⟨rfl,rfl⟩
theorem sees_ok(E:Env)(w:World)(k:List Tok)(t:LU)(h:PSt w E k):Fn Zp 107 [pt E.s,AK t] w (fun v w'=>v=.bool (C4 t (k.head?.map bare))/\w'=w):=by
 obtain⟨a,c,S,D⟩:=h.D;refine AG Tryz.func107 rfl Tryz.ntmps107 ?_;repeat refine nx rfl ?_
 refine AJ (AO (AI rfl ?_));repeat refine nx rfl ?_
 cases k with
 |nil=>
  have M:([]:List Tok).length=0:=rfl;(refine AJ (Af rfl (AM rfl (AD rfl (AL rfl (Blk.cell Dz Dx) ?_))))<;>refine Bt rfl ?_<;>(refine W_gtr rfl rfl (fun V=>?_) (fun V=>?_)<;>try omega)<;>refine AI rfl (Ak rfl (Ak rfl (Ak rfl (Ak rfl (Ak rfl (Ak rfl (Ak rfl (Ak rfl (Al rfl (AI rfl (AI rfl (Ak rfl (Ak rfl (Ak rfl (Ak rfl (Ak rfl (Ak rfl (Ak rfl (Ak rfl (Ak rfl (Al rfl (AI rfl (AO (AI rfl ?_)))))))))))))))))))))))))
  repeat refine nx rfl ?_
  exact AB rfl ⟨rfl,rfl⟩
 |cons x l=>
  have M:(x::l).length=l.length+1:=rfl;obtain⟨b,o,rfl,_,⟨d,K,A⟩,_⟩:=PSt.tok D;by_cases P:x.kind=2
  ·(refine AJ (Af rfl (AM rfl (AD rfl (AL rfl (Blk.cell Dz Dx) ?_))))<;>refine Bt rfl ?_<;>(refine W_gtr rfl rfl (fun V=>?_) (fun V=>?_)<;>try omega)<;>refine AI rfl (AN rfl (Af rfl (AN rfl (AM rfl (AN rfl (AD rfl (AN rfl (AL rfl (Blk.cell Dz Dx) ?_))))))))<;>refine AN rfl (Bd rfl rfl U U (AN rfl (AD rfl (AN rfl (AL rfl Dz ?_)))))<;>(refine AN rfl ?_;(refine W_neq rfl rfl (fun V=>?_) (fun V=>?_)<;>try omega))<;>refine Am rfl (AI rfl (AI rfl (Ak rfl (Ak rfl (Ak rfl (Ak rfl (Ak rfl (Ak rfl (Ak rfl (Ak rfl (Ak rfl (Al rfl (AI rfl (AO (AI rfl ?_))))))))))))))))
   repeat refine nx rfl ?_
   exact AB rfl ⟨by simp[upd,Nat.beq,C4,bare,P],rfl⟩
  ·(refine AJ (Af rfl (AM rfl (AD rfl (AL rfl (Blk.cell Dz Dx) ?_))))<;>refine Bt rfl ?_<;>(refine W_gtr rfl rfl (fun V=>?_) (fun V=>?_)<;>try omega)<;>refine AI rfl (AN rfl (Af rfl (AN rfl (AM rfl (AN rfl (AD rfl (AN rfl (AL rfl (Blk.cell Dz Dx) ?_))))))))<;>refine AN rfl (Bd rfl rfl U U (AN rfl (AD rfl (AN rfl (AL rfl Dz ?_)))))<;>(refine AN rfl ?_;(refine W_neq rfl rfl (fun V=>?_) (fun V=>?_)<;>try omega))<;>refine Am rfl (AI rfl (AI rfl (AN rfl (Af rfl (AN rfl (AM rfl (AN rfl (AD rfl (AN rfl (AL rfl (Blk.cell Dz Dx) ?_))))))))))<;>refine AN rfl (Bd rfl rfl U U (AN rfl (AD rfl (AN rfl (AL rfl Dz ?_)))))<;>refine AN rfl (Cb rfl ?_)<;>(refine AN rfl ?_;refine Bn rfl rfl (fun V=>?_) (fun V=>?_))<;>refine Am rfl (AI rfl (AO (AI rfl ?_))))
   ·refine go ?_;exact AB rfl ⟨by simp_all [upd,Nat.beq,C4,bare],rfl⟩
   ·refine go ?_;exact AB rfl ⟨by simp_all [upd,Nat.beq,C4,bare],rfl⟩
def keyC:LV:=keysL.map AK
def KY(w:World):Prop:=Cells w 0 0 keyC
def okAt(i:Nat)(c:UInt8):Bool:=BM c||(decide (0<i)&&(A6 c||decide (c.toNat=95)))
def shapeB(s:LU):Bool:=BM (s.getD 0 0)&&s.all restB
theorem shapeB_iff(s:LU)(h:1<=s.length):shapeB s=true↔∀(i:Nat)(c:UInt8),s[i]?=some c->okAt i c=true:=by
 match s,h with
 |d::s,_=>
  simp only[shapeB,List.getD_eq_getElem?_getD,List.getElem?_cons_zero,Option.getD_some,Bool.and_eq_true,List.all_eq_true];constructor
  ·rintro⟨X,W⟩i c V;cases i with
   |zero=>simp at V;subst V;simp[okAt,X]
   |succ i=>
    have:=W c (List.mem_of_getElem? V);simp[restB]at this;simp[okAt];rcases this with(h|h)|h
    ·exact .inl h
    ·exact .inr (.inl h)
    ·exact .inr (.inr h)
  ·intro h;have a:=h 0 d rfl;simp[okAt]at a;refine⟨a,fun c V=>?_⟩;obtain⟨i,H⟩:=List.getElem?_of_mem V;have:=h i c H;simp only[okAt,restB,Bool.or_eq_true,Bool.and_eq_true,decide_eq_true_eq]at this⊢;rcases this with h|⟨_,h|h⟩
   ·exact .inl (.inl h)
   ·exact .inl (.inr h)
   ·exact .inr h
theorem C7(s:LU):CH s=(decide (1<=s.length)&&decide (s.length<=12)&&shapeB s&& !decide (s∈keysL)):=by
 unfold CH shapeB;cases decide (1<=s.length)<;>cases decide (s.length<=12)<;>cases BM (s.getD 0 0)<;>cases s.all restB<;>rfl
theorem DL(s:LU)(w:World)(g:KY w):Fn Zp 89 [AK s] w fun v w'=>v=.bool (CH s)/\w'=w:=by
 refine AG Tryz.func89 rfl Tryz.ntmps89 (go ?_);by_cases X:s.length<1
 ·refine go ?_;exact AB rfl ⟨by rw[C7,decide_eq_false (show¬1<=s.length by omega)];rfl,rfl⟩
 by_cases r:12<s.length
 ·refine go ?_;exact AB rfl ⟨by rw[C7,decide_eq_false (show¬s.length<=12 by omega)];simp[upd,Nat.beq],rfl⟩
 refine go ?_;refine Ah (α:=Nat) (fun k=>[(0,AK s),(3,.bool true),(17,iV (s.length:Int)),(18,iV (k:Int))]) (fun k R=>k<=s.length/\(∀(i:Nat)(c:UInt8),i<k->s[i]?=some c->okAt i c=true)/\R=w) (fun k=>s.length-k) 0 ⟨rfl,rfl,rfl,rfl,trivial⟩ ⟨by omega,fun i c p=>by omega,rfl⟩ ?_;rintro k R K⟨h,l,rfl⟩;repeat refine nx rfl ?_
 by_cases B:k<s.length
 ·have P:s[k]?=some s[k]:=List.getElem?_eq_getElem B;generalize s[k]=c at P;have o:=c.toNat_lt
  have H:okAt k c=true->∀(i:Nat)(d:UInt8),i<k+1->s[i]?=some d->okAt i d=true:=fun T i d p C=>by
   by_cases I:i=k
   ·subst I;rw[P]at C;cases C;exact T
   ·exact l i d U C
  (refine AJ ?_<;>(refine Dh rfl rfl (fun V=>?_) (fun V=>?_)<;>try omega))
  repeat refine nx rfl ?_
  refine AJ (AY rfl (AO (AY rfl ?_)));repeat refine nx rfl ?_
  (refine AJ (Cb rfl (AY rfl (W_sidx rfl rfl Dz ?_)))<;>refine AO (AY rfl ?_))
  repeat refine nx rfl ?_
  by_cases n:97<=c.toNat/\c.toNat<=122
  ·have T:okAt k c=true:=by simp[okAt,BM,n.1,n.2]
   (refine AJ (AY rfl ?_)<;>(refine Cr rfl rfl (fun V=>?_) (fun V=>?_)<;>try omega)<;>refine AI rfl (AN rfl (AY rfl ?_))<;>(refine AN rfl ?_;(refine Cr rfl rfl (fun V=>?_) (fun V=>?_)<;>try omega))<;>refine Am rfl (AI rfl (AO (AI rfl ?_))))
   repeat refine nx rfl ?_
   (refine AJ (W_add rfl rfl D8 ?_)<;>refine AY rfl ?_)
   repeat refine nx rfl ?_
   refine⟨k+1,⟨rfl,⟨rfl,rfl,rfl,?_,trivial⟩,⟨by omega,H T,rfl⟩⟩,by omega⟩;show iV ((k:Int)+1)=_;rw[Int.natCast_add];rfl
  ·have j:BM c=false:=by simp[BM];omega
   by_cases m:0<k/\((48<=c.toNat/\c.toNat<=57)\/c.toNat=95)
   ·have T:okAt k c=true:=by
     simp only[okAt,A6,Bool.or_eq_true,Bool.and_eq_true,decide_eq_true_eq];exact .inr m
    (refine AJ (AY rfl ?_)<;>(refine Cr rfl rfl (fun V=>?_) (fun V=>?_)<;>try omega)<;>refine AI rfl (Ak rfl (Ak rfl (Al rfl (AI rfl (AO (AI rfl (AA ?_))))))))
    all_goals
     repeat first|refine nx rfl ?_|refine nf rfl ?_
     (refine AJ (AY rfl ?_)<;>(refine W_gtr rfl rfl (fun V=>?_) (fun V=>?_)<;>try omega)<;>refine AI rfl (AN rfl (AY rfl ?_))<;>(refine AN rfl ?_;(refine Cr rfl rfl (fun V=>?_) (fun V=>?_)<;>try omega))<;>refine AN rfl (AI rfl (AN rfl (AY rfl ?_)))<;>(refine AN rfl ?_;(refine Cr rfl rfl (fun V=>?_) (fun V=>?_)<;>try omega))<;>refine AN rfl (Am rfl (AI rfl (AN rfl (AI rfl ?_))))<;>(first|refine Ak rfl ?_|(refine AN rfl ?_;refine AY rfl ?_))<;>(first|refine Ak rfl ?_|(refine AN rfl ?_;(refine Bm rfl rfl (fun V=>?_) (fun V=>?_)<;>try omega)))<;>(refine AN rfl ?_;((first|refine Am rfl ?_|refine Al rfl ?_);refine AI rfl ?_))<;>refine Am rfl (AI rfl (AO (AI rfl (AA ?_)))))
     all_goals
      repeat refine nx rfl ?_
      (refine AJ (W_add rfl rfl D8 ?_)<;>refine AY rfl ?_)
      repeat refine nx rfl ?_
      refine⟨k+1,⟨rfl,⟨rfl,rfl,rfl,?_,trivial⟩,⟨by omega,H T,rfl⟩⟩,by omega⟩;show iV ((k:Int)+1)=_;rw[Int.natCast_add];rfl
   ·have b:shapeB s=false:=by
     cases hsb:shapeB s with
     |false=>rfl
     |true=>
      have:=(shapeB_iff s U).1 hsb k c P;simp only[okAt,j,A6,Bool.false_or,Bool.or_eq_true,Bool.and_eq_true,decide_eq_true_eq]at this;exact absurd this m
    (refine AJ (AY rfl ?_)<;>(refine Cr rfl rfl (fun V=>?_) (fun V=>?_)<;>try omega)<;>refine AI rfl ?_<;>(first|refine Ak rfl ?_|(refine AN rfl ?_;refine AY rfl ?_))<;>(first|refine Ak rfl ?_|(refine AN rfl ?_;(refine Cr rfl rfl (fun V=>?_) (fun V=>?_)<;>try omega)))<;>((first|refine Am rfl ?_|refine Al rfl ?_);refine AI rfl ?_)<;>refine AO (AI rfl (AA ?_)))
    all_goals
     repeat first|refine nx rfl ?_|refine nf rfl ?_
     (refine AJ (AY rfl ?_)<;>(refine W_gtr rfl rfl (fun V=>?_) (fun V=>?_)<;>try omega)<;>refine AI rfl ?_<;>(first|refine Ak rfl ?_|(refine AN rfl ?_;refine AY rfl ?_))<;>(first|refine Ak rfl ?_|(refine AN rfl ?_;(refine Cr rfl rfl (fun V=>?_) (fun V=>?_)<;>try omega)))<;>(first|refine Ak rfl ?_|(refine AN rfl ?_;refine AI rfl ?_))<;>(first|refine Ak rfl ?_|(refine AN rfl ?_;refine AY rfl ?_))<;>(first|refine Ak rfl ?_|(refine AN rfl ?_;(refine Cr rfl rfl (fun V=>?_) (fun V=>?_)<;>try omega)))<;>(first|refine Ak rfl ?_|(refine AN rfl ?_;((first|refine Am rfl ?_|refine Al rfl ?_);refine AI rfl ?_)))<;>(first|refine Ak rfl ?_|(refine AN rfl ?_;refine AI rfl ?_))<;>(first|refine Ak rfl ?_|(refine AN rfl ?_;refine AY rfl ?_))<;>(first|refine Ak rfl ?_|(refine AN rfl ?_;(refine Bm rfl rfl (fun V=>?_) (fun V=>?_)<;>try omega)))<;>(first|refine Ak rfl ?_|(refine AN rfl ?_;(refine Al rfl ?_;refine AI rfl ?_)))<;>((first|refine Am rfl ?_|refine Al rfl ?_);refine AI rfl ?_)<;>refine AO (AI rfl (AA ?_)))
     all_goals
      repeat first|refine nx rfl ?_|refine nf rfl ?_
      refine AJ (AO (AI rfl ?_));repeat refine nx rfl ?_
      refine AJ (AQ (L:=keyC) rfl rfl g ?_);refine AY rfl ?_;repeat refine nx rfl ?_
      refine Ah (α:=Nat) (fun k=>[(0,AK s),(3,.bool false),(47,.agg keyC.toArray),(48,iV (k:Int))]) (fun k W=>k<=10/\s∉keysL.take k/\W=R) (fun k=>10-k) 0 ⟨rfl,rfl,rfl,rfl,trivial⟩ ⟨by omega,by simp,rfl⟩ ?_;rintro k q Z⟨h,a,rfl⟩;repeat refine nx rfl ?_
      by_cases B:k<10
      ·obtain⟨y,F⟩:∃y,keysL[k]?=some y:=⟨_,List.getElem?_eq_getElem (by show k<10;exact B)⟩;have x:keyC[k]?=some (AK y):=by unfold keyC;rw[List.getElem?_map,F];rfl
       have f:keysL.take (k+1)=keysL.take k++[y]:=by rw[List.take_add_one,F];rfl
       (refine AJ ?_<;>(refine Dh rfl rfl (fun V=>?_) (fun V=>?_)<;>try omega))
       repeat refine nx rfl ?_
       refine AJ ?_;refine W_vidx1 (L:=keyC) rfl rfl U x ?_;refine AO (Cb rfl ?_);repeat refine nx rfl ?_
       by_cases G:y=s
       ·exact E0
       ·(refine AJ (Cb rfl (Cb rfl ?_))<;>refine Bn rfl rfl (fun V=>?_) (fun V=>?_)<;>refine AA ?_)
        case refine_1=>exact absurd Dz G
        refine go ?_;refine⟨k+1,⟨rfl,⟨rfl,rfl,rfl,?_,trivial⟩,⟨by omega,by rw[f];simp[a];exact fun e=>G e.symm,rfl⟩⟩,by omega⟩;show iV ((k:Int)+1)=_;rw[Int.natCast_add];rfl
      ·exact FM
 ·obtain rfl:k=s.length:=by omega
  have b:shapeB s=true:=(shapeB_iff s U).2 fun i c V=>l i c (List.getElem?_eq_some_iff.1 V).1 V;refine go ?_;refine AQ (L:=keyC) rfl rfl g (go ?_);refine Ah (α:=Nat) (fun k=>[(0,AK s),(3,.bool true),(47,.agg keyC.toArray),(48,iV (k:Int))]) (fun k W=>k<=10/\s∉keysL.take k/\W=R) (fun k=>10-k) 0 ⟨rfl,rfl,rfl,rfl,trivial⟩ ⟨by omega,by simp,rfl⟩ ?_;rintro k q Z⟨h,a,rfl⟩;repeat refine nx rfl ?_
  by_cases B:k<10
  ·obtain⟨y,F⟩:∃y,keysL[k]?=some y:=⟨_,List.getElem?_eq_getElem (by show k<10;exact B)⟩;have x:keyC[k]?=some (AK y):=by unfold keyC;rw[List.getElem?_map,F];rfl
   have f:keysL.take (k+1)=keysL.take k++[y]:=by rw[List.take_add_one,F];rfl
   (refine AJ ?_<;>(refine Dh rfl rfl (fun V=>?_) (fun V=>?_)<;>try omega))
   repeat refine nx rfl ?_
   refine AJ ?_;refine W_vidx1 (L:=keyC) rfl rfl U x ?_;refine AO (Cb rfl ?_);repeat refine nx rfl ?_
   by_cases G:y=s
   ·exact E0
   ·(refine AJ (Cb rfl (Cb rfl ?_))<;>refine Bn rfl rfl (fun V=>?_) (fun V=>?_)<;>refine AA ?_)
    case refine_1=>exact absurd Dz G
    refine go ?_;refine⟨k+1,⟨rfl,⟨rfl,rfl,rfl,?_,trivial⟩,⟨by omega,by rw[f];simp[a];exact fun e=>G e.symm,rfl⟩⟩,by omega⟩;show iV ((k:Int)+1)=_;rw[Int.natCast_add];rfl
  ·exact FM
structure GK(w:World):Prop where
 gv:GV w
 keys:Cells w 0 0 keyC
theorem GK.E{X:List Nat}{w w':World}(h:GK w)(k:Keep X w w')(W:∀x∈X,10<=x):GK w':=
 ⟨h.gv.E k (fun T=>by have:=W _ T;omega) (fun T=>by have:=W _ T;omega),h.keys.E k (fun T=>by have:=W _ T;omega)⟩
theorem GK.ext{w w':World}(h:GK w)(k:Ext w w'):GK w':=h.E k fun x T=>by cases T
theorem sigName_ok(s:LU)(w:World)(C:GK w):Fn Zp 89 [AK s] w fun v w'=>v=.bool (CH s)/\w'=w:=DL s w C.keys
end
section
variable {mk:Prop}[MK mk]
attribute [local semireducible] WC AT Bo BI Bj Cw DV Be
variable {P:Program}{all:Array Oper}{Z:Fr->DS->List PanicEntry->World->Prop}{K:Fr->DS->World->Prop}{rest:List Oper}{f:Fr}{ds:DS}{w:World}
 {d:Nat}{ty:TypeId}{pos:String}{af:Array Edge}
theorem bytes_unm(w:World)(e:TypeId)(s:ByteArray):Unm (Lib.bytesWorld w e s) w.heap.size:=fun c t a h=>by
 rw[Lib.bytesWorld_at_new]at h;simp only[Option.some.injEq,Obj.cells.injEq]at h;obtain⟨rfl,_,_⟩:=h;refine .inr fun i v q=>?_;have y:=Array.mem_of_getElem? q;unfold Lib.bytesCells at y;rcases Array.mem_append.1 y with y|y
 ·obtain⟨b,_,rfl⟩:=Array.mem_map.1 y;exact⟨_,rfl⟩
 ·exact⟨0,Array.eq_of_mem_replicate y⟩
theorem W_strb{c q e size F:Nat}{z:Value}{x:Operand}{l:LU}[hs:SlT P q e size F z][he:IntT P e .u8][hd:StrT P c](T:ev f x=AK l)
  (h:∀w' cap,Ext w w'->w'.heap.size=w.heap.size+1->Cells w' w.heap.size 0 (cells8 l)->AT P all Z K rest (upd f d (.slice (sm w.heap.size) l.length cap)) ds w'):
  AT P all Z K (⟨some d,.convert c q x,ty,pos,af,none⟩::rest) f ds w:=by
 have a:=Lib.run_convert_string_bytes (P:=P) w c q e ⟨l.toArray⟩ hd.out hs.und he.out;have G:(⟨l.toArray⟩:ByteArray).size=l.length:=by simp[ByteArray.size]
 rw[G]at a;refine Aw (v:=.slice (sm w.heap.size) l.length (grownCap w l.length 0 e)) (w':=Lib.bytesWorld w e ⟨l.toArray⟩) rfl ?_ (h _ _ ⟨rfl,rfl,rfl,?_,fun b S _=>Lib.bytesWorld_at_old w e _ b S,fun _=>mark_new (by rw[Lib.bytesWorld_size];omega) (fun b S=>Lib.bytesWorld_at_old w e _ b S) (bytes_unm w e _),(show w.drawn<=(Lib.bytesWorld w e ⟨l.toArray⟩).drawn by unfold Lib.bytesWorld World.freeze World.alloc World.drew;exact Nat.le_succ _)⟩ (Lib.bytesWorld_size w e _) ?_)
 ·simp only[execOp,T];simp[a]
 ·rw[Lib.bytesWorld_size];omega
 ·intro i u n
  have H:i<l.length:=by
   have:=(List.getElem?_eq_some_iff.1 n).1;simpa[cells8]using this
  have:=Lib.bytesWorld_cell w e ⟨l.toArray⟩ i (by rw[G];exact H);rw[Nat.zero_add,this];rw[cells8_get H]at n;rw[<-n];simp[enc8,List.getD_eq_getElem?_getD]
class IfT (P:Program) (T:TypeId):Prop where
 out:∃ms,P.underlying T=some (.interface ms)
theorem W_nilneq{R C:TypeId}{x:Operand}[hT:IfT P R](a:ev f x=.nilIface)(h:AT P all Z K rest (upd f d (.bool false)) ds w):
  AT P all Z K (⟨some d,.binOp .neq R x (.const .nilIface) C,ty,pos,af,none⟩::rest) f ds w:=by
 obtain⟨b,X⟩:=hT.out;refine Aw rfl ?_ h
 have T:(Op.equalIn Op.maxDepth R .nilIface .nilIface).run P w=.ok true w:=by
  rw[show Op.maxDepth=9999+1 from rfl];generalize 9999=n;unfold Op.equalIn;simp[run_underlying X]
 have F:ev f (.const .nilIface)=.nilIface:=rfl;simp[execOp,a,F,eqGuard,binOp,Op.equal,T]
end
section
variable {mk:Prop}[MK mk]
instance :IfT Zp 251:=⟨_,Tryz.underlying251⟩
def topN:Nat->Int
 |0=>0
 |k+1=>10*topN k+9
theorem topN_le{k:Nat}(h:k<=4):topN k<=9999:=by
 match k,h with
 |0,_=>decide
 |1,_=>decide
 |2,_=>decide
 |3,_=>decide
 |4,_=>decide
 |k+5,h=>omega
theorem numOf_snoc(l:LU)(c:UInt8):numOf (l++[c])=10*numOf l+((c.toNat:Int)-48):=by simp[numOf]
theorem numOf_le:∀(k:Nat)(l:LU),l.length=k->(∀c∈l,A6 c=true)->0<=numOf l/\numOf l<=topN k
 |0,l,hl,_=>by
  obtain rfl:=List.eq_nil_of_length_eq_zero hl;exact⟨by decide,by decide⟩
 |k+1,l,hl,hd=>by
  have A:l≠[]:=fun e=>by subst e;simp at hl
  have e:=List.dropLast_concat_getLast A;have a:=numOf_le k l.dropLast (by simp[hl]) (fun c V=>hd c (List.dropLast_subset _ V));have V:=hd _ (List.getLast_mem A);generalize l.getLast A=c at V e;rw[<-e,numOf_snoc];simp[A6]at V;unfold topN;omega
theorem atoi_ok(s:LU)(w:World)(X:1<=s.length)(z:s.length<=4)(C:∀c∈s,A6 c=true):Fn Zp 251 [AK s] w fun v w'=>v=.tuple #[iV (numOf s),.nilIface]/\Ext w w':=by
 have P:s[0]?=some s[0]:=List.getElem?_eq_getElem U;have n:=C s[0] (List.getElem_mem _);generalize s[0]=c0 at P n;simp[A6]at n;refine AG Tryz.func251 rfl Tryz.ntmps251 (go ?_);refine W_strb rfl (fun R a f g m=>go ?_);refine Ah (α:=Nat) (fun k=>[(5,AK s),(6,iV (numOf (s.take k))),(47,.slice (sm w.heap.size) s.length a),(48,iV (s.length:Int)),(49,iV (k:Int))]) (fun k L=>k<=s.length/\L=R) (fun k=>s.length-k) 0 ⟨rfl,rfl,rfl,rfl,rfl,trivial⟩ ⟨by omega,rfl⟩ ?_;rintro k L Z⟨d,rfl⟩;refine go ?_;by_cases B:k<s.length
 ·have y:s[k]?=some s[k]:=List.getElem?_eq_getElem B;have E:=C s[k] (List.getElem_mem _);generalize s[k]=c at y E;simp[A6]at E;have S:L.cell? ⟨w.heap.size,0+k,none⟩=some (.int .u8 (c.toNat:Int)):=m k _ (by simp[cells8,y,enc8]);have b:s.take (k+1)=s.take k++[c]:=by rw[List.take_add_one,y];rfl
  have G:=numOf_le k (s.take k) Dw (fun c V=>C c (List.take_subset _ _ V));have e:=topN_le (k:=k) U;refine go ?_;refine⟨k+1,⟨rfl,⟨rfl,?_,rfl,rfl,?_,trivial⟩,⟨by omega,rfl⟩⟩,by omega⟩
  ·rw[b,numOf_snoc,Int.mul_comm 10];rfl
  ·show iV ((k:Int)+1)=_;rw[Int.natCast_add];rfl
 ·obtain rfl:k=s.length:=by omega
  refine go ?_;exact C5 rfl ⟨by rw[List.take_length];rfl,f⟩
theorem Atoi_ok(s:LU)(w:World)(X:1<=s.length)(z:s.length<=4)(C:∀c∈s,A6 c=true):Fn Zp 197 [AK s] w fun v w'=>v=.tuple #[iV (numOf s),.nilIface]/\Ext w w':=by
 refine AG Tryz.func197 rfl Tryz.ntmps197 (go ?_);refine AE (atoi_ok s w X z C) rfl ?_;rintro v R⟨rfl,f⟩;refine go ?_;refine W_nilneq rfl (go ?_);exact C5 rfl ⟨rfl,f⟩
theorem run_accepts_t{t:LU}{k:List Tok}(h:C4 t (k.head?.map bare)=true):Run (Bb t) k (.ok (true,k.tail)):=by
 refine Run.look ?_;rw[if_pos h];exact Run.next (Run.ret _ _)
theorem run_accepts_f{t:LU}{k:List Tok}(h:C4 t (k.head?.map bare)=false):Run (Bb t) k (.ok (false,k)):=by
 refine Run.look ?_;rw[h];exact Run.ret _ _
theorem run_expect_t{t:LU}{k:List Tok}(h:C4 t (k.head?.map bare)=true):Run (DD t) k (.ok ((),k.tail)):=by
 refine Run.look ?_;rw[if_pos h];exact Run.next (Run.ret _ _)
theorem run_expect_f{t:LU}{k:List Tok}(h:C4 t (k.head?.map bare)=false):Run (DD t) k (.error k):=by
 refine Run.look ?_;rw[h];exact Run.fail _
theorem CG(E:Env)(w:World)(k:List Tok)(t:LU)(h:PSt w E k):Fn Zp 161 [pt E.s,AK t] w (fun v w'=>Keep [E.s] w w'/\∃b r,v=.bool b/\Run (Bb t) k (.ok (b,r))/\PSt w' E r):=by
 obtain⟨a,c,S,D⟩:=h.D;refine AG Tryz.func161 rfl Tryz.ntmps161 (go ?_);refine AE (sees_ok E w k t h) rfl ?_;rintro v R⟨rfl,rfl⟩;refine go ?_;cases hse:C4 t (k.head?.map bare)with
 |false=>
  refine go ?_;exact AB rfl ⟨Keep.refl _ _,false,k,rfl,run_accepts_f hse,h⟩
 |true=>
  cases k with
  |nil=>simp[C4]at hse
  |cons x l=>
   have M:(x::l).length=l.length+1:=rfl;obtain⟨b,o,rfl,m,_,d⟩:=PSt.tok D;refine go ?_;refine AR rfl rfl rfl S O (fun L e=>?_);have X:=h.taken d e;refine go ?_;exact AB rfl ⟨e.E,true,l,rfl,run_accepts_t hse,X⟩
theorem DA(E:Env)(w:World)(k:List Tok)(t:LU)(h:PSt w E k):PDo E 162 [pt E.s,AK t] w (DD t) k (fun _ v _=>v=.tuple #[]):=by
 unfold PDo;refine A7 Tryz.func162 rfl Tryz.ntmps162 nlr Dv (go ?_);refine AE (CG E w k t h) rfl ?_;rintro v d⟨f,b,r,rfl,x,a⟩;cases hse:C4 t (k.head?.map bare)with
 |false=>
  have e:=x.det (run_accepts_f hse);cases e;refine go ?_;refine At (wrong_ok E d k a) rfl (R:=fun _ _=>False) ?_ ?_
  ·rintro v L c;exact c.elim
  ·rintro m L⟨rfl,rfl⟩;refine go ?_;exact Aj ⟨f,k,run_expect_f hse,rfl⟩
 |true=>
  have e:=x.det (run_accepts_t hse);cases e;refine go ?_;exact BF rfl ⟨f,(),k.tail,run_expect_t hse,a,rfl⟩
theorem pname_ok(E:Env)(w:World)(k:List Tok)(h:PSt w E k)(C:GK w):PDo E 163 [pt E.s] w nameG k (fun _ v s=>v=AK s/\CH s=true):=by
 obtain⟨a,c,S,D⟩:=h.D;unfold PDo;refine A7 Tryz.func163 rfl Tryz.ntmps163 nlr Dv (go ?_);cases k with
 |nil=>
  have M:([]:List Tok).length=0:=rfl;refine go ?_;refine At (wrong_ok E w [] h) rfl (R:=fun _ _=>False) ?_ ?_
  ·rintro v L d;exact d.elim
  ·rintro m L⟨rfl,rfl⟩;refine go ?_;exact Aj ⟨Keep.refl _ _,[],Run.look (Run.fail _),rfl⟩
 |cons x l=>
  have M:(x::l).length=l.length+1:=rfl;obtain⟨b,o,rfl,n,⟨p,K,A⟩,t⟩:=PSt.tok D;by_cases f:x.kind=1/\CH x.text=true
  ·obtain⟨P,G⟩:=f;refine go ?_;refine AE (sigName_ok x.text w C) rfl ?_;rintro v j⟨rfl,rfl⟩;rw[G];refine go ?_;refine AR rfl rfl rfl S O (fun L i=>?_);have X:=h.taken t i;refine go ?_;refine AB rfl ⟨i.E,x.text,l,Run.look ?_,X,rfl,G⟩;have e:(decide (x.kind=1)&&CH x.text)=true:=by simp[P,G]
   show Run (if(decide (x.kind=1)&&CH x.text)=true then _ else _) _ _;rw[if_pos e];exact Run.next (Run.ret _ _)
  ·have g:Run nameG (x::l) (.error (x::l)):=by
    have e:(decide (x.kind=1)&&CH x.text)=false:=by
     cases S:(decide (x.kind=1)&&CH x.text)with
     |false=>rfl
     |true=>simp at S;exact absurd S f
    refine Run.look ?_;show Run (if(decide (x.kind=1)&&CH x.text)=true then _ else _) _ _;rw[e];exact Run.fail _
   by_cases P:x.kind=1
   ·have G:CH x.text=false:=by
     cases S:CH x.text with
     |false=>rfl
     |true=>exact absurd ⟨P,S⟩ f
    refine go ?_;refine AE (sigName_ok x.text w C) rfl ?_;rintro v j⟨rfl,rfl⟩;rw[G];refine go ?_;refine At (wrong_ok E j (x::l) h) rfl (R:=fun _ _=>False) ?_ ?_
    ·rintro v L d;exact d.elim
    ·rintro m L⟨rfl,rfl⟩;refine go ?_;exact Aj ⟨Keep.refl _ _,x::l,g,rfl⟩
   ·refine go ?_;refine At (wrong_ok E w (x::l) h) rfl (R:=fun _ _=>False) ?_ ?_
    ·rintro v L d;exact d.elim
    ·rintro m L⟨rfl,rfl⟩;refine go ?_;exact Aj ⟨Keep.refl _ _,x::l,g,rfl⟩
theorem number_ok(E:Env)(w:World)(k:List Tok)(h:PSt w E k):PDo E 164 [pt E.s] w numberG k (fun _ v n=>v=iV n/\0<=n/\n<=9999):=by
 obtain⟨a,c,S,D⟩:=h.D;unfold PDo;refine A7 Tryz.func164 rfl Tryz.ntmps164 nlr Dv (go ?_);cases k with
 |nil=>
  have M:([]:List Tok).length=0:=rfl;refine go ?_;refine At (wrong_ok E w [] h) rfl (R:=fun _ _=>False) ?_ ?_
  ·rintro v L d;exact d.elim
  ·rintro m L⟨rfl,rfl⟩;refine go ?_;exact Aj ⟨Keep.refl _ _,[],Run.look (Run.fail _),rfl⟩
 |cons x l=>
  have M:(x::l).length=l.length+1:=rfl;obtain⟨b,o,rfl,j,⟨p,K,A⟩,t⟩:=PSt.tok D;by_cases P:x.kind=2
  ·obtain⟨F,g,i⟩:=h.wf x O P;refine go ?_;refine AE (Atoi_ok x.text w F g i) rfl ?_;rintro v r⟨rfl,f⟩;refine go ?_;replace h:=h.ext f;replace S:=S.E f O;replace t:=t.ext f;refine go ?_;refine AR rfl rfl rfl S O (fun L e=>?_);have X:=h.taken t e;refine go ?_;have G:=numOf_le _ x.text rfl i;have q:=topN_le g;refine AB rfl ⟨f.any.trans e.E O,numOf x.text,l,Run.look ?_,X,rfl,by omega⟩;show Run (if decide (x.kind=2)=true then _ else _) _ _;rw[if_pos (by simp[P])];exact Run.next (Run.ret _ _)
  ·refine go ?_;refine At (wrong_ok E w (x::l) h) rfl (R:=fun _ _=>False) ?_ ?_
   ·rintro v L d;exact d.elim
   ·rintro m L⟨rfl,rfl⟩;refine go ?_;refine Aj ⟨Keep.refl _ _,x::l,Run.look ?_,rfl⟩;show Run (if decide (x.kind=2)=true then _ else _) _ _;rw[if_neg (by simp[P])];exact Run.fail _
def oprC(o:Opr):LV:=[iV o.op,iV o.indexed,iV o.val]
theorem oneC_opr(o:Opr):oneC (oprC o):=by
 intro u n;simp[oprC]at n;rcases n with rfl|rfl|rfl<;>rfl
theorem tabV_lookup(x:LU):∀t:List (LU×Opr),(tabV t).lookup x=(t.lookup x).map oprV
 | []=>rfl
 |(a,o)::t=>by
  have k:=tabV_lookup x t;simp only[tabV,List.map_cons,List.lookup_cons]at k⊢;cases x==a<;>simp[k]
def takeV(o:Option Opr):LV:=oprC (o.getD ⟨0,0,0⟩)
theorem pstake_ok(E:Env)(w:World)(k:List Tok)(m:Nat)(I:List (LU×Opr))(h:PSt w E k)(hm:SMap w m (tabV I))(b0:m≠E.s):
  Fn Zp 298 [pt E.s,.map (some m)] w (fun v w'=>Keep [E.s] w w'/\∃o r,v=.tuple #[.agg (takeV o).toArray,.bool o.isSome]/\Run (takeG I) k (.ok (o,r))/\PSt w' E r):=by
 obtain⟨a,c,H,D⟩:=h.D;refine AG Tryz.func298 rfl Tryz.ntmps298 (go ?_);refine AS (fun R f=>?_);have z:Blk R w.heap.size 215 [iV 0,iV 0,iV 0]:=f.D;have z1:=f.size;have b1:=h.slt;have X:=h.ext f.E;have P:=H.E f.E O;have a2:=D.ext f.E;have a1:=hm.E f.E O;refine go ?_;cases k with
 |nil=>
  have Z:([]:List Tok).length=0:=rfl;refine go ?_;refine AH (cs:=[iV 0,iV 0,iV 0]) rfl rfl rfl (oneC_opr ⟨0,0,0⟩) z O (fun L e=>?_);have C:Blk L w.heap.size 215 [iV 0,iV 0,iV 0]:=e.D;refine go ?_;exact Cp rfl rfl rfl C.cells ⟨(f.E.E e.E O).any,none,[],rfl,Run.look (Run.ret _ _),X.E e.E Dw⟩
 |cons x l=>
  have Z:(x::l).length=l.length+1:=rfl;obtain⟨b,o,rfl,a6,⟨a7,a8,a9⟩,a3⟩:=PSt.tok a2;have d:=tabV_lookup x.text I;refine go ?_;refine W_lookup2S rfl rfl a1 ?_
  have F:((tabV I).lookup x.text).getD (.agg #[iV 0,iV 0,iV 0])=.agg (takeV (I.lookup x.text)).toArray:=by
   rw[d];cases I.lookup x.text<;>rfl
  have G:((tabV I).lookup x.text).isSome=(I.lookup x.text).isSome:=by rw[d];simp
  rw[F,G]
  have S:Run (takeG I) (x::l) (match I.lookup x.text with|some p=>.ok (some p,l)|none=>.ok (none,x::l)):=by
   refine Run.look ?_;show Run (match I.lookup x.text with|some p=>.next (.ret (some p))|none=>.ret none) _ _;cases I.lookup x.text with
   |none=>exact Run.ret _ _
   |some p=>exact Run.next (Run.ret _ _)
  have j:oneC (takeV (I.lookup x.text)):=oneC_opr _;have a0:(takeV (I.lookup x.text)).length=3:=rfl;generalize I.lookup x.text=q at S j a0;refine go ?_;refine AS (fun L N=>?_);have z2:=N.size;refine AH (cs:=takeV q) rfl rfl rfl j N.D (by simp[takeV,oprC]) (fun B K=>?_);have g:Ext R B:=N.E.E K.E O;have y:Blk B R.heap.size 215 (takeV q):=K.D;have Q:=X.ext g;have T:=P.E g O;have a4:=a3.ext g;have A:=z.E g O;refine go ?_;cases q with
  |none=>
   refine go ?_;refine AH (cs:=takeV none) rfl rfl rfl j A (by simp[takeV,oprC]) (fun u i=>?_);have t:Blk u w.heap.size 215 (takeV none):=i.D;have k4:Ext w u:=(f.E.trans g).E i.E O;refine go ?_;exact Cp rfl rfl rfl t.cells ⟨k4.any,none,x::l,rfl,S,Q.E i.E Dw⟩
  |some q=>
   refine go ?_;refine AR rfl rfl rfl T O (fun u i=>?_);have q4:=Q.taken a4 i;have a5:=y.E i.E Dw;have V:=A.E i.E Dw;refine go ?_;refine AH (cs:=takeV (some q)) rfl rfl rfl j V (by simp[takeV,oprC]) (fun W n=>?_);have M:Blk W w.heap.size 215 (takeV (some q)):=n.D;have k5:Keep [E.s] w W:=((f.E.trans g).any.trans i.E O).trans n.E O;refine go ?_;exact Cp rfl rfl rfl M.cells ⟨k5,some q,l,rfl,S,q4.E n.E Dw⟩
theorem index_ok(E:Env)(w:World)(i:List Tok)(o:Opr)(h:PSt w E i):PDo E 299 [pt E.s,.agg (oprC o).toArray] w (indexG o) i (fun _ v n=>v=.tuple #[iV (n.getD 0),.bool n.isSome]/\0<=n.getD 0/\n.getD 0<=9999):=by
 have F:=h.slt;unfold PDo;refine A7 Tryz.func299 rfl Tryz.ntmps299 nlr Dv (go ?_);refine Ai (L:=oprC o) rfl (fun R f=>?_);have D:Blk R w.heap.size 215 [iV o.op,iV o.indexed,iV o.val]:=f.D;have c:=f.size;have X:=h.ext f.E;refine go ?_;by_cases q:o.indexed=0
 ·refine go ?_;refine C5 rfl ⟨f.E.any,none,i,?_,X,rfl,by decide,by decide⟩;unfold indexG;rw[if_pos q];exact Run.ret _ _
 ·have e:indexG o=(Bb [91]).bind fun b=>if b then numberG.bind fun n=>(DD [93]).bind fun _=>.ret (some n)else .ret none:=by unfold indexG;rw[if_neg q]
  rw[e];refine go ?_;refine AE (CG E R i [91] X) rfl ?_;rintro v x⟨d,b,t,rfl,k,W⟩;replace d:Keep [E.s] w x:=f.E.any.trans d O;cases b with
  |false=>
   refine go ?_;exact C5 rfl ⟨d,none,t,k.bind (Run.ret _ _),W,rfl,by decide,by decide⟩
  |true=>
   refine go ?_;refine At (number_ok E x t W) rfl ?_ ?_
   ·rintro v y⟨g,n,A,a,Q,rfl,r,P⟩;replace g:=d.trans g O;refine go ?_;refine At (DA E y A [93] Q) rfl ?_ ?_
    ·rintro v C⟨j,u,B,p,z,rfl⟩;refine go ?_;exact C5 rfl ⟨g.trans j O,some n,B,k.bind (a.bind (p.bind (Run.ret _ _))),z,rfl,r,P⟩
    ·rintro m C⟨j,l,p,rfl⟩;refine go ?_;exact Aj ⟨g.trans j O,l,k.bind (a.bind (Run.bindE p)),rfl⟩
   ·rintro m y⟨g,l,a,rfl⟩;refine go ?_;exact Aj ⟨d.trans g O,l,k.bind (Run.bindE a),rfl⟩
end
end Go.Proofs.YtohodbnnhlddpaaGreatDoor
