/- TopTextGoals, part 3 of 16: rules, lemmas, walks. Conditions: none. -/
import Derived.Test.YtjbocjodncbogaaGreatDoorTX2
import Derived.Lib.ConvBytes
namespace Go.Proofs.YtjbocjodncbogaaGreatDoor
open Go.RowKit
set_option linter.unusedVariables false
section
variable {mk:Prop}[MK mk]
structure Tok where
 kind:Int
 text:LU
 loc:Nat
deriving DecidableEq
def tokC(k:Tok):LV:=[iV k.kind,AL k.text,iV (k.loc:Int)]
def Dk(l:List Tok):LV:=l.flatMap tokC
abbrev fail(e:Int)(p:Nat):List PanicEntry:=[{v:=.iface 193 (.agg #[iV e,iV (p:Int)]),recovered:=false}]
structure St(w0 w:World)(s:Nat)(t:LU)(a:Nat)(ts:List Tok):Prop where
 E:Keep [s] w0 w
 lt:s<w0.heap.size
 len:t.length<=6000
 loc:a<=t.length
 cnt:ts.length<=2000
 D:∃tv,Blk w s 197 [AL t,iV (a:Int),tv]/\w.ownsRow w0.heap.size 170 3 tv ts.length (Dk ts)
def Ao(p:UInt8->Bool)(t:LU)(a:Nat):Nat:=a+((t.drop a).takeWhile p).length
theorem Bp{p:UInt8->Bool}{t:LU}{a:Nat}{c:UInt8}(h:t[a]?=some c)(y:p c=true):Ao p t a=Ao p t (a+1):=by
 obtain⟨Z,W⟩:=List.getElem?_eq_some_iff.1 h;unfold Ao;rw[List.drop_eq_getElem_cons Z,W,List.takeWhile_cons_of_pos y];simp;omega
theorem whileB_stop{p:UInt8->Bool}{t:LU}{a:Nat}{c:UInt8}(h:t[a]?=some c)(y:p c=false):Ao p t a=a:=by
 obtain⟨Z,W⟩:=List.getElem?_eq_some_iff.1 h;unfold Ao;rw[List.drop_eq_getElem_cons Z,W,List.takeWhile_cons_of_neg (by simp[y])];simp
theorem whileB_end{p:UInt8->Bool}{t:LU}{a:Nat}(h:t.length<=a):Ao p t a=a:=by
 unfold Ao;rw[List.drop_eq_nil_of_le h];simp
theorem Bv{p:UInt8->Bool}{t:LU}{a:Nat}(h:a<=t.length):Ao p t a<=t.length:=by
 have:=(List.takeWhile_prefix p (l:=t.drop a)).length_le;simp at this;unfold Ao;omega
theorem CK(p:UInt8->Bool)(t:LU)(a:Nat):a<=Ao p t a:=by unfold Ao;omega
theorem while_ok{g:FuncId}{p:UInt8->Bool}[AM Zp g](b:Test g p)(w:World)(s a:Nat)(t:LU)(x y:Value)(S:Blk w s 197 [AL t,x,y])(D:a<=t.length)(K:t.length<=6000):
  Fn Zp 275 [pt s,iV (a:Int),.func (.func g) #[] #[]] w fun v w'=>v=iV (Ao p t a:Int)/\w'=w:=by
 refine AN Tryz.func275 rfl Tryz.ntmps275 (go ?_);refine Ar (α:=Nat) (fun k=>[(0,pt s),(1,iV (k:Int)),(2,.func (.func g) #[] #[])]) (fun k Q=>k<=t.length/\Ao p t k=Ao p t a/\Q=w) (fun k=>t.length-k) a ⟨rfl,rfl,rfl,trivial⟩ ⟨D,rfl,rfl⟩ ?_;rintro k Q l⟨L,e,rfl⟩;refine go ?_;by_cases d:k<t.length
 ·have Z:t[k]?=some t[k]:=List.getElem?_eq_getElem d;generalize t[k]=c at Z;refine go ?_;refine A9 (v1:=[]) (v2:=[]) (vs:=[enc8 c]) rfl (b c _) rfl ?_;rintro v w'⟨rfl,rfl⟩;cases hp:p c with
  |true=>
   refine go ?_;refine⟨k+1,⟨rfl,⟨rfl,?_,rfl,trivial⟩,⟨by omega,(Bp Z hp).symm.trans e,rfl⟩⟩,by omega⟩;show iV ((k:Int)+1)=_;rw[Int.natCast_add];rfl
  |false=>
   refine go ?_;exact AC rfl ⟨by rw[<-e,whileB_stop Z hp];rfl,rfl⟩
 ·refine go ?_;exact AC rfl ⟨by rw[<-e,whileB_end U];rfl,rfl⟩
theorem made_tok:(madeCells (Value.agg #[iV 0,AL [],iV 0]).cells (1*3)).toList=[iV 0,AL [],iV 0]:=by
 kernel_rfl
theorem add_ok(d w:World)(s a n:Nat)(t:LU)(ts:List Tok)(k:Int)(h:St d w s t a ts)(h1:a<=n)(h2:n<=t.length):
  FnP Zp 280 [pt s,iV k,iV (n:Int)] w (fun v w'=>v=.tuple #[]/\ts.length<2000/\St d w' s t n (ts++[⟨k,(t.take n).drop a,a⟩])) (fun ch w'=>ts.length=2000/\ch=fail 2 a/\Keep [s] d w'):=by
 obtain⟨L,hs,hl,ha,hn,tv,S,F⟩:=h
 obtain⟨X,q,rfl⟩:∃X q,tv=.slice X ts.length q:=by
  rcases F.2 with⟨rfl,z⟩|⟨g,a0,a1,rfl,_⟩
  ·exact⟨none,0,by rw[z]⟩
  ·exact Gq
 refine Az Tryz.func280 rfl Tryz.ntmps280 nlr EO ?_;repeat refine nx rfl ?_
 (refine AJ (AX rfl (AG rfl (AB rfl ?_)))<;>refine AH rfl (Blk.cell ER EQ) ?_<;>refine Bi rfl ?_<;>(refine Bf rfl rfl (fun hc=>?_) (fun hc=>?_)<;>try omega))
 ·repeat refine nx rfl ?_
  (refine AJ (AX rfl (AG rfl (AB rfl ?_)))<;>refine AH rfl (Blk.cell ER EQ) ?_<;>refine BO EQ EQ ?_<;>refine Db (Ds rfl ?_))
  repeat refine nx rfl ?_
  exact Ab ⟨by omega,rfl,L⟩
 ·repeat first|refine nx rfl ?_|refine nf rfl ?_
  refine Ac (rd 0 4 (rd 5 16 (.alt 4 (.alt 21 (.alt 22 (.read 23 (.read 24 (.alt 25 .done .stop))) .stop) .stop) (.alt 21 (.alt 4 (.alt 22 (.read 23 (.read 24 (.alt 25 .done .stop))) .stop) .stop) .stop)))) Ap EO (fun wd M ed=>⟨fun W=>W.cell? ⟨s,0,none⟩=some (AL t)/\W.cell? ⟨s,1,none⟩=some (iV (a:Int)),?_,?_⟩)
  ·exact⟨(S.E M O).cell rfl,(S.E M O).cell rfl⟩
  have p:=S.E M O;have a3:=As F M;have a4:∀W:World,(W.cell? ⟨s,0,none⟩=some (AL t)/\W.cell? ⟨s,1,none⟩=some (iV (a:Int)))->W.cell? ⟨s,0,none⟩=some (AL t):=fun W h=>h.1;have a2:∀W:World,(W.cell? ⟨s,0,none⟩=some (AL t)/\W.cell? ⟨s,1,none⟩=some (iV (a:Int)))->W.cell? ⟨s,1,none⟩=some (iV (a:Int)):=fun W h=>h.2;((refine D_R rfl rfl (fun W o=>AX rfl dz) ?_)<;>(refine D_R rfl rfl (fun W o=>AX rfl dz) ?_)<;>(refine D_R rfl rfl (fun W o=>AG rfl dz) ?_)<;>(refine D_R rfl rfl (fun W o=>AB rfl dz) ?_)<;>(refine D_R rfl rfl (fun W o=>AS rfl dz) ?_)<;>(refine D_R rfl rfl (fun W o=>AX rfl dz) ?_)<;>(refine D_R rfl rfl (fun W o=>AG rfl dz) ?_)<;>(refine D_R rfl rfl (fun W o=>AB rfl dz) ?_)<;>(refine D_R rfl rfl (fun W o=>AH rfl (a4 W o) dz) ?_)<;>(refine D_R rfl rfl (fun W o=>AX rfl dz) ?_)<;>(refine D_R rfl rfl (fun W o=>AG rfl dz) ?_)<;>(refine D_R rfl rfl (fun W o=>AB rfl dz) ?_)<;>(refine D_R rfl rfl (fun W o=>AH rfl (a2 W o) dz) ?_)<;>(refine D_R rfl rfl (fun W o=>AS rfl dz) ?_)<;>(apply D_R rfl rfl;(intro W o;refine W_sslice_lh rfl rfl rfl U U ?_;exact AA ⟨rfl,rfl,rfl⟩))<;>(refine D_R rfl rfl (fun W o=>AX rfl dz) ?_)<;>(refine D_R rfl rfl (fun W o=>AG rfl dz) ?_)<;>(refine D_R rfl rfl (fun W o=>AB rfl dz) ?_)<;>(refine D_R rfl rfl (fun W o=>AH rfl (a2 W o) dz) ?_)<;>(apply D_R rfl rfl;(intro W o;refine BO EQ EQ ?_;exact AA ⟨rfl,rfl,rfl⟩)))
  have a6:tokC ⟨k,(t.take n).drop a,a⟩=[iV k,AL ((t.take n).drop a),iV (a:Int)]:=rfl;refine D_A rfl ?_ (D_E rfl ?_)
  ·refine AH rfl (p.cell rfl) ?_;refine wNl (⟨p.cell rfl,p.cell rfl⟩) ?_;refine D_E rfl ?_;refine AP (out:=tokC ⟨k,(t.take n).drop a,a⟩) rfl U (by rw[made_tok];rfl) (fun w2 b=>?_);have T:=b.own (n:=1) (size:=3) rfl EW (Nat.le_refl _);have s2:=b.size;have l:=p.E b.E O;refine wNl (⟨l.cell rfl,l.cell rfl⟩) ?_;refine D_E rfl ?_;refine Ax (ok:=Af) rfl rfl (As a3 b.E) (Aa T fun _ _=>trivial) U rfl rfl (by intro y E;simp[tokC]at E;rcases E with rfl|rfl|rfl<;>rfl) U U (by have:=L.size;have:=M.size;omega) (fun v3 w3 P=>?_);have C:∀x∈(Value.slice X ts.length q).ownBlock.toList,d.heap.size<=x:=fun x V=>(An F (by simpa using V)).1;have K:s∉(Value.slice X ts.length q).ownBlock.toList:=fun V=>by have:=C s V;omega
   have m:=(p.E b.E O).E P.E K;have i:Keep [s] d w3:=((L.ext M).ext b.E).trans P.E fun x V a5=>absurd (C x V) U;refine wNl (⟨m.cell rfl,m.cell rfl⟩) ?_;refine go ?_;refine D_E rfl ?_;have I:=P.own
   obtain⟨j,D,rfl⟩:∃j D,v3=.slice j (ts.length+1) D:=by
    rcases I.2 with⟨rfl,z⟩|⟨g,a0,a1,rfl,_⟩
    ·exact absurd z U
    ·exact Gq
   exact FC
  ·refine AP (out:=tokC ⟨k,(t.take n).drop a,a⟩) rfl U (by rw[made_tok];rfl) (fun w2 b=>?_);have T:=b.own (n:=1) (size:=3) rfl EW (Nat.le_refl _);have s2:=b.size;have l:=p.E b.E O;refine wNl (⟨l.cell rfl,l.cell rfl⟩) ?_;refine D_E rfl ?_;refine AH rfl (l.cell rfl) ?_;refine wNl (⟨l.cell rfl,l.cell rfl⟩) ?_;refine D_E rfl ?_;refine Ax (ok:=Af) rfl rfl (As a3 b.E) (Aa T fun _ _=>trivial) U rfl rfl (by intro y E;simp[tokC]at E;rcases E with rfl|rfl|rfl<;>rfl) U U (by have:=L.size;have:=M.size;omega) (fun v3 w3 P=>?_);have C:∀x∈(Value.slice X ts.length q).ownBlock.toList,d.heap.size<=x:=fun x V=>(An F (by simpa using V)).1;have K:s∉(Value.slice X ts.length q).ownBlock.toList:=fun V=>by have:=C s V;omega
   have m:=(p.E b.E O).E P.E K;have i:Keep [s] d w3:=((L.ext M).ext b.E).trans P.E fun x V a5=>absurd (C x V) U;refine wNl (⟨m.cell rfl,m.cell rfl⟩) ?_;refine go ?_;refine D_E rfl ?_;have I:=P.own
   obtain⟨j,D,rfl⟩:∃j D,v3=.slice j (ts.length+1) D:=by
    rcases I.2 with⟨rfl,z⟩|⟨g,a0,a1,rfl,_⟩
    ·exact absurd z U
    ·exact Gq
   exact FC
abbrev Res:=Except (Int×Nat) (Nat×List Tok)
def FnS(g:FuncId)(args:LV)(w y:World)(s:Nat)(t:LU)(r:Res):Prop:=
 FnP Zp g args w (fun v X=>v=.tuple #[]/\∃a u,r=.ok (a,u)/\St y X s t a u) (fun V X=>∃e p,r=.error (e,p)/\V=fail e p/\Keep [s] y X)
def C8(t:LU)(a:Nat)(ts:List Tok)(k:Int)(n:Nat):Res:=if ts.length=2000 then .error (2,a)else .ok (n,ts++[⟨k,(t.take n).drop a,a⟩])
theorem addS(y w:World)(s a n:Nat)(t:LU)(ts:List Tok)(k:Int)(h:St y w s t a ts)(Z:a<=n)(W:n<=t.length):FnS 280 [pt s,iV k,iV (n:Int)] w y s t (C8 t a ts k n):=by
 refine FnP.mono (add_ok y w s a n t ts k h Z W) ?_ ?_
 ·rintro v X⟨rfl,K,T⟩;exact⟨rfl,_,_,by unfold C8;rw[if_neg U],T⟩
 ·rintro V X⟨K,rfl,T⟩;exact⟨_,_,by unfold C8;rw[if_pos K],rfl,T⟩
def blankM(a:Nat)(ts:List Tok):Res:=.ok (a+1,ts)
theorem blank_ok(y w:World)(s a:Nat)(t:LU)(ts:List Tok)(h:St y w s t a ts)(Z:a<t.length):FnS 191 [pt s] w y s t (blankM a ts):=by
 obtain⟨L,F,K,D,I,tv,S,b⟩:=h;refine Az Tryz.func191 rfl Tryz.ntmps191 nlr EO (go ?_);refine AU rfl rfl rfl S O (fun f A=>?_);have c:=A.D;have v:=Ai b A.E fun g d=>by have:=(An b d).1;simp;omega
 have i:Keep [s] y f:=L.trans A.E fun x V _=>V;refine go ?_;refine A1 rfl ⟨rfl,_,_,rfl,⟨i,F,K,by omega,I,tv,?_,v⟩⟩;have e:((a:Int)+1)=((a+1:Nat):Int):=by omega
 exact e▸c
def commM(t:LU)(a:Nat)(ts:List Tok):Res:=.ok (Ao BQ t a,ts)
theorem comment_ok(y w:World)(s a:Nat)(t:LU)(ts:List Tok)(h:St y w s t a ts):FnS 192 [pt s] w y s t (commM t a ts):=by
 obtain⟨L,F,K,D,I,tv,S,b⟩:=h;refine Az Tryz.func192 rfl Tryz.ntmps192 nlr EO (go ?_);refine AF (while_ok comm_ok w s a t _ _ S D K) rfl ?_;rintro v X⟨rfl,rfl⟩;refine go ?_;refine AU rfl rfl rfl S O (fun f A=>?_);have c:=A.D;have i:=Ai b A.E fun g d=>by have:=(An b d).1;simp;omega
 have e:Keep [s] y f:=L.trans A.E fun x V _=>V;refine go ?_;exact A1 rfl ⟨rfl,_,_,rfl,⟨e,F,K,Bv D,I,tv,c,i⟩⟩
def EN(t:LU)(a:Nat)(ts:List Tok):Res:=if 20<Ao BD t (a+1)-a then .error (40,a)else C8 t a ts 1 (Ao BD t (a+1))
theorem scanName_ok(y w:World)(s a:Nat)(t:LU)(ts:List Tok)(h:St y w s t a ts)(Z:a<t.length):FnS 193 [pt s] w y s t (EN t a ts):=by
 obtain⟨L,F,K,D,I,tv,S,c⟩:=id h;have b:=CK BD t (a+1);have C:=Bv (p:=BD) (t:=t) (a:=a+1) U;refine Az Tryz.func193 rfl Tryz.ntmps193 nlr EO (go ?_);refine AF (while_ok name_ok w s (a+1) t _ _ S U K) (by rw[Int.natCast_add];rfl) ?_;rintro v X⟨rfl,rfl⟩;refine AO (AS rfl ?_);repeat refine nx rfl ?_
 (refine AJ (AS rfl (AX rfl (AG rfl (AB rfl (AH rfl (Blk.cell ER EQ) ?_)))))<;>refine W_sub rfl rfl Ea ?_<;>(refine W_gtr rfl rfl (fun T=>?_) (fun T=>?_)<;>try omega))
 ·repeat refine nx rfl ?_
  (refine AJ (AX rfl (AG rfl (AB rfl (AH rfl (Blk.cell ER EQ) ?_))))<;>refine BO EQ EQ ?_<;>refine Db (Ds rfl ?_))
  repeat refine nx rfl ?_
  exact Ab ⟨_,_,by unfold EN;rw[if_pos U],rfl,L⟩
 ·repeat first|refine nx rfl ?_|refine nf rfl ?_
  refine AJ (AX rfl (AS rfl ?_));have e:EN t a ts=C8 t a ts 1 (Ao BD t (a+1)):=by unfold EN;rw[if_neg U]
  rw[e];refine Ag (addS y X s a _ t ts 1 h U C) rfl ?_ ?_
  ·exact Fv
  ·exact Gk
def BM(t:LU)(a:Nat):Bool:=
 decide (4<Ao Au t a-a)||(decide (1<Ao Au t a-a)&&decide ((t.getD a 0).toNat=48))||
  (decide (Ao Au t a<t.length)&&(Ch (t.getD (Ao Au t a) 0)||decide ((t.getD (Ao Au t a) 0).toNat=95)))
def EI(t:LU)(a:Nat)(ts:List Tok):Res:=if BM t a=true then .error (40,a)else C8 t a ts 2 (Ao Au t a)
theorem EA{t:LU}{a:Nat}{c:UInt8}(h:t[a]?=some c):t.getD a 0=c:=by simp[List.getD_eq_getElem?_getD,h]
theorem St.ext{y w w':World}{s a:Nat}{t:LU}{ts:List Tok}(h:St y w s t a ts)(k:Ext w w'):St y w' s t a ts:=by
 obtain⟨L,F,K,D,I,tv,S,b⟩:=h;exact⟨L.ext k,F,K,D,I,tv,S.E k O,As b k⟩
theorem scanNumber_ok(y w:World)(s a:Nat)(t:LU)(ts:List Tok)(h:St y w s t a ts)(g:a<t.length):FnS 194 [pt s] w y s t (EI t a ts):=by
 obtain⟨L,F,K,D,I,tv,S,u⟩:=id h;have r:=CK Au t a;have C:=Bv (p:=Au) (t:=t) (a:=a) U;have Z:t[a]?=some t[a]:=List.getElem?_eq_getElem g;generalize t[a]=c0 at Z;refine Az Tryz.func194 rfl Tryz.ntmps194 nlr EO (go ?_);refine AF (while_ok dig_ok w s a t _ _ S U K) rfl ?_;rintro v X⟨rfl,rfl⟩;refine go ?_;refine Ac (rd 0 18 .done) Ap EO (fun k f l=>⟨fun W=>W=k,?_,?_⟩)
 ·rfl
 have m:=S.E f O;have B:=h.ext f;by_cases n:4<Ao Au t a-a
 ·((apply D_R rfl rfl;(intro W o;subst o;refine AS rfl ?_;exact AA ⟨rfl,rfl,rfl⟩))<;>(refine D_gtr rfl rfl rfl rfl (fun T=>?_) (fun T=>?_)<;>try omega)<;>(apply D_R rfl rfl;(intro W o;subst o;refine AE rfl ?_;exact AA ⟨rfl,rfl,rfl⟩))<;>refine At rfl rfl rfl rfl (At rfl rfl rfl rfl (At rfl rfl rfl rfl ?_))<;>(refine D_R rfl rfl (fun W o=>Ah rfl dz) ?_)<;>(refine D_R rfl rfl (fun W o=>Ah rfl dz) ?_)<;>(refine D_R rfl rfl (fun W o=>Ah rfl dz) ?_)<;>(refine D_R rfl rfl (fun W o=>Ah rfl dz) ?_)<;>(refine D_R rfl rfl (fun W o=>Ah rfl dz) ?_)<;>(refine D_R rfl rfl (fun W o=>Ah rfl dz) ?_)<;>(refine D_R rfl rfl (fun W o=>Ah rfl dz) ?_)<;>(refine D_R rfl rfl (fun W o=>Ah rfl dz) ?_)<;>(refine D_R rfl rfl (fun W o=>Ah rfl dz) ?_)<;>(refine D_R rfl rfl (fun W o=>Ah rfl dz) ?_)<;>refine At rfl rfl rfl rfl ?_<;>(apply D_R rfl rfl;(intro W o;subst o;(refine Ae rfl ?_;refine AE rfl ?_);exact AA ⟨rfl,rfl,rfl⟩))<;>refine Bc ?_)
  have b:BM t a=true:=by unfold BM;simp[n]
  exact E8
 ·by_cases d:1<Ao Au t a-a
  ·by_cases z:c0.toNat=48
   ·((apply D_R rfl rfl;(intro W o;subst o;refine AS rfl ?_;exact AA ⟨rfl,rfl,rfl⟩))<;>(refine D_gtr rfl rfl rfl rfl (fun T=>?_) (fun T=>?_)<;>try omega)<;>(apply D_R rfl rfl;(intro W o;subst o;refine AE rfl ?_;exact AA ⟨rfl,rfl,rfl⟩))<;>(apply D_R rfl rfl;(intro W o;subst o;(refine AK rfl ?_;refine AS rfl ?_);exact AA ⟨rfl,rfl,rfl⟩))<;>(refine D_gtr rfl rfl rfl rfl (fun T=>?_) (fun T=>?_)<;>try omega)<;>(apply D_R rfl rfl;(intro W o;subst o;(refine AK rfl ?_;refine AE rfl ?_);exact AA ⟨rfl,rfl,rfl⟩))<;>(apply D_R rfl rfl;(intro W o;subst o;(refine AK rfl ?_;refine AX rfl ?_);exact AA ⟨rfl,rfl,rfl⟩))<;>(apply D_R rfl rfl;(intro W o;subst o;(refine AK rfl ?_;refine AG rfl ?_);exact AA ⟨rfl,rfl,rfl⟩))<;>(apply D_R rfl rfl;(intro W o;subst o;(refine AK rfl ?_;refine AB rfl ?_);exact AA ⟨rfl,rfl,rfl⟩))<;>(apply D_R rfl rfl;(intro W o;subst o;(refine AK rfl ?_;refine AH rfl (Blk.cell ER EQ) ?_);exact AA ⟨rfl,rfl,rfl⟩))<;>(apply D_R rfl rfl;(intro W o;subst o;(refine AK rfl ?_;refine AX rfl ?_);exact AA ⟨rfl,rfl,rfl⟩))<;>(apply D_R rfl rfl;(intro W o;subst o;(refine AK rfl ?_;refine AG rfl ?_);exact AA ⟨rfl,rfl,rfl⟩))<;>(apply D_R rfl rfl;(intro W o;subst o;(refine AK rfl ?_;refine AB rfl ?_);exact AA ⟨rfl,rfl,rfl⟩))<;>(apply D_R rfl rfl;(intro W o;subst o;(refine AK rfl ?_;refine AH rfl (Blk.cell ER EQ) ?_);exact AA ⟨rfl,rfl,rfl⟩))<;>(apply D_R rfl rfl;(intro W o;subst o;(refine AK rfl ?_;refine Dm rfl rfl ER ?_);exact AA ⟨rfl,rfl,rfl⟩))<;>(refine D_eql rfl rfl rfl rfl (fun T=>?_) (fun T=>?_)<;>try omega)<;>(apply D_R rfl rfl;(intro W o;subst o;(refine AK rfl ?_;(refine Ae rfl ?_;refine AE rfl ?_));exact AA ⟨rfl,rfl,rfl⟩))<;>(apply D_R rfl rfl;(intro W o;subst o;(refine Ad rfl ?_;refine AE rfl ?_);exact AA ⟨rfl,rfl,rfl⟩))<;>refine Bc ?_)
    have b:BM t a=true:=by unfold BM;rw[EA Z];simp[d,z]
    exact E8
   ·have i:(decide (1<Ao Au t a-a)&&decide ((t.getD a 0).toNat=48))=false:=by rw[EA Z];simp[z]
    refine go ?_;by_cases c:Ao Au t a<t.length
    ·have H:t[Ao Au t a]?=some t[Ao Au t a]:=List.getElem?_eq_getElem c;generalize t[Ao Au t a]=c1 at H;have q:=EA H;refine go ?_;refine AF (let_ok c1 _) rfl ?_;rintro v N⟨rfl,rfl⟩;cases hlet:Ch c1 with
     |true=>
      have b:BM t a=true:=by unfold BM;rw[q];simp[c,hlet]
      (refine AK rfl (AE rfl (Ah rfl (Ah rfl (Ah rfl (Ah rfl (Ah rfl (Ah rfl (Ah rfl ?_))))))))<;>(refine AK rfl ?_;(refine Ae rfl ?_;refine AE rfl ?_))<;>refine Ae rfl (AE rfl ?_))
      exact E8
     |false=>
      by_cases j:c1.toNat=95
      ·have b:BM t a=true:=by unfold BM;rw[q];simp[c,j]
       (refine AK rfl (AE rfl (AK rfl (AX rfl (AK rfl (AG rfl (AK rfl (AB rfl ?_)))))))<;>(refine AK rfl ?_;refine AH rfl (Blk.cell ER EQ) ?_)<;>refine AK rfl (AS rfl (AK rfl ?_))<;>refine Dm rfl rfl ER ?_<;>(refine AK rfl ?_;(refine Bf rfl rfl (fun T=>?_) (fun T=>?_)<;>try omega))<;>(refine AK rfl ?_;(refine Ad rfl ?_;refine AE rfl ?_))<;>refine Ae rfl (AE rfl ?_))
       exact E8
      ·have b:BM t a=false:=by
        unfold BM;rw[q,i,hlet,decide_eq_false n,decide_eq_false j];simp
       refine go ?_;have e:EI t a ts=C8 t a ts 2 (Ao Au t a):=by unfold EI;rw[if_neg];simp only[b];simp
       rw[e];refine Ag (addS y _ s a _ t ts 2 B U C) rfl ?_ ?_
       ·exact Fv
       ·exact Gk
    ·have b:BM t a=false:=by
      unfold BM;rw[i,decide_eq_false n,decide_eq_false c];simp
     refine go ?_;have e:EI t a ts=C8 t a ts 2 (Ao Au t a):=by unfold EI;rw[if_neg];simp only[b];simp
     rw[e];refine Ag (addS y _ s a _ t ts 2 B U C) rfl ?_ ?_
     ·exact Fv
     ·exact Gk
  ·have i:(decide (1<Ao Au t a-a)&&decide ((t.getD a 0).toNat=48))=false:=by simp[d]
   refine go ?_;by_cases c:Ao Au t a<t.length
   ·have H:t[Ao Au t a]?=some t[Ao Au t a]:=List.getElem?_eq_getElem c;generalize t[Ao Au t a]=c1 at H;have q:=EA H;refine go ?_;refine AF (let_ok c1 _) rfl ?_;rintro v N⟨rfl,rfl⟩;cases hlet:Ch c1 with
    |true=>
     have b:BM t a=true:=by unfold BM;rw[q];simp[c,hlet]
     (refine AK rfl (AE rfl (Ah rfl (Ah rfl (Ah rfl (Ah rfl (Ah rfl (Ah rfl (Ah rfl ?_))))))))<;>(refine AK rfl ?_;(refine Ae rfl ?_;refine AE rfl ?_))<;>refine Ae rfl (AE rfl ?_))
     exact E8
    |false=>
     by_cases j:c1.toNat=95
     ·have b:BM t a=true:=by unfold BM;rw[q];simp[c,j]
      (refine AK rfl (AE rfl (AK rfl (AX rfl (AK rfl (AG rfl (AK rfl (AB rfl ?_)))))))<;>(refine AK rfl ?_;refine AH rfl (Blk.cell ER EQ) ?_)<;>refine AK rfl (AS rfl (AK rfl ?_))<;>refine Dm rfl rfl ER ?_<;>(refine AK rfl ?_;(refine Bf rfl rfl (fun T=>?_) (fun T=>?_)<;>try omega))<;>(refine AK rfl ?_;(refine Ad rfl ?_;refine AE rfl ?_))<;>refine Ae rfl (AE rfl ?_))
      exact E8
     ·have b:BM t a=false:=by
       unfold BM;rw[q,i,hlet,decide_eq_false n,decide_eq_false j];simp
      refine go ?_;have e:EI t a ts=C8 t a ts 2 (Ao Au t a):=by unfold EI;rw[if_neg];simp only[b];simp
      rw[e];refine Ag (addS y _ s a _ t ts 2 B U C) rfl ?_ ?_
      ·exact Fv
      ·exact Gk
   ·have b:BM t a=false:=by
     unfold BM;rw[i,decide_eq_false n,decide_eq_false c];simp
    refine go ?_;have e:EI t a ts=C8 t a ts 2 (Ao Au t a):=by unfold EI;rw[if_neg];simp only[b];simp
    rw[e];refine Ag (addS y _ s a _ t ts 2 B U C) rfl ?_ ?_
    ·exact Fv
    ·exact Gk
def symsL:List (LU):=[[45,62],[33,61],[40],[41],[123],[125],[91],[93],[44],[59],[58],[61],[33],[38],[124]]
def spansL:List (Nat×Nat×Nat):=[(32,32,0),(9,10,0),(13,13,0),(37,37,1),(97,122,2),(65,90,2),(48,57,3),(40,41,4),(123,125,4),(91,91,4),(93,93,4),(44,45,4),(58,59,4),(61,61,4),(33,33,4),(38,38,4)]
def symC:LV:=symsL.map AL
def spanC1(p:Nat×Nat×Nat):LV:=[.int .u8 (p.1:Int),.int .u8 (p.2.1:Int),iV (p.2.2:Int)]
def spanC:LV:=spansL.flatMap spanC1
structure GV(w:World):Prop where
 spans:Cells w 1 0 spanC
 syms:Cells w 3 0 symC
 size:10<=w.heap.size
theorem GV.E{X:List Nat}{w w':World}(h:GV w)(k:Keep X w w')(t:1∉X)(Z:3∉X):GV w':=⟨h.spans.E k t,h.syms.E k Z,Nat.le_trans h.size k.size⟩
theorem GV.ext{w w':World}(h:GV w)(k:Ext w w'):GV w':=h.E k O O
def symM(t:LU)(a:Nat)(ts:List Tok):Res:=
 match symsL.find? (CC (t.drop a))with
 |some y=>C8 t a ts 3 (a+y.length)
 |none=>.error (40,a)
theorem find_step{α:Type}{p:α->Bool}{l:List α}{k:Nat}{y:α}(h:l[k]?=some y):(l.drop k).find? p=if p y=true then some y else(l.drop (k+1)).find? p:=by
 obtain⟨Z,W⟩:=List.getElem?_eq_some_iff.1 h;rw[List.drop_eq_getElem_cons Z,W,List.find?_cons];cases p y<;>rfl
theorem symbol_ok(b w:World)(s a:Nat)(t:LU)(ts:List Tok)(h:St b w s t a ts)(Z:a<t.length)(X:GV b)(B:10<=s):FnS 195 [pt s] w b s t (symM t a ts):=by
 have g:GV w:=X.E h.E EP EP;refine Az Tryz.func195 rfl Tryz.ntmps195 nlr EO (go ?_);refine AQ rfl rfl g.syms (go ?_);refine Ar (α:=Nat) (fun k=>[(0,pt s),(4,.agg symC.toArray),(5,iV (k:Int))]) (fun k Q=>k<=15/\Ext w Q/\symsL.find? (CC (t.drop a))=(symsL.drop k).find? (CC (t.drop a))) (fun k=>15-k) 0 ⟨rfl,rfl,rfl,trivial⟩ ⟨by omega,Ext.refl _,rfl⟩ ?_;rintro k Q l⟨L,f,P⟩;have T:=h.ext f;repeat refine nx rfl ?_
 by_cases x:k<15
 ·have E:symsL[k]?=some symsL[k]:=List.getElem?_eq_getElem x;generalize symsL[k]=y at E;have m:symC[k]?=some (AL y):=by unfold symC;rw[List.getElem?_map,E];rfl
  rw[find_step E]at P;(refine AJ ?_<;>(refine C6 rfl rfl (fun c=>?_) (fun c=>?_)<;>try omega))
  repeat refine nx rfl ?_
  (refine AJ ?_;refine W_vidx1 rfl rfl x m ?_;refine AO ?_;refine BC rfl ?_;refine AA ?_)
  repeat refine nx rfl ?_
  refine Ac (rd 0 10 (.alt 10 .done .stop)) Ap EO (fun q d H=>⟨fun W=>W=q,?_,?_⟩)
  ·rfl
  obtain⟨n,F,K,D,I,tv,S,i⟩:=id T;have p:=S.E d O;((apply D_R rfl rfl;(intro W o;subst o;refine AX rfl ?_;exact AA ⟨rfl,rfl,rfl⟩))<;>(apply D_R rfl rfl;(intro W o;subst o;refine AG rfl ?_;exact AA ⟨rfl,rfl,rfl⟩))<;>(apply D_R rfl rfl;(intro W o;subst o;refine AB rfl ?_;exact AA ⟨rfl,rfl,rfl⟩))<;>(apply D_R rfl rfl;(intro W o;subst o;refine AH rfl (Blk.cell ER EQ) ?_;exact AA ⟨rfl,rfl,rfl⟩))<;>(apply D_R rfl rfl;(intro W o;subst o;refine AX rfl ?_;exact AA ⟨rfl,rfl,rfl⟩))<;>(apply D_R rfl rfl;(intro W o;subst o;refine AG rfl ?_;exact AA ⟨rfl,rfl,rfl⟩))<;>(apply D_R rfl rfl;(intro W o;subst o;refine AB rfl ?_;exact AA ⟨rfl,rfl,rfl⟩))<;>(apply D_R rfl rfl;(intro W o;subst o;refine AH rfl (Blk.cell ER EQ) ?_;exact AA ⟨rfl,rfl,rfl⟩))<;>(apply D_R rfl rfl;(intro W o;subst o;refine W_sslice_l rfl rfl U ?_;exact AA ⟨rfl,rfl,rfl⟩))<;>(apply D_R rfl rfl;(intro W o;subst o;refine BC rfl ?_;exact AA ⟨rfl,rfl,rfl⟩)))
  refine D_E rfl ?_;refine AF (pre_ok _ _ _) rfl ?_;rintro v N⟨rfl,rfl⟩;refine AA ⟨fun W=>W=_,fun _ h=>h,rfl,?_⟩;refine Bc ?_;cases hp:CC (t.drop a) y with
  |true=>
   rw[hp,if_pos rfl]at P;have j:=((DL _ _).1 hp).length_le;simp at j;repeat refine nx rfl ?_
   (refine AJ (AX rfl (AX rfl (AG rfl (AB rfl ?_))))<;>refine AH rfl (Blk.cell ER EQ) ?_<;>refine BC rfl (Cz rfl ?_)<;>refine W_add rfl rfl Ea ?_)
   have e:symM t a ts=C8 t a ts 3 (a+y.length):=by unfold symM;rw[P]
   rw[e];refine Ag (addS b _ s a (a+y.length) t ts 3 (T.ext d) U U) (by rw[Int.natCast_add];rfl) ?_ ?_
   ·rintro v N⟨rfl,M⟩;repeat refine nx rfl ?_
    exact fin_ret0 rfl ⟨rfl,M⟩
   ·intro V N M;repeat refine nx rfl ?_
    exact Ab M
  |false=>
   rw[hp,if_neg O]at P;repeat first|refine nx rfl ?_|refine nf rfl ?_
   (refine AJ ?_<;>refine W_add rfl rfl Ea ?_<;>refine AS rfl ?_)
   repeat refine nx rfl ?_
   refine⟨k+1,⟨rfl,⟨rfl,rfl,?_,trivial⟩,⟨by omega,f.trans d,P⟩⟩,by omega⟩;show iV ((k:Int)+1)=_;rw[Int.natCast_add];rfl
 ·obtain⟨n,F,K,D,I,tv,S,i⟩:=id T;(refine AJ ?_<;>(refine C6 rfl rfl (fun c=>?_) (fun c=>?_)<;>try omega))
  repeat first|refine nx rfl ?_|refine nf rfl ?_
  (refine AJ (AX rfl (AG rfl (AB rfl ?_)))<;>refine AH rfl (Blk.cell ER EQ) ?_<;>refine BO EQ EQ ?_<;>refine Db (Ds rfl ?_))
  repeat refine nx rfl ?_
  refine Ab ⟨_,_,?_,rfl,n⟩;unfold symM;have C:symsL.drop k=[]:=List.drop_eq_nil_of_le (by show 15<=k;omega);rw[P,C];rfl
def inSpan(c:UInt8)(p:Nat×Nat×Nat):Bool:=decide (p.1<=c.toNat)&&decide (c.toNat<=p.2.1)
def Df(c:UInt8):Option Nat:=(spansL.find? (inSpan c)).map (·.2.2)
def BU(t:LU)(a:Nat)(ts:List Tok):Res:=
 match Df (t.getD a 0)with
 |some 0=>blankM a ts
 |some 1=>commM t a ts
 |some 2=>EN t a ts
 |some 3=>EI t a ts
 |some _=>symM t a ts
 |none=>.error (40,a)
def scanF(t:LU):Nat->Nat->List Tok->Res
 |0,a,_=>.error (40,a)
 |n+1,a,ts=>if a<t.length then(match BU t a ts with| .ok (a',ts')=>scanF t n a' ts'| .error e=>.error e)else .ok (a,ts)
def scanR(t:LU):Res:=scanF t (t.length+1) 0 []
theorem DG{t:LU}{a n Z:Nat}{ts ts':List Tok}{k:Int}(h:C8 t a ts k n=.ok (Z,ts')):Z=n:=by
 unfold C8 at h
 split at h
 ·cases h
 ·cases h;rfl
theorem kindB_dig{c:UInt8}(h:Df c=some 3):Au c=true:=by
 unfold Df at h;obtain⟨p,y,L⟩:=Option.map_eq_some_iff.1 h;have Z:=List.find?_some y;have W:=List.mem_of_find?_eq_some y;simp[spansL]at W;rcases W with rfl|rfl|rfl|rfl|rfl|rfl|rfl|rfl|rfl|rfl|rfl|rfl|rfl|rfl|rfl|rfl<;>simp at L;simpa[inSpan,Au]using Z
theorem kindB_comm{c:UInt8}(h:Df c=some 1):BQ c=true:=by
 unfold Df at h;obtain⟨p,y,L⟩:=Option.map_eq_some_iff.1 h;have Z:=List.find?_some y;have W:=List.mem_of_find?_eq_some y;simp[spansL]at W;rcases W with rfl|rfl|rfl|rfl|rfl|rfl|rfl|rfl|rfl|rfl|rfl|rfl|rfl|rfl|rfl|rfl<;>simp at L;simp[inSpan]at Z;simp[BQ];omega
theorem step_on{t:LU}{a Z:Nat}{ts ts':List Tok}(K:a<t.length)(h:BU t a ts=.ok (Z,ts')):a<Z:=by
 have T:t[a]?=some t[a]:=List.getElem?_eq_getElem K;generalize t[a]=c at T;unfold BU at h;rw[EA T]at h
 split at h
 ·cases h;omega
 ·cases h;rw[Bp T (kindB_comm ER)];have:=CK BQ t (a+1);omega
 ·unfold EN at h
  split at h
  ·cases h
  ·have:=DG h;have:=CK BD t (a+1);omega
 ·unfold EI at h
  split at h
  ·cases h
  ·have:=DG h;rw[Bp T (kindB_dig ER)]at this;have:=CK Au t (a+1);omega
 ·unfold symM at h
  split at h
  ·rename_i y hy;have W:=List.mem_of_find?_eq_some hy;have:=DG h;have N:∀y∈symsL,1<=y.length:=by decide
   have:=N y W;omega
  ·cases h
 ·cases h
theorem spanC_at:∀(l:List (Nat×Nat×Nat))(k:Nat)(p:Nat×Nat×Nat),l[k]?=some p->((l.flatMap spanC1).drop (k*3)).take 3=spanC1 p
 | [],k,p,h=>by simp at h
 |q::l,0,p,h=>by simp at h;subst h;simp[spanC1]
 |q::l,k+1,p,h=>by
  have:=spanC_at l k p Ed;rw[<-this,List.flatMap_cons,List.drop_append,List.drop_eq_nil_of_le (by simp[spanC1];omega),List.nil_append]
  congr 2
  simp[spanC1];omega
def fnC(s:Nat):LV:=[.func (.func 191) #[pt s] #[],.func (.func 192) #[pt s] #[],.func (.func 193) #[pt s] #[],.func (.func 194) #[pt s] #[],.func (.func 195) #[pt s] #[]]
theorem scan_ok(w:World)(s:Nat)(t:LU)(S:Blk w s 197 [AL t,iV 0,.slice none 0 0])(hG:GV w)(b5:10<=s)(hl:t.length<=6000):FnS 133 [pt s] w w s t (scanR t):=by
 have hsz:=S.lt;refine Az Tryz.func133 rfl Tryz.ntmps133 nlr EO ?_;repeat refine nx rfl ?_
 (refine AJ (AX rfl (EC rfl rfl (AX rfl (EC rfl rfl (AX rfl (EC rfl rfl (AX rfl (EC rfl rfl (AX rfl (EC rfl rfl ?_))))))))))<;>refine W_buildArr EQ EQ ?_)
 refine AY (fun w1 n1=>?_);refine AI (cs:=fnC s) rfl rfl rfl (by intro u g;simp[fnC]at g;rcases g with rfl|rfl|rfl|rfl|rfl<;>rfl) n1.D (by simp[fnC]) (fun N F=>?_);have a3:Blk N w.heap.size 248 (fnC s):=F.D;have B:Ext w N:=n1.E.E F.E O;have b0:=S.E B O;repeat refine nx rfl ?_
 have a2:=hG.ext B;have b4:St N N s t 0 []:=⟨Keep.refl _ _,by have:=B.size;omega,hl,by omega,by simp,_,b0,⟨rfl,.inl ⟨rfl,rfl⟩⟩⟩;have c0:=a3.lt
 have b1:∀X a b,St N X s t a b->St w X s t a b:=fun X a b h=>by
  obtain⟨hk,hs,hl,ha,hn,tv,S,ho⟩:=h;exact⟨B.any.trans hk fun x hx _=>hx,hsz,hl,ha,hn,tv,S,DI ho B.size⟩
 have A:∀X,Keep [s] N X->Keep [s] w X:=fun X h=>B.any.trans h fun x hx _=>hx;refine Ar (α:=Nat×Nat×List Tok) (fun _=>[(0,pt s),(2,pt w.heap.size)]) (fun x w1=>St N w1 s t x.2.1 x.2.2/\t.length<x.1+x.2.1/\scanF t x.1 x.2.1 x.2.2=scanR t) (fun x=>x.1) (t.length+1,0,[]) ⟨rfl,rfl,trivial⟩ ⟨b4,by simp,rfl⟩ ?_;rintro⟨n,a,b⟩w3 f'⟨E,hn,G⟩;simp only at E hn G⊢;obtain⟨n,rfl⟩:∃m,n=m+1:=⟨n-1,by have:=E.loc;omega⟩;unfold scanF at G;repeat refine nx rfl ?_
 refine Ac (rd 0 10 .done) Ap EO (fun D M ed=>⟨fun W=>W=D,?_,?_⟩)
 ·rfl
 obtain⟨c3,c8,_,b8,c4,d0,a4,c6⟩:=id E;have a0:=a4.E M O;by_cases l:a<t.length
 ·rw[if_pos l]at G;((apply D_R rfl rfl;(intro W o;subst o;refine AX rfl ?_;exact AA ⟨rfl,rfl,rfl⟩))<;>(apply D_R rfl rfl;(intro W o;subst o;refine AG rfl ?_;exact AA ⟨rfl,rfl,rfl⟩))<;>(apply D_R rfl rfl;(intro W o;subst o;refine AB rfl ?_;exact AA ⟨rfl,rfl,rfl⟩))<;>(apply D_R rfl rfl;(intro W o;subst o;refine AH rfl (Blk.cell ER EQ) ?_;exact AA ⟨rfl,rfl,rfl⟩))<;>(apply D_R rfl rfl;(intro W o;subst o;refine AX rfl ?_;exact AA ⟨rfl,rfl,rfl⟩))<;>(apply D_R rfl rfl;(intro W o;subst o;refine AG rfl ?_;exact AA ⟨rfl,rfl,rfl⟩))<;>(apply D_R rfl rfl;(intro W o;subst o;refine AB rfl ?_;exact AA ⟨rfl,rfl,rfl⟩))<;>(apply D_R rfl rfl;(intro W o;subst o;refine AH rfl (Blk.cell ER EQ) ?_;exact AA ⟨rfl,rfl,rfl⟩))<;>(apply D_R rfl rfl;(intro W o;subst o;refine Cz rfl ?_;exact AA ⟨rfl,rfl,rfl⟩))<;>(refine D5 rfl rfl rfl rfl (fun T=>?_) (fun T=>?_)<;>try omega)<;>refine Bc ?_)
  have a1:=E.ext M;have T:t[a]?=some t[a]:=List.getElem?_eq_getElem l;generalize t[a]=c at T;have a7:GV D:=a2.E a1.E EP EP;have a8:Blk D w.heap.size 248 (fnC s):=a3.E a1.E EP;repeat refine nx rfl ?_
  clear a0;refine Ac (rd 0 10 .done) Ap EO (fun D M ed=>⟨fun W=>W=D,?_,?_⟩)
  ·rfl
  have a0:=(a4.E ER O).E M O;((apply D_R rfl rfl;(intro W o;subst o;refine AX rfl ?_;exact AA ⟨rfl,rfl,rfl⟩))<;>(apply D_R rfl rfl;(intro W o;subst o;refine AG rfl ?_;exact AA ⟨rfl,rfl,rfl⟩))<;>(apply D_R rfl rfl;(intro W o;subst o;refine AB rfl ?_;exact AA ⟨rfl,rfl,rfl⟩))<;>(apply D_R rfl rfl;(intro W o;subst o;refine AH rfl (Blk.cell ER EQ) ?_;exact AA ⟨rfl,rfl,rfl⟩))<;>(apply D_R rfl rfl;(intro W o;subst o;refine AX rfl ?_;exact AA ⟨rfl,rfl,rfl⟩))<;>(apply D_R rfl rfl;(intro W o;subst o;refine AG rfl ?_;exact AA ⟨rfl,rfl,rfl⟩))<;>(apply D_R rfl rfl;(intro W o;subst o;refine AB rfl ?_;exact AA ⟨rfl,rfl,rfl⟩))<;>(apply D_R rfl rfl;(intro W o;subst o;refine AH rfl (Blk.cell ER EQ) ?_;exact AA ⟨rfl,rfl,rfl⟩))<;>(apply D_R rfl rfl;(intro W o;subst o;refine Dm rfl rfl ER ?_;exact AA ⟨rfl,rfl,rfl⟩))<;>(apply D_R rfl rfl;(intro W o;subst o;(refine AO ?_;refine AS rfl ?_);exact AA ⟨rfl,rfl,rfl⟩))<;>refine Bc ?_)
  have b6:=a1.ext M;have a6:=a7.ext M;have a9:=a8.E M O;clear a0;repeat refine nx rfl ?_
  (refine AJ ?_;refine AQ rfl rfl a6.spans ?_;refine AS rfl ?_;refine AA ?_)
  repeat refine nx rfl ?_
  have f:BU t a b=match(spansL.find? (inSpan c)).map (·.2.2)with|some 0=>blankM a b|some 1=>commM t a b|some 2=>EN t a b|some 3=>EI t a b|some _=>symM t a b|none=>.error (40,a):=by
   unfold BU;rw[EA T];rfl
  refine Ar (α:=Nat) (fun k=>[(0,pt s),(2,pt w.heap.size),(3,enc8 c),(36,.agg spanC.toArray),(37,iV (k:Int))]) (fun k I=>k<=16/\Ext D I/\spansL.find? (inSpan c)=(spansL.drop k).find? (inSpan c)) (fun k=>16-k) 0 ⟨rfl,rfl,rfl,rfl,rfl,trivial⟩ ⟨by omega,Ext.refl _,rfl⟩ ?_;rintro k I f5⟨hk,Q,j⟩;have h5:=b6.ext Q;repeat refine nx rfl ?_
  by_cases a5:k<16
  ·have y:spansL[k]?=some spansL[k]:=List.getElem?_eq_getElem a5;generalize spansL[k]=p at y;rw[find_step y]at j
   have b3:p.2.2<5:=by
    have:∀p∈spansL,p.2.2<5:=by decide
    exact this p (List.mem_of_getElem? y)
   (refine AJ ?_<;>(refine C6 rfl rfl (fun T=>?_) (fun T=>?_)<;>try omega))
   repeat refine nx rfl ?_
   (refine AJ ?_;refine W_vidx rfl rfl a5 (spanC_at _ _ _ y) ?_;refine AY (fun w6 n6=>?_))
   refine AI (cs:=spanC1 p) rfl rfl rfl (by intro u g;simp[spanC1]at g;rcases g with rfl|rfl|rfl<;>rfl) n6.D (by simp[spanC1]) (fun R p7=>?_);have b7:Blk R I.heap.size 250 (spanC1 p):=p7.D;have L:Ext I R:=n6.E.E p7.E O;have K:=h5.ext L;repeat refine nx rfl ?_
   have hb7:Blk R w.heap.size 248 (fnC s):=(a9.E Q O).E L O;obtain⟨p1,F,C⟩:=p;simp only at b3;replace b7:Blk R I.heap.size 250 [.int .u8 (p1:Int),.int .u8 (F:Int),iV (C:Int)]:=b7;by_cases c1:p1<=c.toNat
   ·by_cases c2:c.toNat<=F
    ·rw[if_pos (by simp[inSpan,c1,c2])]at j;(refine AJ (AB rfl ?_)<;>refine AH rfl (Blk.cell ER EQ) ?_<;>refine AS rfl ?_<;>(refine Cp rfl rfl (fun T=>?_) (fun T=>?_)<;>try omega)<;>refine AE rfl (AK rfl (AS rfl (AK rfl (AB rfl ?_))))<;>(refine AK rfl ?_;refine AH rfl (Blk.cell ER EQ) ?_)<;>(refine AK rfl ?_;(refine Cp rfl rfl (fun T=>?_) (fun T=>?_)<;>try omega))<;>refine Ae rfl (AE rfl ?_))
     repeat refine nx rfl ?_
     obtain rfl|rfl|rfl|rfl|rfl:C=0\/C=1\/C=2\/C=3\/C=4:=by omega
     ·have H:BU t a b=blankM a b:=by rw[f,j];rfl
      (refine AJ (AB rfl ?_)<;>refine AH rfl (Blk.cell ER EQ) ?_<;>refine EH rfl rfl U U ?_<;>refine AH rfl (Blk.cell ER EQ) ?_)
      refine Cs (v1:=[pt s]) (v2:=[]) (vs:=[]) rfl (blank_ok N _ s a t b K l) rfl ?_ ?_
      ·exact FF
      ·exact FP
     ·have H:BU t a b=commM t a b:=by rw[f,j];rfl
      (refine AJ (AB rfl ?_)<;>refine AH rfl (Blk.cell ER EQ) ?_<;>refine EH rfl rfl U U ?_<;>refine AH rfl (Blk.cell ER EQ) ?_)
      refine Cs (v1:=[pt s]) (v2:=[]) (vs:=[]) rfl (comment_ok N _ s a t b K) rfl ?_ ?_
      ·exact FF
      ·exact FP
     ·have H:BU t a b=EN t a b:=by rw[f,j];rfl
      (refine AJ (AB rfl ?_)<;>refine AH rfl (Blk.cell ER EQ) ?_<;>refine EH rfl rfl U U ?_<;>refine AH rfl (Blk.cell ER EQ) ?_)
      refine Cs (v1:=[pt s]) (v2:=[]) (vs:=[]) rfl (scanName_ok N _ s a t b K l) rfl ?_ ?_
      ·exact FF
      ·exact FP
     ·have H:BU t a b=EI t a b:=by rw[f,j];rfl
      (refine AJ (AB rfl ?_)<;>refine AH rfl (Blk.cell ER EQ) ?_<;>refine EH rfl rfl U U ?_<;>refine AH rfl (Blk.cell ER EQ) ?_)
      refine Cs (v1:=[pt s]) (v2:=[]) (vs:=[]) rfl (scanNumber_ok N _ s a t b K l) rfl ?_ ?_
      ·exact FF
      ·exact FP
     ·have H:BU t a b=symM t a b:=by rw[f,j];rfl
      (refine AJ (AB rfl ?_)<;>refine AH rfl (Blk.cell ER EQ) ?_<;>refine EH rfl rfl U U ?_<;>refine AH rfl (Blk.cell ER EQ) ?_)
      refine Cs (v1:=[pt s]) (v2:=[]) (vs:=[]) rfl (symbol_ok N _ s a t b K l a2 b5) rfl ?_ ?_
      ·exact FF
      ·exact FP
    ·rw[if_neg (by simp[inSpan,c2])]at j;(refine AJ (AB rfl ?_)<;>refine AH rfl (Blk.cell ER EQ) ?_<;>refine AS rfl ?_<;>(refine Cp rfl rfl (fun T=>?_) (fun T=>?_)<;>try omega)<;>refine AE rfl (AK rfl (AS rfl (AK rfl (AB rfl ?_))))<;>(refine AK rfl ?_;refine AH rfl (Blk.cell ER EQ) ?_)<;>(refine AK rfl ?_;(refine Cp rfl rfl (fun T=>?_) (fun T=>?_)<;>try omega))<;>refine Ae rfl (AE rfl ?_))
     repeat first|refine nx rfl ?_|refine nf rfl ?_
     (refine AJ ?_<;>refine W_add rfl rfl Ea ?_<;>refine AS rfl ?_)
     repeat refine nx rfl ?_
     refine⟨k+1,⟨rfl,⟨rfl,rfl,rfl,rfl,?_,trivial⟩,⟨by omega,Q.trans L,j⟩⟩,by omega⟩;show iV ((k:Int)+1)=_;rw[Int.natCast_add];rfl
   ·rw[if_neg (by simp[inSpan,c1])]at j;(refine AJ (AB rfl ?_)<;>refine AH rfl (Blk.cell ER EQ) ?_<;>refine AS rfl ?_<;>(refine Cp rfl rfl (fun T=>?_) (fun T=>?_)<;>try omega)<;>refine AE rfl (Ah rfl (Ah rfl (Ah rfl (Ah rfl (Ad rfl (AE rfl ?_)))))))
    repeat first|refine nx rfl ?_|refine nf rfl ?_
    (refine AJ ?_<;>refine W_add rfl rfl Ea ?_<;>refine AS rfl ?_)
    repeat refine nx rfl ?_
    refine⟨k+1,⟨rfl,⟨rfl,rfl,rfl,rfl,?_,trivial⟩,⟨by omega,Q.trans L,j⟩⟩,by omega⟩;show iV ((k:Int)+1)=_;rw[Int.natCast_add];rfl
  ·obtain⟨b2,c9,_,b9,c5,d1,hb6,c7⟩:=id h5;(refine AJ ?_<;>(refine C6 rfl rfl (fun T=>?_) (fun T=>?_)<;>try omega))
   repeat first|refine nx rfl ?_|refine nf rfl ?_
   (refine AJ (AX rfl (AG rfl (AB rfl ?_)))<;>refine AH rfl (Blk.cell ER EQ) ?_<;>refine BO EQ EQ ?_<;>refine Db (Ds rfl ?_))
   repeat refine nx rfl ?_
   have hd:spansL.drop k=[]:=List.drop_eq_nil_of_le (by show 16<=k;omega);rw[hd]at j;rw[f,j]at G;exact Ab ⟨_,_,G.symm,rfl,A _ b2⟩
 ·rw[if_neg l]at G;((apply D_R rfl rfl;(intro W o;subst o;refine AX rfl ?_;exact AA ⟨rfl,rfl,rfl⟩))<;>(apply D_R rfl rfl;(intro W o;subst o;refine AG rfl ?_;exact AA ⟨rfl,rfl,rfl⟩))<;>(apply D_R rfl rfl;(intro W o;subst o;refine AB rfl ?_;exact AA ⟨rfl,rfl,rfl⟩))<;>(apply D_R rfl rfl;(intro W o;subst o;refine AH rfl (Blk.cell ER EQ) ?_;exact AA ⟨rfl,rfl,rfl⟩))<;>(apply D_R rfl rfl;(intro W o;subst o;refine AX rfl ?_;exact AA ⟨rfl,rfl,rfl⟩))<;>(apply D_R rfl rfl;(intro W o;subst o;refine AG rfl ?_;exact AA ⟨rfl,rfl,rfl⟩))<;>(apply D_R rfl rfl;(intro W o;subst o;refine AB rfl ?_;exact AA ⟨rfl,rfl,rfl⟩))<;>(apply D_R rfl rfl;(intro W o;subst o;refine AH rfl (Blk.cell ER EQ) ?_;exact AA ⟨rfl,rfl,rfl⟩))<;>(apply D_R rfl rfl;(intro W o;subst o;refine Cz rfl ?_;exact AA ⟨rfl,rfl,rfl⟩))<;>(refine D5 rfl rfl rfl rfl (fun T=>?_) (fun T=>?_)<;>try omega)<;>refine Bc ?_)
  repeat first|refine nx rfl ?_|refine nf rfl ?_
  exact A1 rfl ⟨rfl,_,_,G.symm,b1 _ _ _ (E.ext M)⟩
theorem rec_ret(w:World)(Q S B:Nat):CallsDIn Fence.wide 0 Zp 132 ([]++[pt Q,pt S,pt B]:LV).toArray .returning w (fun e a w'=>match e with| .returned _=>a=.returning/\Ext w w'|_=>False):=by
 refine Dr (u1:=.returning) (v0:=.nilIface) (G:=fun _ w'=>Ext w w') (args:=[pt Q,pt S,pt B]) Tryz.func132 rfl Tryz.ntmps132 O ET EO EO (.inl ⟨rfl,rfl,rfl⟩) ?_;refine W_assert_nil (z:=.agg #[iV 0,iV 0]) rfl EO (go ?_);refine AY (fun d A=>?_);refine AI (cs:=[iV 0,iV 0]) rfl rfl rfl (by intro u g;simp at g;subst g;rfl) A.D O (fun N c=>?_);have b:Ext w N:=A.E.E c.E O;refine go ?_;exact A1 rfl b
theorem rec_pan(w:World)(Q S B:Nat)(j s r:Value)(e q:Int)(M:Blk w Q 90 [j])(L:Blk w S 28 [s])(R:Blk w B 3 [r])(V:Q≠S)(T:Q≠B)(m:S≠B):
  CallsDIn Fence.wide 0 Zp 132 ([]++[pt Q,pt S,pt B]:LV).toArray (.panicking [{v:=.iface 193 (.agg #[iV e,iV q]),recovered:=false}]) w
   (fun i a w'=>match i with| .returned _=>a=.panicking [{v:=.iface 193 (.agg #[.int .i64 e,.int .i64 q]),recovered:=true}]/\(Keep [Q,S,B] w w'/\Blk w' Q 90 [.slice none 0 0]/\Blk w' S 28 [.int .i64 e]/\Blk w' B 3 [.int .i64 q])|_=>False):=by
 have K:=M.lt;have t:=L.lt;have x:=R.lt
 refine Dr (u1:=.panicking [{v:=.iface 193 (.agg #[iV e,iV q]),recovered:=true}]) (v0:=.iface 193 (.agg #[iV e,iV q]))
  (G:=fun _ w'=>Keep [Q,S,B] w w'/\Blk w' Q 90 [.slice none 0 0]/\Blk w' S 28 [iV e]/\Blk w' B 3 [iV q]) (args:=[pt Q,pt S,pt B]) Tryz.func132 rfl Tryz.ntmps132 O ET EO EO (.inr ⟨_,rfl,rfl,rfl⟩) ?_
 refine W_assert_yes rfl ?_;refine M_tuple rfl (DU rfl rfl (DU rfl rfl ?_));refine AY (fun C A=>?_);refine AI (cs:=[iV e,iV q]) rfl rfl rfl (by intro u g;simp at g;rcases g with rfl|rfl<;>rfl) A.D O (fun N c=>?_);have f:Ext w N:=A.E.E c.E O;have z:Blk N w.heap.size 193 [iV e,iV q]:=c.D;replace M:=M.E f O;replace L:=L.E f O;replace R:=R.E f O;refine go ?_;refine Ac (rd 0 4 (.alt 4 (.alt 5 (.alt 6 .done .stop) .stop) .stop)) Ap EO (fun n b H=>⟨fun W=>W.cell? ⟨w.heap.size,0,none⟩=some (iV e)/\W.cell? ⟨w.heap.size,1,none⟩=some (iV q),?_,?_⟩)
 ·exact⟨(z.E b O).cell rfl,(z.E b O).cell rfl⟩
 have l:∀W:World,(W.cell? ⟨w.heap.size,0,none⟩=some (iV e)/\W.cell? ⟨w.heap.size,1,none⟩=some (iV q))->W.cell? ⟨w.heap.size,0,none⟩=some (iV e):=fun W h=>h.1;have y:∀W:World,(W.cell? ⟨w.heap.size,0,none⟩=some (iV e)/\W.cell? ⟨w.heap.size,1,none⟩=some (iV q))->W.cell? ⟨w.heap.size,1,none⟩=some (iV q):=fun W h=>h.2;replace z:=z.E b O;replace M:=M.E b O;replace L:=L.E b O;replace R:=R.E b O;have k:Keep [Q,S,B] w n:=(f.trans b).any;((refine D_R rfl rfl (fun W o=>AB rfl dz) ?_)<;>(refine D_R rfl rfl (fun W o=>AH rfl (l W o) dz) ?_)<;>(refine D_R rfl rfl (fun W o=>AB rfl dz) ?_)<;>(refine D_R rfl rfl (fun W o=>AH rfl (y W o) dz) ?_))
 refine D_E rfl ?_;refine AU rfl rfl rfl M O (fun W p=>?_);have d:=p.D;replace L:=L.E p.E EP;replace R:=R.E p.E EP;replace z:=z.E p.E EP;replace k:=k.trans p.E O;clear M;have M:=d;clear d p;refine wNl (⟨z.cell rfl,z.cell rfl⟩) ?_;refine D_E rfl ?_;refine AU rfl rfl rfl L O (fun W p=>?_);have d:=p.D;replace M:=M.E p.E EP;replace R:=R.E p.E EP;replace z:=z.E p.E EP;replace k:=k.trans p.E O;clear L;have L:=d;clear d p;refine wNl (⟨z.cell rfl,z.cell rfl⟩) ?_;refine D_E rfl ?_;refine AU rfl rfl rfl R O (fun W p=>?_);have d:=p.D;replace M:=M.E p.E EP;replace L:=L.E p.E EP;replace z:=z.E p.E EP;replace k:=k.trans p.E O;clear R;have R:=d;clear d p;refine wNl (⟨z.cell rfl,z.cell rfl⟩) ?_;refine go ?_;exact A1 rfl ⟨k,M,L,R⟩
def EE(t:LU):Except (Int×Nat) (List Tok):=
 if 6000<t.length then .error (2,6000)else match scanR t with| .ok r=>.ok r.2| .error e=>.error e
def LexAns(B:Nat)(w':World)(m:Except (Int×Nat) (List Tok))(tv:Value)(e q:Int):Prop:=
 match m with
 | .ok ts=>e=0/\q= -1/\w'.ownsRow B 170 3 tv ts.length (Dk ts)
 | .error (e',p)=>e=e'/\q=(p:Int)/\tv=.slice none 0 0
theorem lex_ok(w:World)(t:LU)(hG:GV w):Fn Zp 72 [AL t] w fun v w'=>∃tv e q,v=.tuple #[tv,iV e,iV q]/\Ext w w'/\LexAns w.heap.size w' (EE t) tv e q:=by
 have h2:=hG.size;refine DC Tryz.func72 rfl Tryz.ntmps72 nlr EO (go ?_);refine AY (fun Q Z=>?_);refine AY (fun N W=>?_);refine AY (fun z o=>?_);have z1:=Z.size;have z2:=W.size;have z3:=o.size;have F:Blk z w.heap.size 90 [.slice none 0 0]:=(Z.D.E W.E O).E o.E O;have j:Blk z Q.heap.size 28 [iV 0]:=W.D.E o.E O;have G:Blk z N.heap.size 3 [iV 0]:=o.D;have i:Ext w z:=(Z.E.trans W.E).trans o.E;refine go ?_;by_cases h:6000<t.length
 ·refine go ?_;refine AU rfl rfl rfl F O (fun E C=>?_);refine AU rfl rfl rfl (j.E C.E EP) O (fun f A=>?_);refine AU rfl rfl rfl ((G.E C.E EP).E A.E EP) O (fun x n=>?_);have B:Blk x w.heap.size 90 [.slice none 0 0]:=(C.D.E A.E EP).E n.E EP;have l:Blk x Q.heap.size 28 [iV 2]:=A.D.E n.E EP;have S:Blk x N.heap.size 3 [iV 6000]:=n.D;have k6:Ext w x:=((i.E C.E O).E A.E EP).E n.E EP;refine go ?_;refine BF (A7 rfl (B.cell rfl) (A7 rfl (l.cell rfl) (A7 rfl (S.cell rfl) ?_)));refine⟨_,_,_,rfl,k6,?_⟩;unfold EE;rw[if_pos h];exact⟨rfl,rfl,rfl⟩
 ·refine go ?_;refine W_defer (v1:=[]) (v2:=[pt w.heap.size,pt Q.heap.size,pt N.heap.size]) (vs:=[]) rfl rfl (go ?_);refine A3 (L:=[AL t,iV 0,.slice none 0 0]) rfl (fun E d=>?_);have z4:=d.size;have s4:=d.D;have c:Ext w E:=i.trans d.E;refine go ?_;have s:EE t=match scanR t with| .ok r=>.ok r.2| .error e=>.error e:=by unfold EE;rw[if_neg h]
  refine Ag (scan_ok E z.heap.size t s4 (hG.ext c) U U) rfl ?_ ?_
  ·rintro v f⟨rfl,a,ts,P,h5⟩;obtain⟨M,a5,_,a2,a4,tv,a3,R⟩:=h5;refine go ?_;have b:Blk f w.heap.size 90 [.slice none 0 0]:=(F.E d.E O).E M EP;have H:Blk f Q.heap.size 28 [iV 0]:=(j.E d.E O).E M EP;have I:Blk f N.heap.size 3 [iV 0]:=(G.E d.E O).E M EP
   obtain⟨X,D,rfl⟩:∃X D,tv=.slice X ts.length D:=by
    rcases R.2 with⟨rfl,h0⟩|⟨g,a0,a1,rfl,_⟩
    ·exact⟨none,0,by rw[h0]⟩
    ·exact Gq
   refine AU rfl rfl rfl b O (fun x n=>?_);refine AU rfl rfl rfl (H.E n.E EP) O (fun w7 u=>?_);refine AU rfl rfl rfl ((I.E n.E EP).E u.E EP) O (fun m y=>?_);have B:Blk m w.heap.size 90 [.slice X ts.length D]:=(n.D.E u.E EP).E y.E EP;have l:Blk m Q.heap.size 28 [iV 0]:=u.D.E y.E EP;have S:Blk m N.heap.size 3 [iV (-1)]:=y.D;have T:Ext w f:=c.E M EP;have k8:Ext w m:=((T.E n.E O).E u.E EP).E y.E EP;have K:∀g,(Value.slice X ts.length D).ownBlock=some g->E.heap.size<=g:=fun g k=>(An R k).1;have o8:=Ai (Ai (Ai R n.E fun g k=>by have:=K g k;simp;omega) u.E fun g k=>by have:=K g k;simp;omega) y.E fun g k=>by have:=K g k;simp;omega
   refine go ?_;refine finD_ret_def (rec_ret _ _ _ _) fun w9 V=>?_;refine A7 rfl ((B.E V O).cell rfl) (A7 rfl ((l.E V O).cell rfl) (A7 rfl ((S.E V O).cell rfl) ?_));refine⟨_,_,_,rfl,k8.trans V,?_⟩;rw[s,P];exact⟨rfl,rfl,DI (As o8 V) c.size⟩
  ·rintro ch f⟨e,p,P,rfl,M⟩;refine go ?_;have b:Blk f w.heap.size 90 [.slice none 0 0]:=(F.E d.E O).E M EP;have H:Blk f Q.heap.size 28 [iV 0]:=(j.E d.E O).E M EP;have I:Blk f N.heap.size 3 [iV 0]:=(G.E d.E O).E M EP;have T:Ext w f:=c.E M EP;refine finD_pan_def (rec_pan _ _ _ _ _ _ _ e (p:Int) b H I U U U) fun w9 h9=>?_;obtain⟨V,B,l,S⟩:=h9;refine A7 rfl (B.cell rfl) (A7 rfl (l.cell rfl) (A7 rfl (S.cell rfl) ?_));refine⟨_,_,_,rfl,T.E V EP,?_⟩;rw[s,P];exact⟨rfl,rfl,rfl⟩
def Toks(w:World)(a:Option Addr)(c:Nat)(ts:List Tok):Prop:=Sl Af w (.slice a ts.length c) ts.length (Dk ts)
theorem addM_err{t:LU}{a n p:Nat}{ts:List Tok}{k e:Int}(h:C8 t a ts k n=.error (e,p)):e=2/\p=a/\ts.length=2000:=by
 unfold C8 at h
 split at h
 ·cases h;exact⟨rfl,rfl,by assumption⟩
 ·cases h
theorem stepM_err{t:LU}{a p:Nat}{ts:List Tok}{e:Int}(h:BU t a ts=.error (e,p)):p=a/\(e=40\/e=2/\ts.length=2000):=by
 unfold BU at h
 split at h
 ·cases h
 ·cases h
 ·unfold EN at h
  split at h
  ·cases h;exact⟨rfl,.inl rfl⟩
  ·obtain⟨Z,W,R⟩:=addM_err h;exact⟨W,.inr ⟨Z,R⟩⟩
 ·unfold EI at h
  split at h
  ·cases h;exact⟨rfl,.inl rfl⟩
  ·obtain⟨Z,W,R⟩:=addM_err h;exact⟨W,.inr ⟨Z,R⟩⟩
 ·unfold symM at h
  split at h
  ·obtain⟨Z,W,R⟩:=addM_err h;exact⟨W,.inr ⟨Z,R⟩⟩
  ·cases h;exact⟨rfl,.inl rfl⟩
 ·cases h;exact⟨rfl,.inl rfl⟩
theorem scanF_err(t:LU):∀(n a:Nat)(ts:List Tok)(e:Int)(p:Nat),scanF t n a ts=.error (e,p)->e≠0
 |0,a,ts,e,p,h=>by unfold scanF at h;cases h;decide
 |n+1,a,ts,e,p,h=>by
  unfold scanF at h
  split at h
  ·cases hs:BU t a ts with
   |ok r=>rw[hs]at h;exact scanF_err t n _ _ e p h
   |error r=>
    rw[hs]at h;cases h;rcases(stepM_err hs).2 with rfl|⟨rfl,_⟩<;>decide
  ·cases h
theorem lexM_err{t:LU}{e:Int}{p:Nat}(h:EE t=.error (e,p)):e≠0:=by
 unfold EE at h
 split at h
 ·cases h;decide
 ·cases hs:scanR t with
  |ok r=>rw[hs]at h;cases h
  |error r=>rw[hs]at h;cases h;exact scanF_err t _ _ _ _ _ hs
theorem addM_le{t:LU}{a n Z:Nat}{ts ts':List Tok}{k:Int}(h:C8 t a ts k n=.ok (Z,ts')):ts'=ts++[⟨k,(t.take n).drop a,a⟩]/\ts.length≠2000:=by
 unfold C8 at h
 split at h
 ·cases h
 ·cases h;exact⟨rfl,by assumption⟩
theorem step_le{t:LU}{a Z:Nat}{ts ts':List Tok}(K:a<t.length)(h:BU t a ts=.ok (Z,ts')):Z<=t.length:=by
 unfold BU at h
 split at h
 ·cases h;omega
 ·cases h;exact Bv U
 ·unfold EN at h
  split at h
  ·cases h
  ·have:=DG h;have:=Bv (p:=BD) (t:=t) (a:=a+1) U;omega
 ·unfold EI at h
  split at h
  ·cases h
  ·have:=DG h;have:=Bv (p:=Au) (t:=t) (a:=a) U;omega
 ·unfold symM at h
  split at h
  ·rename_i y hy;have W:=List.find?_some hy;have:=DG h;have:=((DL _ _).1 W).length_le;simp at this;omega
  ·cases h
 ·cases h
theorem scanF_fuel(t:LU):∀(n m a:Nat)(ts:List Tok),a<=t.length->t.length<n+a->t.length<m+a->scanF t n a ts=scanF t m a ts
 |0,_,_,_,h,h1,_=>by omega
 |_,0,_,_,h,_,h2=>by omega
 |n+1,m+1,a,ts,h,h1,h2=>by
  unfold scanF
  split
  ·cases hs:BU t a ts with
   |ok r=>
    have b:=step_on ER hs;have c:=step_le ER hs;exact scanF_fuel t n m r.1 r.2 c U U
   |error e=>rfl
  ·rfl
def scanW(t:LU)(a:Nat)(ts:List Tok):Res:=scanF t (t.length+1-a) a ts
theorem scanW_end{t:LU}{ts:List Tok}:scanW t t.length ts=.ok (t.length,ts):=by
 unfold scanW;rw[show t.length+1-t.length=0+1 by omega];unfold scanF;rw[if_neg U]
theorem Di{t:LU}{a:Nat}{ts:List Tok}(h:a<t.length):scanW t a ts=match BU t a ts with| .ok r=>scanW t r.1 r.2| .error e=>.error e:=by
 unfold scanW;rw[show t.length+1-a=(t.length-a)+1 by omega]
 conv=>lhs;unfold scanF
 rw[if_pos h];cases hs:BU t a ts with
 |ok r=>
  have b:=step_on h hs;have c:=step_le h hs;exact scanF_fuel t _ _ r.1 r.2 c U U
 |error e=>rfl
theorem scanR_eq(t:LU):scanR t=scanW t 0 []:=rfl
theorem lexM_of{t:LU}(h:t.length<=6000):EE t=match scanW t 0 []with| .ok r=>.ok r.2| .error e=>.error e:=by
 unfold EE;rw[if_neg U,scanR_eq]<;>cases scanW t 0 []<;>rfl
inductive Reach1(t:LU):Nat->List Tok->Nat->List Tok->Prop
 |refl (a:Nat) (ts:List Tok):Reach1 t a ts a ts
 |step {a a1 b:Nat} {ts ts1 tsb:List Tok} (h:a<t.length) (hs:BU t a ts=.ok (a1,ts1)) (hr:Reach1 t a1 ts1 b tsb):Reach1 t a ts b tsb
theorem step_shape{t:LU}{a B:Nat}{ts Q:List Tok}(h:BU t a ts=.ok (B,Q)):Q=ts\/∃k,Q=ts++[⟨k,(t.take B).drop a,a⟩]:=by
 unfold BU at h
 split at h
 ·cases h;exact .inl rfl
 ·cases h;exact .inl rfl
 ·unfold EN at h
  split at h
  ·cases h
  ·have e:=DG h;subst e;exact .inr ⟨_,(addM_le h).1⟩
 ·unfold EI at h
  split at h
  ·cases h
  ·have e:=DG h;subst e;exact .inr ⟨_,(addM_le h).1⟩
 ·unfold symM at h
  split at h
  ·have e:=DG h;subst e;exact .inr ⟨_,(addM_le h).1⟩
  ·cases h
 ·cases h
theorem reach_of_scan{t:LU}:∀(m a:Nat)(ts:List Tok),t.length-a<=m->a<=t.length->
  (∃P,scanW t a ts=.ok (t.length,P)/\Reach1 t a ts t.length P)\/∃e p L,scanW t a ts=.error (e,p)/\Reach1 t a ts p L/\p<t.length/\BU t p L=.error (e,p):=by
 intro m
 induction m with
 |zero=>
  intro a ts s D;obtain rfl:a=t.length:=by omega
  exact .inl ⟨ts,scanW_end,.refl _ _⟩
 |succ m ih=>
  intro a ts s D;by_cases h:a<t.length
  ·rw[Di h];cases hs:BU t a ts with
   |ok r=>
    have b:=step_on h hs;have c:=step_le h hs;rcases ih r.1 r.2 U c with⟨P,Z,W⟩|⟨e,p,L,Z,W,R,B⟩
    ·exact .inl ⟨P,Z,.step h hs W⟩
    ·exact .inr ⟨e,p,L,Z,.step h hs W,R,B⟩
   |error r=>
    obtain⟨e,p⟩:=r;obtain⟨rfl,_⟩:=stepM_err hs;exact .inr ⟨e,p,ts,rfl,.refl _ _,h,hs⟩
  ·obtain rfl:a=t.length:=by omega
   exact .inl ⟨ts,scanW_end,.refl _ _⟩
theorem takeWhile_take{q:UInt8->Bool}:∀(l:LU)(m:Nat),(l.takeWhile q).length<=m->((l.take m).takeWhile q).length=(l.takeWhile q).length
 | [],m,_=>by simp
 |x::l,0,h=>by simp at h⊢;cases hq:q x<;>simp_all
 |x::l,m+1,h=>by
  rw[List.take_succ_cons,List.takeWhile_cons,List.takeWhile_cons]at*
  cases hq:q x with
  |false=>simp
  |true=>simp[hq]at h⊢;exact takeWhile_take l m h
theorem whileB_take{q:UInt8->Bool}{t:LU}{a p:Nat}(h:Ao q t a<=p):Ao q (t.take p) a=Ao q t a:=by
 unfold Ao at*
 rw[List.drop_take,takeWhile_take _ _ U]
theorem addM_take{t:LU}{a n p:Nat}{ts:List Tok}{k:Int}(h:n<=p):C8 (t.take p) a ts k n=C8 t a ts k n:=by
 unfold C8;rw[List.take_take,Nat.min_eq_left h]
theorem getD_take{t:LU}{a p:Nat}(h:a<p):(t.take p).getD a 0=t.getD a 0:=by
 simp[List.getD_eq_getElem?_getD,h]
theorem find_same{α:Type}{f g:α->Bool}{l:List α}{y:α}(h:l.find? f=some y)(E:g y=true)(w:∀z,g z=true->f z=true):l.find? g=some y:=by
 induction l with
 |nil=>cases h
 |cons x l ih=>
  rw[List.find?_cons]at h⊢;cases hx:f x with
  |true=>rw[hx]at h;cases h;rw[E]
  |false=>
   rw[hx]at h;have:g x=false:=by cases hgx:g x with|false=>rfl|true=>rw[w x hgx]at hx;cases hx
   rw[this];exact ih h
theorem numBad_take{t:LU}{a p:Nat}(y:p<=t.length)(D:a<p)(I:Ao Au t a<=p)(h:BM t a=false):BM (t.take p) a=false:=by
 unfold BM at*
 rw[whileB_take I,getD_take D];rw[Bool.or_eq_false_iff]at h⊢;refine⟨h.1,?_⟩;by_cases x:Ao Au t a<p
 ·rw[getD_take x];have W:=h.2;rw[decide_eq_true (show Ao Au t a<t.length by omega)]at W;rw[Bool.true_and]at W;rw[W];simp
 ·rw[decide_eq_false EP];rfl
theorem step_take{t:LU}{a B p:Nat}{ts Q:List Tok}(c:p<=t.length)(b:a<t.length)(F:BU t a ts=.ok (B,Q))(Z:B<=p):BU (t.take p) a ts=.ok (B,Q):=by
 have T:=step_on b F;have o:a<p:=by omega
 unfold BU at F⊢;rw[getD_take o]
 split at F
 ·exact F
 ·cases F;simp only[commM];rw[whileB_take Z]
 ·unfold EN at F⊢
  split at F
  ·cases F
  ·have e:=DG F;subst e;rw[whileB_take Z,if_neg ER,addM_take Z];exact F
 ·unfold EI at F⊢
  split at F
  ·cases F
  ·rename_i hb;have e:=DG F;subst e;rw[whileB_take Z,if_neg (by rw[numBad_take c o Z (by simpa using hb)];simp),addM_take Z];exact F
 ·unfold symM at F⊢
  split at F
  ·rename_i y hy;have e:=DG F;have K:=(DL _ _).1 (List.find?_some hy)
   have P:symsL.find? (CC ((t.take p).drop a))=some y:=by
    refine find_same hy ((DL _ _).2 ?_) fun z d=>(DL _ _).2 ?_
    ·rw[List.drop_take];exact List.prefix_of_prefix_length_le K (List.take_prefix _ _) (by have:=K.length_le;simp at this⊢;omega) |> fun h=>h
    ·have:=(DL _ _).1 d;rw[List.drop_take]at this;exact this.trans (List.take_prefix _ _)
   rw[P];simp only;rw[addM_take U];exact F
  ·cases F
 ·cases F
theorem lexM_ok{t:LU}{ts:List Tok}(h:EE t=.ok ts):t.length<=6000/\Reach1 t 0 [] t.length ts:=by
 have K:t.length<=6000:=by
  unfold EE at h
  split at h
  ·cases h
  ·omega
 refine⟨K,?_⟩;rw[lexM_of K]at h;rcases reach_of_scan (t:=t) t.length 0 [] U U with⟨P,Z,W⟩|⟨e,p,L,Z,_⟩
 ·rw[Z]at h;cases h;exact W
 ·rw[Z]at h;cases h
def shT(m:Nat)(x:Tok):Tok:=⟨x.kind,x.text,x.loc+m⟩
theorem drop_sh(v u:LU)(a:Nat):(v++u).drop (v.length+a)=u.drop a:=by
 rw[List.drop_append];simp
theorem Dv{q:UInt8->Bool}(v u:LU)(a:Nat):Ao q (v++u) (v.length+a)=v.length+Ao q u a:=by
 unfold Ao;rw[drop_sh];omega
theorem take_sh(v u:LU)(a n:Nat):((v++u).take (v.length+n)).drop (v.length+a)=(u.take n).drop a:=by
 rw[List.take_append];rw[List.take_of_length_le U,show v.length+n-v.length=n by omega,drop_sh]
theorem getD_sh(v u:LU)(a:Nat):(v++u).getD (v.length+a) 0=u.getD a 0:=by
 simp[List.getD_eq_getElem?_getD,List.getElem?_append_right]
theorem addM_sh{v u:LU}{a n B:Nat}{ts ts' Q:List Tok}{k:Int}(h:C8 u a ts' k n=.ok (B,Q))(T:ts.length+Q.length<=2000):
  C8 (v++u) (v.length+a) (ts++ts'.map (shT v.length)) k (v.length+n)=.ok (v.length+B,ts++Q.map (shT v.length)):=by
 have e:=DG h;obtain⟨b,r⟩:=addM_le h;subst e;subst b;unfold C8;rw[if_neg (by simp at T⊢;omega),take_sh];simp[shT,Nat.add_comm]
theorem numBad_sh(v u:LU)(a:Nat):BM (v++u) (v.length+a)=BM u a:=by
 unfold BM;rw[Dv,getD_sh,getD_sh];rw[show v.length+Ao Au u a-(v.length+a)=Ao Au u a-a by omega];have e:decide (v.length+Ao Au u a<(v++u).length)=decide (Ao Au u a<u.length):=by simp
 rw[e]
theorem step_sh{v u:LU}{a B:Nat}{ts ts' Q:List Tok}(h:BU u a ts'=.ok (B,Q))(T:ts.length+Q.length<=2000):
  BU (v++u) (v.length+a) (ts++ts'.map (shT v.length))=.ok (v.length+B,ts++Q.map (shT v.length)):=by
 unfold BU at h⊢;rw[getD_sh]
 split at h
 ·cases h;simp[blankM];omega
 ·cases h;simp[commM,Dv]
 ·unfold EN at h⊢
  split at h
  ·cases h
  ·rw[show v.length+a+1=v.length+(a+1) by omega,Dv,if_neg U];exact addM_sh h T
 ·unfold EI at h⊢
  split at h
  ·cases h
  ·rw[numBad_sh,if_neg ER,Dv];exact addM_sh h T
 ·unfold symM at h⊢;rw[drop_sh]
  split at h
  ·rename_i y hy;rw[show v.length+a+y.length=v.length+(a+y.length) by omega];exact addM_sh h T
  ·cases h
 ·cases h
def isBlank(c:UInt8):Bool:=decide (c.toNat=32)||decide (c.toNat=9)||decide (c.toNat=10)||decide (c.toNat=13)
theorem blankB_ok(c:UInt8)(w:World):Fn Zp 161 [enc8 c] w fun v w'=>v=.bool (isBlank c)/\w'=w:=by
 refine AN Tryz.func161 rfl Tryz.ntmps161 ?_;repeat refine nx rfl ?_
 refine AJ (AO (AE rfl ?_));repeat refine nx rfl ?_
 (refine AJ (AS rfl ?_)<;>(refine Bf rfl rfl (fun T=>?_) (fun T=>?_)<;>try omega)<;>refine AE rfl ?_<;>(first|refine Ah rfl ?_|(refine AK rfl ?_;refine AS rfl ?_))<;>(first|refine Ah rfl ?_|(refine AK rfl ?_;(refine Bf rfl rfl (fun T=>?_) (fun T=>?_)<;>try omega)))<;>((first|refine Ae rfl ?_|refine Ad rfl ?_);refine AE rfl ?_)<;>refine AE rfl ?_<;>(first|refine Ah rfl ?_|(refine AK rfl ?_;refine AS rfl ?_))<;>(first|refine Ah rfl ?_|(refine AK rfl ?_;(refine Bf rfl rfl (fun T=>?_) (fun T=>?_)<;>try omega)))<;>((first|refine Ae rfl ?_|refine Ad rfl ?_);refine AE rfl ?_)<;>refine AE rfl ?_<;>(first|refine Ah rfl ?_|(refine AK rfl ?_;refine AS rfl ?_))<;>(first|refine Ah rfl ?_|(refine AK rfl ?_;(refine Bf rfl rfl (fun T=>?_) (fun T=>?_)<;>try omega)))<;>((first|refine Ae rfl ?_|refine Ad rfl ?_);refine AE rfl ?_)<;>refine AO (AE rfl (AA ?_)))
 all_goals
  repeat refine nx rfl ?_
  exact AC rfl ⟨by simp[isBlank,upd,Nat.beq];omega,rfl⟩
def gapF(t:LU):Nat->Nat->Nat
 |0,a=>a
 |n+1,a=>if a<t.length then(if(t.getD a 0).toNat=37 then gapF t n (Ao BQ t a)else if isBlank (t.getD a 0)=true then gapF t n (a+1)else a)else a
theorem gapF_fuel(t:LU):∀(n m a:Nat),a<=t.length->t.length<n+a->t.length<m+a->gapF t n a=gapF t m a
 |0,_,_,h,h1,_=>by omega
 |_,0,_,h,_,h2=>by omega
 |n+1,m+1,a,h,h1,h2=>by
  unfold gapF
  split
  ·rename_i hl
   split
   ·rename_i h37;have T:t[a]?=some t[a]:=List.getElem?_eq_getElem hl;have C:=Bv (p:=BQ) (t:=t) (a:=a) U;have X:=Bp (p:=BQ) T (by rw[EA T]at h37;simp[BQ,h37]);have b:=CK BQ t (a+1);exact gapF_fuel t n m _ C U U
   ·split
    ·exact gapF_fuel t n m _ U U U
    ·rfl
  ·rfl
def gapW(t:LU)(a:Nat):Nat:=gapF t (t.length+1-a) a
theorem gapW_end{t:LU}:gapW t t.length=t.length:=by
 unfold gapW;rw[show t.length+1-t.length=0+1 by omega];unfold gapF;rw[if_neg U]
theorem gapW_step{t:LU}{a:Nat}{c:UInt8}(T:t[a]?=some c):gapW t a=if c.toNat=37 then gapW t (Ao BQ t a)else if isBlank c=true then gapW t (a+1)else a:=by
 have K:a<t.length:=(List.getElem?_eq_some_iff.1 T).1;unfold gapW;rw[show t.length+1-a=(t.length-a)+1 by omega]
 conv=>lhs;unfold gapF
 rw[if_pos K,EA T]
 split
 ·rename_i h37;have C:=Bv (p:=BQ) (t:=t) (a:=a) U;have X:=Bp (p:=BQ) T (by simp[BQ,h37]);have b:=CK BQ t (a+1);exact gapF_fuel t _ _ _ C U U
 ·split
  ·exact gapF_fuel t _ _ _ U U U
  ·rfl
theorem kindB_0{c:UInt8}(h:Df c=some 0):c.toNat≠37/\isBlank c=true:=by
 unfold Df at h;obtain⟨p,y,L⟩:=Option.map_eq_some_iff.1 h;have Z:=List.find?_some y;have W:=List.mem_of_find?_eq_some y;simp[spansL]at W;rcases W with rfl|rfl|rfl|rfl|rfl|rfl|rfl|rfl|rfl|rfl|rfl|rfl|rfl|rfl|rfl|rfl<;>simp at L
 all_goals
  simp[inSpan]at Z;simp[isBlank];omega
theorem kindB_1{c:UInt8}(h:Df c=some 1):c.toNat=37:=by
 unfold Df at h;obtain⟨p,y,L⟩:=Option.map_eq_some_iff.1 h;have Z:=List.find?_some y;have W:=List.mem_of_find?_eq_some y;simp[spansL]at W;rcases W with rfl|rfl|rfl|rfl|rfl|rfl|rfl|rfl|rfl|rfl|rfl|rfl|rfl|rfl|rfl|rfl<;>simp at L;simp[inSpan]at Z;omega
theorem gapF_sh(v u:LU):∀(n j:Nat),gapF (v++u) n (v.length+j)=v.length+gapF u n j
 |0,j=>rfl
 |n+1,j=>by
  unfold gapF;rw[getD_sh,Dv,Nat.add_assoc,gapF_sh v u n,gapF_sh v u n];have e:(v.length+j<(v++u).length)=(j<u.length):=by simp
  simp only[e]
  split
  ·split
   ·rfl
   ·split<;>rfl
  ·rfl
theorem gapW_sh(v u:LU)(j:Nat)(T:j<=u.length):gapW (v++u) (v.length+j)=v.length+gapW u j:=by
 unfold gapW;rw[<-gapF_sh,show(v++u).length+1-(v.length+j)=u.length+1-j by simp;omega]
end
section
variable {mk:Prop}[MK mk]
end
section
variable {mk:Prop}[MK mk]
theorem addM_un{v u:LU}{B n:Nat}{ts:List Tok}{x:Tok}{k:Int}(h:C8 (v++u) v.length ts k (v.length+n)=.ok (B,ts++[x])):
  C8 u 0 [] k n=.ok (B-v.length,[⟨x.kind,x.text,0⟩]):=by
 have e:=DG h;obtain⟨b,r⟩:=addM_le h;subst e;have:=List.append_cancel_left b;simp at this;subst this;unfold C8;have:=take_sh v u 0 n;simp at this;simp[this]
theorem step_un{v u:LU}{B:Nat}{ts:List Tok}{x:Tok}(h:BU (v++u) v.length ts=.ok (B,ts++[x])):
  Df (u.getD 0 0)≠some 1/\BU u 0 []=.ok (B-v.length,[⟨x.kind,x.text,0⟩]):=by
 unfold BU at h⊢;have w:=getD_sh v u 0;simp only[Nat.add_zero]at w;rw[w]at h
 split at h
 ·simp[blankM]at h
 ·simp[commM]at h
 ·rename_i hk;rw[hk];refine⟨by simp,?_⟩;unfold EN at h⊢;have a:=Dv (q:=BD) v u 1
  split at h
  ·cases h
  ·rename_i hn;rw[a]at h hn;rw[if_neg (by simp only[Nat.zero_add];omega)];exact addM_un h
 ·rename_i hk;simp only[hk];refine⟨by simp,?_⟩;unfold EI at h⊢;have a:=Dv (q:=Au) v u 0;have S:=numBad_sh v u 0;simp only[Nat.add_zero]at a S;rw[S,a]at h
  split at h
  ·cases h
  ·rename_i hn;rw[if_neg hn];exact addM_un h
 ·rename_i k h0 h1 h2 h3 hk;rw[hk];refine⟨fun e=>h1 (Option.some.inj e),?_⟩;unfold symM at h⊢;have C:=drop_sh v u 0;simp only[Nat.add_zero,List.drop_zero]at C;rw[C]at h
  split at h
  ·rename_i y hy;rw[List.drop_zero,hy];simp only[Nat.zero_add];exact addM_un h
  ·cases h
 ·cases h
structure Alone(k:Int)(y:LU):Prop where
 pos:1<=y.length
 kind:Df (y.getD 0 0)≠some 1
 step:BU y 0 []=.ok (y.length,[⟨k,y,0⟩])
theorem Reach1.alone{t:LU}{a b:Nat}{ts P:List Tok}(h:Reach1 t a ts b P)(S:b<=t.length)(Q:∀x∈ts,Alone x.kind x.text):∀x∈P,Alone x.kind x.text:=by
 induction h with
 |refl=>exact Q
 |step h hs hr ih=>
  rename_i a a1 b ts ts1 P;refine ih S ?_;have i:=step_on h hs;have Z:=step_le h hs;rcases step_shape hs with rfl|⟨k,rfl⟩
  ·exact Q
  ·intro x V;rcases List.mem_append.1 V with V|V
   ·exact Q x V
   ·simp at V;subst V;have g:=step_take (p:=a1) Z h hs (Nat.le_refl _);have c:(t.take a).length=a:=by simp;omega
    have e:t.take a1=t.take a++(t.take a1).drop a:=by
     have:t.take a=(t.take a1).take a:=by rw[List.take_take,Nat.min_eq_left U]
     rw[this,List.take_append_drop]
    generalize E:(t.take a1).drop a=y at e g⊢;have f:y.length=a1-a:=by rw[<-E];simp;omega
    rw[e]at g;have l:BU (t.take a++y) (t.take a).length ts=.ok (a1,ts++[⟨k,y,a⟩]):=by rw[c];exact g
    obtain⟨d,L⟩:=step_un l;rw[c,<-f]at L;exact⟨by simp only;omega,d,L⟩
def bare(x:Tok):Int×LU:=(x.kind,x.text)
structure Opr where
 op:Int
 indexed:Int
 val:Int
deriving DecidableEq
inductive NT where
 |formula|orN|orL|andN|andL|untilN|unary|primary|req|line|lines|part|parts|signal|sigs|spec|edit
abbrev NT.T:NT->Type
 | .formula| .orN| .andN| .untilN| .unary| .primary=>Fml
 | .orL| .andL=>LF
 | .req| .line=>Rqm
 | .lines| .part=>List Rqm
 | .parts=>List (List Rqm)
 | .signal=>Sgn
 | .sigs=>List Sgn
 | .spec=>Spc
 | .edit=>Edt
abbrev BT:=Int×LU
inductive G(α:Type):Type where
 |ret (a:α)
 |fail
 |look (k:Option BT->G α)
 |next (g:G α)
 |call (nt:NT) (k:nt.T->G α)
def G.bind{α β:Type}:G α->(α->G β)->G β
 | .ret a,f=>f a
 | .fail,_=>.fail
 | .look k,f=>.look fun o=>(k o).bind f
 | .next g,f=>.next (g.bind f)
 | .call nt k,f=>.call nt fun v=>(k v).bind f
abbrev Ans(α:Type):=Except (List Tok) (α×List Tok)
def evG(R:(nt:NT)->List Tok->Option (Ans nt.T)){α:Type}:G α->List Tok->Option (Ans α)
 | .ret a,l=>some (.ok (a,l))
 | .fail,l=>some (.error l)
 | .look k,l=>evG R (k (l.head?.map bare)) l
 | .next g,l=>evG R g l.tail
 | .call nt k,l=>match R nt l with
  |none=>none
  |some (.error e)=>some (.error e)
  |some (.ok (v,l'))=>evG R (k v) l'
def A4(s:LU):Option BT->Bool
 |some x=> !decide (x.1=2)&&decide (x.2=s)
 |none=>false
def Ba(s:LU):G Bool:=.look fun o=>if A4 s o=true then .next (.ret true)else .ret false
def CZ(s:LU):G Unit:=.look fun o=>if A4 s o=true then .next (.ret ())else .fail
def nameG:G (LU):=.look fun o=>match o with
 |some x=>if decide (x.1=1)&&BH x.2 then .next (.ret x.2)else .fail
 |none=>.fail
def EL(s:LU):Int:=s.foldl (fun n c=>10*n+((c.toNat:Int)-48)) 0
def numberG:G Int:=.look fun o=>match o with
 |some x=>if decide (x.1=2)then .next (.ret (EL x.2))else .fail
 |none=>.fail
def prefixT:List (LU×Opr):=[([33],⟨4,0,0⟩),([88],⟨8,0,0⟩),([89],⟨15,0,0⟩),([90],⟨15,0,1⟩),([79],⟨18,0,0⟩),([72],⟨19,0,0⟩),([70],⟨11,13,0⟩),([71],⟨12,14,0⟩)]
def infixT:List (LU×Opr):=[([85],⟨9,0,0⟩),([82],⟨10,0,0⟩),([83],⟨16,16,0⟩),([84],⟨17,17,1⟩)]
def takeG(s:List (LU×Opr)):G (Option Opr):=.look fun o=>match o with
 |some x=>match s.lookup x.2 with
  |some p=>.next (.ret (some p))
  |none=>.ret none
 |none=>.ret none
def Dy(o:Opr):G (Option Int):=if o.indexed=0 then .ret none else(Ba [91]).bind fun b=>
 if b then numberG.bind fun n=>(CZ [93]).bind fun _=>.ret (some n)else .ret none
def sees2(s t:LU):G Bool:=.look fun o=>.ret (A4 s o||A4 t o)
def body:(nt:NT)->G nt.T
 | .formula=>.call .orN fun a=>(Ba [45,62]).bind fun b=>if b then .call .formula fun c=>.ret ⟨7,[],0,0,[a,c]⟩else .ret a
 | .orN=>.call .andN fun a=>.call .orL fun l=>.ret (nodeF 6 (a::l))
 | .orL=>(Ba [124]).bind fun b=>if b then .call .andN fun a=>.call .orL fun l=>.ret (a::l)else .ret []
 | .andN=>.call .untilN fun a=>.call .andL fun l=>.ret (nodeF 5 (a::l))
 | .andL=>(Ba [38]).bind fun b=>if b then .call .untilN fun a=>.call .andL fun l=>.ret (a::l)else .ret []
 | .untilN=>.call .unary fun a=>(takeG infixT).bind fun
  |none=>.ret a
  |some o=>(Dy o).bind fun n=>.call .untilN fun c=>.ret ⟨o.op,[],n.getD o.val,0,[a,c]⟩
 | .unary=>(takeG prefixT).bind fun
  |none=>.call .primary .ret
  |some o=>(Dy o).bind fun n=>.call .unary fun a=>.ret (match n with
   |some n=>⟨o.indexed,[],o.val,n,[a]⟩
   |none=>⟨o.op,[],o.val,0,[a]⟩)
 | .primary=>(Ba [116,114,117,101]).bind fun b=>if b then .ret ⟨1,[],0,0,[]⟩else
  (Ba [102,97,108,115,101]).bind fun b=>if b then .ret ⟨2,[],0,0,[]⟩else
  (Ba [40]).bind fun b=>if b then .call .formula fun f=>(CZ [41]).bind fun _=>.ret f else
  nameG.bind fun s=>(Ba [61]).bind fun b=>if b then numberG.bind fun n=>.ret (isF s n)else
  (Ba [33,61]).bind fun b=>if b then numberG.bind fun n=>.ret (notF (isF s n))else .ret (isF s 1)
 | .req=>(Ba [97,115,115,117,109,101]).bind fun b=>(if b then .ret 1 else(CZ [103,117,97,114,97,110,116,101,101]).bind fun _=>.ret 2).bind fun k=>
  nameG.bind fun s=>(CZ [58]).bind fun _=>.call .formula fun f=>.ret ⟨[],s,k,f⟩
 | .line=>.call .req fun r=>(CZ [59]).bind fun _=>.ret r
 | .lines=>(sees2 [97,115,115,117,109,101] [103,117,97,114,97,110,116,101,101]).bind fun b=>if b then .call .line fun r=>.call .lines fun l=>.ret (r::l)else .ret []
 | .part=>(CZ [112,97,114,116]).bind fun _=>nameG.bind fun s=>(CZ [123]).bind fun _=>.call .lines fun l=>(CZ [125]).bind fun _=>.ret (l.map fun r=>⟨s,r.name,r.kind,r.formula⟩)
 | .parts=>(sees2 [112,97,114,116] [112,97,114,116]).bind fun b=>if b then .call .part fun l=>.call .parts fun m=>.ret (l::m)else .ret []
 | .signal=>(Ba [105,110,112,117,116]).bind fun i=>(if i then .ret ()else CZ [111,117,116,112,117,116]).bind fun _=>nameG.bind fun s=>
  ((Ba [58]).bind fun b=>if b then numberG else .ret 2).bind fun n=>(CZ [59]).bind fun _=>.ret ⟨s,i,n⟩
 | .sigs=>(sees2 [105,110,112,117,116] [111,117,116,112,117,116]).bind fun b=>if b then .call .signal fun x=>.call .sigs fun l=>.ret (x::l)else .ret []
 | .spec=>.call .sigs fun s=>.call .parts fun r=>.ret ⟨s,r.flatten⟩
 | .edit=>(Ba [100,114,111,112]).bind fun b=>if b then nameG.bind fun s=>.ret ⟨2,⟨[],s,0,Am⟩⟩else
  (Ba [97,100,100]).bind fun b=>(if b then .ret 1 else(CZ [114,101,112,108,97,99,101]).bind fun _=>.ret 3).bind fun k=>
  nameG.bind fun p=>.call .req fun r=>.ret ⟨k,⟨p,r.name,r.kind,r.formula⟩⟩
def whole(nt:NT):G nt.T:=.call nt fun v=>.look fun o=>match o with
 |none=>.ret v
 |some _=>.fail
def evN:Nat->(nt:NT)->List Tok->Option (Ans nt.T)
 |0,_,_=>none
 |n+1,nt,l=>evG (evN n) (body nt) l
def Run{α:Type}(p:G α)(l:List Tok)(r:Ans α):Prop:=∃n,evG (evN n) p l=some r
def RunN(nt:NT)(l:List Tok)(r:Ans nt.T):Prop:=Run (body nt) l r
theorem evG_mono{f g:(nt:NT)->List Tok->Option (Ans nt.T)}(h:∀nt l r,f nt l=some r->g nt l=some r){α:Type}:∀(p:G α)(l:List Tok)(r:Ans α),evG f p l=some r->evG g p l=some r
 | .ret a,l,r,hr=>hr
 | .fail,l,r,hr=>hr
 | .look k,l,r,hr=>by simp only[evG]at hr⊢;exact evG_mono h (k _) l r hr
 | .next q,l,r,hr=>by simp only[evG]at hr⊢;exact evG_mono h q _ r hr
 | .call nt k,l,r,hr=>by
  simp only[evG]at hr⊢;cases hf:f nt l with
  |none=>rw[hf]at hr;cases hr
  |some x=>
   rw[hf]at hr;rw[h nt l x hf];cases x with
   |error e=>exact hr
   |ok y=>exact evG_mono h (k y.1) y.2 r hr
theorem evN_step:∀(n:Nat)(nt:NT)(l:List Tok)(r:Ans nt.T),evN n nt l=some r->evN (n+1) nt l=some r
 |0,nt,l,r,h=>by cases h
 |n+1,nt,l,r,h=>by
  unfold evN at h⊢;exact evG_mono (fun nt l r h=>evN_step n nt l r h) _ _ _ h
theorem evN_mono{n m:Nat}(h:n<=m)(nt:NT)(l:List Tok)(r:Ans nt.T)(G:evN n nt l=some r):evN m nt l=some r:=by
 induction h with
 |refl=>exact G
 |step _ ih=>exact evN_step _ _ _ _ ih
theorem ev_mono{n m:Nat}(h:n<=m){α:Type}{p:G α}{l:List Tok}{r:Ans α}(a:evG (evN n) p l=some r):evG (evN m) p l=some r:=
 evG_mono (fun D l r T=>evN_mono h D l r T) p l r a
theorem Run.det{α:Type}{p:G α}{l:List Tok}{r s:Ans α}(h:Run p l r)(T:Run p l s):r=s:=by
 obtain⟨n,I⟩:=h;obtain⟨m,a⟩:=T;have Z:=ev_mono (Nat.le_max_left n m) I;have W:=ev_mono (Nat.le_max_right n m) a;rw[Z]at W;exact Option.some.inj W
theorem Run.ret{α:Type}(a:α)(l:List Tok):Run (.ret a) l (.ok (a,l)):=⟨0,rfl⟩
theorem Run.fail{α:Type}(l:List Tok):Run (.fail:G α) l (.error l):=⟨0,rfl⟩
theorem Run.look{α:Type}{k:Option BT->G α}{l:List Tok}{r:Ans α}(h:Run (k (l.head?.map bare)) l r):Run (.look k) l r:=h
theorem Run.next{α:Type}{g:G α}{l:List Tok}{r:Ans α}(h:Run g l.tail r):Run (.next g) l r:=h
theorem Run.call{α:Type}{nt:NT}{k:nt.T->G α}{l l':List Tok}{v:nt.T}{r:Ans α}(h:RunN nt l (.ok (v,l')))(a:Run (k v) l' r):Run (.call nt k) l r:=by
 obtain⟨n,I⟩:=h;obtain⟨m,s⟩:=a;refine⟨max n m+1,?_⟩;have Z:evN (max n m+1) nt l=some (.ok (v,l')):=ev_mono (Nat.le_max_left n m) I;simp only[evG,Z];exact ev_mono U s
theorem Run.callE{α:Type}{nt:NT}{k:nt.T->G α}{l e:List Tok}(h:RunN nt l (.error e)):Run (.call nt k) l (.error e):=by
 obtain⟨n,I⟩:=h;refine⟨n+1,?_⟩;have Z:evN (n+1) nt l=some (.error e):=I;simp only[evG,Z]
theorem Run.call_inv{α:Type}{nt:NT}{k:nt.T->G α}{l:List Tok}{r:Ans α}(h:Run (.call nt k) l r):(∃v l',RunN nt l (.ok (v,l'))/\Run (k v) l' r)\/∃e,RunN nt l (.error e)/\r=.error e:=by
 obtain⟨n,I⟩:=h;simp only[evG]at I;cases n with
 |zero=>simp[evN]at I
 |succ n=>
  cases hf:evN (n+1) nt l with
  |none=>rw[hf]at I;cases I
  |some x=>
   rw[hf]at I;have Q:evG (evN n) (body nt) l=some x:=hf;cases x with
   |error e=>cases I;exact .inr ⟨e,⟨n,Q⟩,rfl⟩
   |ok y=>exact .inl ⟨y.1,y.2,⟨n,Q⟩,⟨n+1,I⟩⟩
theorem evG_bind(f:(nt:NT)->List Tok->Option (Ans nt.T)){α β:Type}:∀(p:G α)(q:α->G β)(l:List Tok),evG f (p.bind q) l=match evG f p l with
  |none=>none
  |some (.error e)=>some (.error e)
  |some (.ok (a,l'))=>evG f (q a) l'
 | .ret a,q,l=>rfl
 | .fail,q,l=>rfl
 | .look k,q,l=>by simp only[G.bind,evG];exact evG_bind f (k _) q l
 | .next g,q,l=>by simp only[G.bind,evG];exact evG_bind f g q _
 | .call nt k,q,l=>by
  simp only[G.bind,evG];cases f nt l with
  |none=>rfl
  |some x=>
   cases x with
   |error e=>rfl
   |ok y=>exact evG_bind f (k y.1) q y.2
theorem Run.bind{α β:Type}{p:G α}{q:α->G β}{l l':List Tok}{a:α}{r:Ans β}(h:Run p l (.ok (a,l')))(T:Run (q a) l' r):Run (p.bind q) l r:=by
 obtain⟨n,I⟩:=h;obtain⟨m,s⟩:=T;refine⟨max n m,?_⟩;rw[evG_bind,ev_mono (Nat.le_max_left n m) I];exact ev_mono (Nat.le_max_right n m) s
theorem Run.bindE{α β:Type}{p:G α}{q:α->G β}{l e:List Tok}(h:Run p l (.error e)):Run (p.bind q) l (.error e):=by
 obtain⟨n,I⟩:=h;exact⟨n,by rw[evG_bind,I]⟩
theorem Run.bind_inv{α β:Type}{p:G α}{q:α->G β}{l:List Tok}{r:Ans β}(h:Run (p.bind q) l r):(∃a l',Run p l (.ok (a,l'))/\Run (q a) l' r)\/∃e,Run p l (.error e)/\r=.error e:=by
 obtain⟨n,I⟩:=h;rw[evG_bind]at I;cases hf:evG (evN n) p l with
 |none=>rw[hf]at I;cases I
 |some x=>
  rw[hf]at I;cases x with
  |error e=>cases I;exact .inr ⟨e,⟨n,hf⟩,rfl⟩
  |ok y=>exact .inl ⟨y.1,y.2,⟨n,hf⟩,⟨n,I⟩⟩
def Ans.rem{α:Type}:Ans α->List Tok
 | .ok y=>y.2
 | .error e=>e
theorem DK{f:(nt:NT)->List Tok->Option (Ans nt.T)}(P:∀nt l r,f nt l=some r->Ans.rem r<:+l){α:Type}:∀(p:G α)(l:List Tok)(r:Ans α),evG f p l=some r->Ans.rem r<:+l
 | .ret a,l,r,h=>by cases h;exact List.suffix_rfl
 | .fail,l,r,h=>by cases h;exact List.suffix_rfl
 | .look k,l,r,h=>DK P (k _) l r h
 | .next g,l,r,h=>(DK P g l.tail r h).trans (List.tail_suffix l)
 | .call nt k,l,r,h=>by
  simp only[evG]at h;cases hn:f nt l with
  |none=>rw[hn]at h;cases h
  |some x=>
   rw[hn]at h;have Z:=P nt l x hn;cases x with
   |error e=>cases h;exact Z
   |ok y=>exact(DK P (k y.1) y.2 r h).trans Z
theorem evN_suffix:∀(n:Nat)(nt:NT)(l:List Tok)(r:Ans nt.T),evN n nt l=some r->Ans.rem r<:+l
 |0,_,_,_,h=>by cases h
 |n+1,nt,l,r,h=>DK (evN_suffix n) (body nt) l r h
theorem Run.suffix{α:Type}{p:G α}{l:List Tok}{r:Ans α}(h:Run p l r):Ans.rem r<:+l:=by
 obtain⟨n,I⟩:=h;exact DK (evN_suffix n) p l r I
def AR{α:Type}:Ans α->Ans α->Prop
 | .ok y,.ok z=>y.1=z.1/\y.2.map bare=z.2.map bare
 | .error e,.error e'=>e.map bare=e'.map bare
 |_,_=>False
theorem head_bare{l l':List Tok}(h:l.map bare=l'.map bare):l.head?.map bare=l'.head?.map bare:=by
 cases l<;>cases l'<;>simp_all
theorem tail_bare{l l':List Tok}(h:l.map bare=l'.map bare):l.tail.map bare=l'.tail.map bare:=by
 cases l<;>cases l'<;>simp_all
theorem evG_bare{f:(nt:NT)->List Tok->Option (Ans nt.T)}(P:∀nt l l' r,l.map bare=l'.map bare->f nt l=some r->∃s,f nt l'=some s/\AR r s){α:Type}:∀(p:G α)(l l':List Tok)(r:Ans α),l.map bare=l'.map bare->evG f p l=some r->∃s,evG f p l'=some s/\AR r s
 | .ret a,l,l',r,hl,h=>by cases h;exact⟨_,rfl,rfl,hl⟩
 | .fail,l,l',r,hl,h=>by cases h;exact⟨_,rfl,hl⟩
 | .look k,l,l',r,hl,h=>by
  simp only[evG]at h⊢;rw[<-head_bare hl];exact evG_bare P (k _) l l' r hl h
 | .next g,l,l',r,hl,h=>evG_bare P g l.tail l'.tail r (tail_bare hl) h
 | .call nt k,l,l',r,hl,h=>by
  simp only[evG]at h⊢;cases hn:f nt l with
  |none=>rw[hn]at h;cases h
  |some x=>
   rw[hn]at h;obtain⟨b,Z,W⟩:=P nt l l' x hl hn;rw[Z];cases x with
   |error e=>
    cases h;cases b with
    |error e'=>exact⟨_,rfl,W⟩
    |ok y=>exact W.elim
   |ok y=>
    cases b with
    |error e'=>exact W.elim
    |ok z=>
     obtain⟨Q,L⟩:=W;simp only at h⊢;rw[<-Q];exact evG_bare P (k y.1) y.2 z.2 r L h
theorem evN_bare:∀(n:Nat)(nt:NT)(l l':List Tok)(r:Ans nt.T),l.map bare=l'.map bare->evN n nt l=some r->∃s,evN n nt l'=some s/\AR r s
 |0,_,_,_,_,_,h=>by cases h
 |n+1,nt,l,l',r,hl,h=>evG_bare (evN_bare n) (body nt) l l' r hl h
theorem Run.bare{α:Type}{p:G α}{l l':List Tok}{r:Ans α}(K:l.map bare=l'.map bare)(h:Run p l r):∃s,Run p l' s/\AR r s:=by
 obtain⟨n,I⟩:=h;obtain⟨s,Z,W⟩:=evG_bare (evN_bare n) p l l' r K I;exact⟨s,⟨n,Z⟩,W⟩
theorem suf_app{r:List Tok}{x:Tok}{l1:List Tok}(h:l1++x::r<:+r):False:=by
 have:=h.length_le;simp at this;omega
def Ahead{α:Type}(F:List Tok->Option (Ans α)):Prop:=∀(a I:List Tok)(x:Tok)(r b:List Tok),
 (∀v,F (a++x::r)=some (.ok (v,I++x::r))->F (a++x::b)=some (.ok (v,I++x::b)))/\
 (F (a++x::r)=some (.error (I++x::r))->F (a++x::b)=some (.error (I++x::b)))
theorem suf_mid{l:List Tok}{x:Tok}{l' r l1:List Tok}(h:l<:+l1++x::r)(T:l'++x::r<:+l):∃A,l=A++x::r:=by
 obtain⟨t,w⟩:=T;exact⟨t++l',by rw[<-w];simp⟩
theorem evG_ahead{f:(nt:NT)->List Tok->Option (Ans nt.T)}(P:∀nt,Ahead (f nt))(c:∀nt l r,f nt l=some r->Ans.rem r<:+l){α:Type}:∀p:G α,Ahead (evG f p)
 | .ret a=>fun b I x r F=>⟨fun v h=>by
   simp only[evG,Option.some.injEq,Except.ok.injEq,Prod.mk.injEq]at h⊢;obtain⟨Z,W⟩:=h;exact⟨Z,by rw[List.append_cancel_right W]⟩,fun h=>by simp[evG]at h⟩
 | .fail=>fun b I x r F=>⟨fun v h=>by simp[evG]at h,fun h=>by
   simp only[evG,Option.some.injEq,Except.error.injEq]at h⊢;rw[List.append_cancel_right h]⟩
 | .look k=>fun b I x r F=>by
  have M:(b++x::F).head?.map bare=(b++x::r).head?.map bare:=by cases b<;>rfl
  have:=evG_ahead P c (k ((b++x::r).head?.map bare)) b I x r F;simp only[evG];rw[M];exact this
 | .next g=>fun b I x r F=>by
  simp only[evG];cases b with
  |nil=>
   refine⟨fun v h=>?_,fun h=>?_⟩
   ·exact(suf_app (show I++x::r<:+r from DK c g _ _ h)).elim
   ·exact(suf_app (show I++x::r<:+r from DK c g _ _ h)).elim
  |cons y b=>exact evG_ahead P c g b I x r F
 | .call nt k=>fun b I x r F=>by
  simp only[evG];cases hn:f nt (b++x::r)with
  |none=>exact⟨fun v h=>Eh,fun h=>Eh⟩
  |some z=>
   have o:=c nt _ z hn;cases z with
   |error e=>
    refine⟨fun v h=>Eh,fun h=>?_⟩;simp only[Option.some.injEq,Except.error.injEq]at h;subst h;rw[(P nt b I x r F).2 hn]
   |ok y=>
    obtain⟨v,d⟩:=y
    have go:(∀u,evG f (k v) d=some (.ok (u,I++x::r))->∃A,d=A++x::r)/\(evG f (k v) d=some (.error (I++x::r))->∃A,d=A++x::r):=
     ⟨fun u h=>suf_mid (l1:=b) o (show I++x::r<:+d from DK c (k v) _ _ h),fun h=>suf_mid (l1:=b) o (show I++x::r<:+d from DK c (k v) _ _ h)⟩
    refine⟨fun u h=>?_,fun h=>?_⟩
    ·obtain⟨A,rfl⟩:=go.1 u h;rw[(P nt b A x r F).1 v hn];exact(evG_ahead P c (k v) A I x r F).1 u h
    ·obtain⟨A,rfl⟩:=go.2 h;rw[(P nt b A x r F).1 v hn];exact(evG_ahead P c (k v) A I x r F).2 h
theorem evN_ahead:∀(n:Nat)(nt:NT),Ahead (evN n nt)
 |0,_=>fun _ _ _ _ _=>⟨fun _ h=>Eh,fun h=>Eh⟩
 |n+1,nt=>evG_ahead (evN_ahead n) (evN_suffix n) (body nt)
def EF(S:NT->Prop)(x:BT){α:Type}:Bool->G α->Prop
 |_,.ret _=>True
 |_,.fail=>True
 |b,.look k=>(∀y,EF S x true (k (some y)))/\(b=true\/k none=.fail\/(k none=k (some x)/\EF S x false (k none)))
 |b,.next g=>b=true/\EF S x false g
 |_,.call nt k=>S nt/\∀v,EF S x false (k v)
theorem evG_good{S:NT->Prop}{f:(nt:NT)->List Tok->Option (Ans nt.T)}{x:Tok}{r:List Tok}(P:∀nt,S nt->∀l v,f nt l=some (.ok (v,[]))->f nt (l++x::r)=some (.ok (v,x::r)))
  (D:∀nt,Ahead (f nt))(c:∀nt l v l' y,f nt l=some (.ok (v,y::l'))->f nt (l++x::r)=some (.ok (v,(y::l')++x::r))){α:Type}:∀(p:G α)(b:Bool)(l:List Tok)(v:α),EF S (Go.Proofs.YtjbocjodncbogaaGreatDoor.bare x) b p->(b=true->l≠[])->evG f p l=some (.ok (v,[]))->evG f p (l++x::r)=some (.ok (v,x::r))
 | .ret a,b,l,v,_,_,h=>by
  simp only[evG,Option.some.injEq,Except.ok.injEq,Prod.mk.injEq]at h⊢;obtain⟨rfl,rfl⟩:=h;exact⟨rfl,rfl⟩
 | .fail,b,l,v,_,_,h=>by simp[evG]at h
 | .look k,b,l,v,hg,hb,h=>by
  simp only[evG]at h⊢;cases l with
  |nil=>
   simp only[List.head?_nil,Option.map_none]at h;rcases hg.2 with N|N|⟨N,H⟩
   ·exact absurd rfl (hb N)
   ·rw[N]at h;simp[evG]at h
   ·have:=evG_good P D c (k none) false [] v H (fun h=>by cases h) h;simp only[List.nil_append,List.head?_cons,Option.map_some]at this⊢;rw[<-N];exact this
  |cons y l=>exact evG_good P D c (k (some (Go.Proofs.YtjbocjodncbogaaGreatDoor.bare y))) true (y::l) v (hg.1 _) (fun _=>by simp) h
 | .next g,b,l,v,hg,hb,h=>by
  simp only[evG]at h⊢;cases l with
  |nil=>exact absurd rfl (hb hg.1)
  |cons y l=>exact evG_good P D c g false l v hg.2 (fun h=>by cases h) h
 | .call nt k,b,l,v,hg,hb,h=>by
  simp only[evG]at h⊢;cases hn:f nt l with
  |none=>rw[hn]at h;cases h
  |some z=>
   rw[hn]at h;cases z with
   |error e=>cases h
   |ok y=>
    obtain⟨u,l'⟩:=y;simp only at h;cases l' with
    |nil=>
     rw[P nt hg.1 l u hn];exact evG_good P D c (k u) false [] v (hg.2 u) (fun h=>by cases h) h
    |cons y l'=>
     rw[c nt l u l' y hn];exact evG_good P D c (k u) false (y::l') v (hg.2 u) (fun h=>by cases h) h
theorem evN_left{n:Nat}{nt:NT}{l l':List Tok}{v:nt.T}{y:Tok}(r:List Tok)(h:evN n nt l=some (.ok (v,y::l'))):evN n nt (l++r)=some (.ok (v,(y::l')++r)):=by
 obtain⟨t,w⟩:=(show y::l'<:+l from evN_suffix n nt l _ h);subst w;have:=(evN_ahead n nt t [] y l' (l'++r)).1 v h;simpa using this
theorem evN_good{S:NT->Prop}{x:Tok}{r:List Tok}(a:∀nt,S nt->EF S (Go.Proofs.YtjbocjodncbogaaGreatDoor.bare x) false (body nt)):∀(n:Nat)(nt:NT),S nt->∀l v,evN n nt l=some (.ok (v,[]))->evN n nt (l++x::r)=some (.ok (v,x::r))
 |0,_,_,_,_,h=>by cases h
 |n+1,nt,hs,l,v,h=>evG_good (evN_good a n) (evN_ahead n) (fun nt l v G y h=>evN_left _ h) (body nt) false l v (a nt hs) (fun h=>by cases h) h
theorem RunN.stop{S:NT->Prop}{x:Tok}(a:∀nt,S nt->EF S (Go.Proofs.YtjbocjodncbogaaGreatDoor.bare x) false (body nt)){nt:NT}(F:S nt){l:List Tok}{v:nt.T}(r:List Tok)(h:RunN nt l (.ok (v,[]))):RunN nt (l++x::r) (.ok (v,x::r)):=by
 obtain⟨n,I⟩:=h;exact⟨n,evN_good a (n+1) nt F l v I⟩
structure Env where
 lo:Nat
 s:Nat
 n:Nat
 mp:Nat
 mi:Nat
abbrev inE(E:Env)(b:Nat):Prop:=E.lo<=b/\b<E.s
def oprV(o:Opr):Value:=.agg #[iV o.op,iV o.indexed,iV o.val]
def tabV(t:List (LU×Opr)):List (LU×Value):=t.map fun p=>(p.1,oprV p.2)
def TokWf(x:Tok):Prop:=x.kind=2->1<=x.text.length/\x.text.length<=4/\∀c∈x.text,Au c=true
structure PSt(w:World)(E:Env)(ts:List Tok):Prop where
 D:∃a c,Blk w E.s 126 [.slice a ts.length c,iV (E.n:Int),.map (some E.mp),.map (some E.mi)]/\Sl (inE E) w (.slice a ts.length c) ts.length (Dk ts)
 pre:SMap w E.mp (tabV prefixT)
 inf:SMap w E.mi (tabV infixT)
 lt:E.mp<E.s/\E.mi<E.s
 wf:∀x∈ts,TokWf x
 cnt:ts.length<=2000
theorem PSt.E{X:List Nat}{w w':World}{E:Env}{ts:List Tok}(h:PSt w E ts)(k:Keep X w w')(f:∀x∈X,E.s<x):PSt w' E ts:=by
 obtain⟨⟨a,c,Z,W⟩,R,B,d,e,K⟩:=h;have I:∀b,b<=E.s->b∉X:=fun b S V=>by have:=f b V;omega
 exact⟨⟨a,c,Z.E k (I _ (Nat.le_refl _)),W.E k fun b S=>I b (by have:=S.2;omega)⟩,R.E k (I _ U),B.E k (I _ U),d,e,K⟩
theorem PSt.ext{w w':World}{E:Env}{ts:List Tok}(h:PSt w E ts)(k:Ext w w'):PSt w' E ts:=h.E k fun x V=>by cases V
theorem PSt.slt{w:World}{E:Env}{ts:List Tok}(h:PSt w E ts):E.s<w.heap.size:=by obtain⟨_,_,Z,_⟩:=h.D;exact Z.lt
abbrev failP(e:Int)(p:Nat):List PanicEntry:=[{v:=.iface 121 (.agg #[iV e,iV (p:Int)]),recovered:=false}]
def errV(n:Nat):List Tok->List PanicEntry
 | []=>failP 51 n
 |x::_=>failP 50 x.loc
def PDo{α:Type}(E:Env)(F:FuncId)(args:LV)(w:World)(p:G α)(ts:List Tok)(N:World->Value->α->Prop):Prop:=
 FnP Zp F args w (fun v X=>Keep [E.s] w X/\∃a x,Run p ts (.ok (a,x))/\PSt X E x/\N X v a) (fun V X=>Keep [E.s] w X/\∃l,Run p ts (.error l)/\V=errV E.n l)
theorem PSt.tok{w:World}{E:Env}{x:Tok}{l:List Tok}{a:Option Addr}{c:Nat}(h:Sl (inE E) w (.slice a (x::l).length c) (x::l).length (Dk (x::l))):
  ∃b o,a=some ⟨b,o,none⟩/\1<=c/\(w.cell? ⟨b,o+0*3+0,none⟩=some (iV x.kind)/\w.cell? ⟨b,o+0*3+1,none⟩=some (AL x.text)/\w.cell? ⟨b,o+0*3+2,none⟩=some (iV (x.loc:Int)))/\
   Sl (inE E) w (.slice (adv c 1 3 a) l.length (c-1)) l.length (Dk l):=by
 obtain⟨Z,d,p,f,W,R,B⟩:=h;cases p;obtain⟨b,o,rfl,S,T⟩:=B.resolve_left O;have K:(x::l).length=l.length+1:=rfl;have e:Dk (x::l)=tokC x++Dk l:=by simp[Dk]
 refine⟨b,o,rfl,by omega,⟨T 0 _ rfl,T 1 _ rfl,T 2 _ rfl⟩,_,_,rfl,by omega,by omega,?_,?_⟩
 ·intro D;unfold adv at D
  split at D
  ·cases D
  ·simp at D
 ·by_cases t:l.length=0
  ·exact .inl t
  ·refine .inr ⟨b,o+3,?_,S,?_⟩
   ·unfold adv;rw[if_neg U];rfl
   ·intro i u g;have:=T (3+i) u (by rw[e,List.getElem?_append_right (by simp[tokC])];simpa[tokC]using g);rw[Nat.add_assoc];exact this
theorem PSt.taken{w w':World}{E:Env}{x:Tok}{l:List Tok}{a:Option Addr}{c:Nat}(h:PSt w E (x::l))(F:Sl (inE E) w (.slice (adv c 1 3 a) l.length (c-1)) l.length (Dk l))
  (p:Put w w' E.s 126 [.slice (adv c 1 3 a) l.length (c-1),iV (E.n:Int),.map (some E.mp),.map (some E.mi)]):PSt w' E l:=by
 obtain⟨_,R,B,d,k,K⟩:=h;have M:=d.1;have j:=d.2;refine⟨⟨_,_,p.D,F.E p.E fun b S=>by have:=S.2;simp;omega⟩,R.E p.E EP,B.E p.E EP,d,fun y e=>k y (by simp[e]),by simp at K;omega⟩
theorem wrong_ok(E:Env)(w:World)(ts:List Tok)(h:PSt w E ts){R:Value->World->Prop}:FnP Zp 76 [pt E.s] w R (fun V w'=>w'=w/\V=errV E.n ts):=by
 obtain⟨a,c,S,F⟩:=h.D;refine Az Tryz.func76 rfl Tryz.ntmps76 nlr EO ?_;repeat refine nx rfl ?_
 cases ts with
 |nil=>
  have K:([]:List Tok).length=0:=rfl;(refine AJ (AX rfl (AG rfl (AB rfl (AH rfl (Blk.cell ER EQ) ?_))))<;>refine Bi rfl ?_<;>(refine Bf rfl rfl (fun T=>?_) (fun T=>?_)<;>try omega))
  repeat refine nx rfl ?_
  (refine AJ (AX rfl (AG rfl (AB rfl (AH rfl (Blk.cell ER EQ) ?_))))<;>refine BO EQ EQ ?_<;>refine Db (Ds rfl ?_))
  repeat refine nx rfl ?_
  exact Ab ⟨rfl,rfl⟩
 |cons x l=>
  have K:(x::l).length=l.length+1:=rfl;obtain⟨b,o,rfl,_,⟨Z,H,W⟩,_⟩:=PSt.tok F;(refine AJ (AX rfl (AG rfl (AB rfl (AH rfl (Blk.cell ER EQ) ?_))))<;>refine Bi rfl ?_<;>(refine Bf rfl rfl (fun T=>?_) (fun T=>?_)<;>try omega))
  repeat first|refine nx rfl ?_|refine nf rfl ?_
  (refine AJ (AX rfl (AG rfl (AB rfl (AH rfl (Blk.cell ER EQ) ?_))))<;>refine Bt rfl rfl U U (AB rfl (AH rfl ER ?_))<;>refine BO EQ EQ ?_<;>refine Db (Ds rfl ?_))
  repeat refine nx rfl ?_
  exact Ab ⟨rfl,rfl⟩
theorem sees_ok(E:Env)(w:World)(ts:List Tok)(t:LU)(h:PSt w E ts):Fn Zp 78 [pt E.s,AL t] w (fun v w'=>v=.bool (A4 t (ts.head?.map bare))/\w'=w):=by
 obtain⟨a,c,S,F⟩:=h.D;refine AN Tryz.func78 rfl Tryz.ntmps78 ?_;repeat refine nx rfl ?_
 refine AJ (AO (AE rfl ?_));repeat refine nx rfl ?_
 cases ts with
 |nil=>
  have K:([]:List Tok).length=0:=rfl;(refine AJ (AX rfl (AG rfl (AB rfl (AH rfl (Blk.cell ER EQ) ?_))))<;>refine Bi rfl ?_<;>(refine W_gtr rfl rfl (fun T=>?_) (fun T=>?_)<;>try omega)<;>refine AE rfl (Ah rfl (Ah rfl (Ah rfl (Ah rfl (Ah rfl (Ah rfl (Ah rfl (Ah rfl (Ad rfl (AE rfl (AE rfl (Ah rfl (Ah rfl (Ah rfl (Ah rfl (Ah rfl (Ah rfl (Ah rfl (Ah rfl (Ah rfl (Ad rfl (AE rfl (AO (AE rfl ?_)))))))))))))))))))))))))
  repeat refine nx rfl ?_
  exact AC rfl ⟨rfl,rfl⟩
 |cons x l=>
  have K:(x::l).length=l.length+1:=rfl;obtain⟨b,o,rfl,_,⟨Z,H,W⟩,_⟩:=PSt.tok F;by_cases L:x.kind=2
  ·(refine AJ (AX rfl (AG rfl (AB rfl (AH rfl (Blk.cell ER EQ) ?_))))<;>refine Bi rfl ?_<;>(refine W_gtr rfl rfl (fun T=>?_) (fun T=>?_)<;>try omega)<;>refine AE rfl (AK rfl (AX rfl (AK rfl (AG rfl (AK rfl (AB rfl (AK rfl (AH rfl (Blk.cell ER EQ) ?_))))))))<;>refine AK rfl (Bt rfl rfl U U (AK rfl (AB rfl (AK rfl (AH rfl ER ?_)))))<;>(refine AK rfl ?_;(refine W_neq rfl rfl (fun T=>?_) (fun T=>?_)<;>try omega))<;>refine Ae rfl (AE rfl (AE rfl (Ah rfl (Ah rfl (Ah rfl (Ah rfl (Ah rfl (Ah rfl (Ah rfl (Ah rfl (Ah rfl (Ad rfl (AE rfl (AO (AE rfl ?_))))))))))))))))
   repeat refine nx rfl ?_
   exact AC rfl ⟨by simp[upd,Nat.beq,A4,bare,L],rfl⟩
  ·(refine AJ (AX rfl (AG rfl (AB rfl (AH rfl (Blk.cell ER EQ) ?_))))<;>refine Bi rfl ?_<;>(refine W_gtr rfl rfl (fun T=>?_) (fun T=>?_)<;>try omega)<;>refine AE rfl (AK rfl (AX rfl (AK rfl (AG rfl (AK rfl (AB rfl (AK rfl (AH rfl (Blk.cell ER EQ) ?_))))))))<;>refine AK rfl (Bt rfl rfl U U (AK rfl (AB rfl (AK rfl (AH rfl ER ?_)))))<;>(refine AK rfl ?_;(refine W_neq rfl rfl (fun T=>?_) (fun T=>?_)<;>try omega))<;>refine Ae rfl (AE rfl (AE rfl (AK rfl (AX rfl (AK rfl (AG rfl (AK rfl (AB rfl (AK rfl (AH rfl (Blk.cell ER EQ) ?_))))))))))<;>refine AK rfl (Bt rfl rfl U U (AK rfl (AB rfl (AK rfl (AH rfl ER ?_)))))<;>refine AK rfl (BC rfl ?_)<;>(refine AK rfl ?_;refine Bg rfl rfl (fun T=>?_) (fun T=>?_))<;>refine Ae rfl (AE rfl (AO (AE rfl ?_))))
   ·refine go ?_;exact AC rfl ⟨by simp_all [upd,Nat.beq,A4,bare],rfl⟩
   ·refine go ?_;exact AC rfl ⟨by simp_all [upd,Nat.beq,A4,bare],rfl⟩
def keyC:LV:=keysL.map AL
def KY(w:World):Prop:=Cells w 0 0 keyC
def okAt(i:Nat)(c:UInt8):Bool:=A5 c||(decide (0<i)&&(Au c||decide (c.toNat=95)))
def shapeB(s:LU):Bool:=A5 (s.getD 0 0)&&s.all restB
theorem shapeB_iff(s:LU)(h:1<=s.length):shapeB s=true↔∀(i:Nat)(c:UInt8),s[i]?=some c->okAt i c=true:=by
 match s,h with
 |d::s,_=>
  simp only[shapeB,List.getD_eq_getElem?_getD,List.getElem?_cons_zero,Option.getD_some,Bool.and_eq_true,List.all_eq_true];constructor
  ·rintro⟨Z,W⟩i c T;cases i with
   |zero=>simp at T;subst T;simp[okAt,Z]
   |succ i=>
    have:=W c (List.mem_of_getElem? T);simp[restB]at this;simp[okAt];rcases this with(h|h)|h
    ·exact .inl h
    ·exact .inr (.inl h)
    ·exact .inr (.inr h)
  ·intro h;have t:=h 0 d rfl;simp[okAt]at t;refine⟨t,fun c T=>?_⟩;obtain⟨i,H⟩:=List.getElem?_of_mem T;have:=h i c H;simp only[okAt,restB,Bool.or_eq_true,Bool.and_eq_true,decide_eq_true_eq]at this⊢;rcases this with h|⟨_,h|h⟩
   ·exact .inl (.inl h)
   ·exact .inl (.inr h)
   ·exact .inr h
theorem DN(s:LU):BH s=(decide (1<=s.length)&&decide (s.length<=12)&&shapeB s&& !decide (s∈keysL)):=by
 unfold BH shapeB;cases decide (1<=s.length)<;>cases decide (s.length<=12)<;>cases A5 (s.getD 0 0)<;>cases s.all restB<;>rfl
theorem Do(s:LU)(w:World)(X:KY w):Fn Zp 91 [AL s] w fun v w'=>v=.bool (BH s)/\w'=w:=by
 refine AN Tryz.func91 rfl Tryz.ntmps91 (go ?_);by_cases t:s.length<1
 ·refine go ?_;exact AC rfl ⟨by rw[DN,decide_eq_false (show¬1<=s.length by omega)];rfl,rfl⟩
 by_cases n:12<s.length
 ·refine go ?_;exact AC rfl ⟨by rw[DN,decide_eq_false (show¬s.length<=12 by omega)];simp[upd,Nat.beq],rfl⟩
 refine go ?_;refine Ar (α:=Nat) (fun k=>[(0,AL s),(3,.bool true),(17,iV (s.length:Int)),(18,iV (k:Int))]) (fun k Q=>k<=s.length/\(∀(i:Nat)(c:UInt8),i<k->s[i]?=some c->okAt i c=true)/\Q=w) (fun k=>s.length-k) 0 ⟨rfl,rfl,rfl,rfl,trivial⟩ ⟨by omega,fun i c H=>by omega,rfl⟩ ?_;rintro k Q r⟨j,p,rfl⟩;repeat refine nx rfl ?_
 by_cases x:k<s.length
 ·have Z:s[k]?=some s[k]:=List.getElem?_eq_getElem x;generalize s[k]=c at Z;have q:=c.toNat_lt
  have z:okAt k c=true->∀(i:Nat)(d:UInt8),i<k+1->s[i]?=some d->okAt i d=true:=fun G i d H C=>by
   by_cases f:i=k
   ·subst f;rw[Z]at C;cases C;exact G
   ·exact p i d U C
  (refine AJ ?_<;>(refine C6 rfl rfl (fun T=>?_) (fun T=>?_)<;>try omega))
  repeat refine nx rfl ?_
  refine AJ (AS rfl (AO (AS rfl ?_)));repeat refine nx rfl ?_
  (refine AJ (BC rfl (AS rfl (Dm rfl rfl ER ?_)))<;>refine AO (AS rfl ?_))
  repeat refine nx rfl ?_
  by_cases F:97<=c.toNat/\c.toNat<=122
  ·have G:okAt k c=true:=by simp[okAt,A5,F.1,F.2]
   (refine AJ (AS rfl ?_)<;>(refine Cp rfl rfl (fun T=>?_) (fun T=>?_)<;>try omega)<;>refine AE rfl (AK rfl (AS rfl ?_))<;>(refine AK rfl ?_;(refine Cp rfl rfl (fun T=>?_) (fun T=>?_)<;>try omega))<;>refine Ae rfl (AE rfl (AO (AE rfl ?_))))
   repeat refine nx rfl ?_
   (refine AJ (W_add rfl rfl Ea ?_)<;>refine AS rfl ?_)
   repeat refine nx rfl ?_
   refine⟨k+1,⟨rfl,⟨rfl,rfl,rfl,?_,trivial⟩,⟨by omega,z G,rfl⟩⟩,by omega⟩;show iV ((k:Int)+1)=_;rw[Int.natCast_add];rfl
  ·have m:A5 c=false:=by simp[A5];omega
   by_cases l:0<k/\((48<=c.toNat/\c.toNat<=57)\/c.toNat=95)
   ·have G:okAt k c=true:=by
     simp only[okAt,Au,Bool.or_eq_true,Bool.and_eq_true,decide_eq_true_eq];exact .inr l
    (refine AJ (AS rfl ?_)<;>(refine Cp rfl rfl (fun T=>?_) (fun T=>?_)<;>try omega)<;>refine AE rfl (Ah rfl (Ah rfl (Ad rfl (AE rfl (AO (AE rfl (AA ?_))))))))
    all_goals
     repeat first|refine nx rfl ?_|refine nf rfl ?_
     (refine AJ (AS rfl ?_)<;>(refine W_gtr rfl rfl (fun T=>?_) (fun T=>?_)<;>try omega)<;>refine AE rfl (AK rfl (AS rfl ?_))<;>(refine AK rfl ?_;(refine Cp rfl rfl (fun T=>?_) (fun T=>?_)<;>try omega))<;>refine AK rfl (AE rfl (AK rfl (AS rfl ?_)))<;>(refine AK rfl ?_;(refine Cp rfl rfl (fun T=>?_) (fun T=>?_)<;>try omega))<;>refine AK rfl (Ae rfl (AE rfl (AK rfl (AE rfl ?_))))<;>(first|refine Ah rfl ?_|(refine AK rfl ?_;refine AS rfl ?_))<;>(first|refine Ah rfl ?_|(refine AK rfl ?_;(refine Bf rfl rfl (fun T=>?_) (fun T=>?_)<;>try omega)))<;>(refine AK rfl ?_;((first|refine Ae rfl ?_|refine Ad rfl ?_);refine AE rfl ?_))<;>refine Ae rfl (AE rfl (AO (AE rfl (AA ?_)))))
     all_goals
      repeat refine nx rfl ?_
      (refine AJ (W_add rfl rfl Ea ?_)<;>refine AS rfl ?_)
      repeat refine nx rfl ?_
      refine⟨k+1,⟨rfl,⟨rfl,rfl,rfl,?_,trivial⟩,⟨by omega,z G,rfl⟩⟩,by omega⟩;show iV ((k:Int)+1)=_;rw[Int.natCast_add];rfl
   ·have g:shapeB s=false:=by
     cases hsb:shapeB s with
     |false=>rfl
     |true=>
      have:=(shapeB_iff s U).1 hsb k c Z;simp only[okAt,m,Au,Bool.false_or,Bool.or_eq_true,Bool.and_eq_true,decide_eq_true_eq]at this;exact absurd this l
    (refine AJ (AS rfl ?_)<;>(refine Cp rfl rfl (fun T=>?_) (fun T=>?_)<;>try omega)<;>refine AE rfl ?_<;>(first|refine Ah rfl ?_|(refine AK rfl ?_;refine AS rfl ?_))<;>(first|refine Ah rfl ?_|(refine AK rfl ?_;(refine Cp rfl rfl (fun T=>?_) (fun T=>?_)<;>try omega)))<;>((first|refine Ae rfl ?_|refine Ad rfl ?_);refine AE rfl ?_)<;>refine AO (AE rfl (AA ?_)))
    all_goals
     repeat first|refine nx rfl ?_|refine nf rfl ?_
     (refine AJ (AS rfl ?_)<;>(refine W_gtr rfl rfl (fun T=>?_) (fun T=>?_)<;>try omega)<;>refine AE rfl ?_<;>(first|refine Ah rfl ?_|(refine AK rfl ?_;refine AS rfl ?_))<;>(first|refine Ah rfl ?_|(refine AK rfl ?_;(refine Cp rfl rfl (fun T=>?_) (fun T=>?_)<;>try omega)))<;>(first|refine Ah rfl ?_|(refine AK rfl ?_;refine AE rfl ?_))<;>(first|refine Ah rfl ?_|(refine AK rfl ?_;refine AS rfl ?_))<;>(first|refine Ah rfl ?_|(refine AK rfl ?_;(refine Cp rfl rfl (fun T=>?_) (fun T=>?_)<;>try omega)))<;>(first|refine Ah rfl ?_|(refine AK rfl ?_;((first|refine Ae rfl ?_|refine Ad rfl ?_);refine AE rfl ?_)))<;>(first|refine Ah rfl ?_|(refine AK rfl ?_;refine AE rfl ?_))<;>(first|refine Ah rfl ?_|(refine AK rfl ?_;refine AS rfl ?_))<;>(first|refine Ah rfl ?_|(refine AK rfl ?_;(refine Bf rfl rfl (fun T=>?_) (fun T=>?_)<;>try omega)))<;>(first|refine Ah rfl ?_|(refine AK rfl ?_;(refine Ad rfl ?_;refine AE rfl ?_)))<;>((first|refine Ae rfl ?_|refine Ad rfl ?_);refine AE rfl ?_)<;>refine AO (AE rfl (AA ?_)))
     all_goals
      repeat first|refine nx rfl ?_|refine nf rfl ?_
      refine AJ (AO (AE rfl ?_));repeat refine nx rfl ?_
      refine AJ (AQ (L:=keyC) rfl rfl X ?_);refine AS rfl ?_;repeat refine nx rfl ?_
      refine Ar (α:=Nat) (fun k=>[(0,AL s),(3,.bool false),(47,.agg keyC.toArray),(48,iV (k:Int))]) (fun k W=>k<=10/\s∉keysL.take k/\W=Q) (fun k=>10-k) 0 ⟨rfl,rfl,rfl,rfl,trivial⟩ ⟨by omega,by simp,rfl⟩ ?_;rintro k o N⟨j,I,rfl⟩;repeat refine nx rfl ?_
      by_cases x:k<10
      ·obtain⟨y,E⟩:∃y,keysL[k]?=some y:=⟨_,List.getElem?_eq_getElem (by show k<10;exact x)⟩;have D:keyC[k]?=some (AL y):=by unfold keyC;rw[List.getElem?_map,E];rfl
       have h:keysL.take (k+1)=keysL.take k++[y]:=by rw[List.take_add_one,E];rfl
       (refine AJ ?_<;>(refine C6 rfl rfl (fun T=>?_) (fun T=>?_)<;>try omega))
       repeat refine nx rfl ?_
       refine AJ ?_;refine W_vidx1 (L:=keyC) rfl rfl U D ?_;refine AO (BC rfl ?_);repeat refine nx rfl ?_
       by_cases a:y=s
       ·exact Fd
       ·(refine AJ (BC rfl (BC rfl ?_))<;>refine Bg rfl rfl (fun T=>?_) (fun T=>?_)<;>refine AA ?_)
        case refine_1=>exact absurd ER a
        refine go ?_;refine⟨k+1,⟨rfl,⟨rfl,rfl,rfl,?_,trivial⟩,⟨by omega,by rw[h];simp[I];exact fun e=>a e.symm,rfl⟩⟩,by omega⟩;show iV ((k:Int)+1)=_;rw[Int.natCast_add];rfl
      ·exact Fs
 ·obtain rfl:k=s.length:=by omega
  have g:shapeB s=true:=(shapeB_iff s U).2 fun i c T=>p i c (List.getElem?_eq_some_iff.1 T).1 T;refine go ?_;refine AQ (L:=keyC) rfl rfl X (go ?_);refine Ar (α:=Nat) (fun k=>[(0,AL s),(3,.bool true),(47,.agg keyC.toArray),(48,iV (k:Int))]) (fun k W=>k<=10/\s∉keysL.take k/\W=Q) (fun k=>10-k) 0 ⟨rfl,rfl,rfl,rfl,trivial⟩ ⟨by omega,by simp,rfl⟩ ?_;rintro k o N⟨j,I,rfl⟩;repeat refine nx rfl ?_
  by_cases x:k<10
  ·obtain⟨y,E⟩:∃y,keysL[k]?=some y:=⟨_,List.getElem?_eq_getElem (by show k<10;exact x)⟩;have D:keyC[k]?=some (AL y):=by unfold keyC;rw[List.getElem?_map,E];rfl
   have h:keysL.take (k+1)=keysL.take k++[y]:=by rw[List.take_add_one,E];rfl
   (refine AJ ?_<;>(refine C6 rfl rfl (fun T=>?_) (fun T=>?_)<;>try omega))
   repeat refine nx rfl ?_
   refine AJ ?_;refine W_vidx1 (L:=keyC) rfl rfl U D ?_;refine AO (BC rfl ?_);repeat refine nx rfl ?_
   by_cases a:y=s
   ·exact Fd
   ·(refine AJ (BC rfl (BC rfl ?_))<;>refine Bg rfl rfl (fun T=>?_) (fun T=>?_)<;>refine AA ?_)
    case refine_1=>exact absurd ER a
    refine go ?_;refine⟨k+1,⟨rfl,⟨rfl,rfl,rfl,?_,trivial⟩,⟨by omega,by rw[h];simp[I];exact fun e=>a e.symm,rfl⟩⟩,by omega⟩;show iV ((k:Int)+1)=_;rw[Int.natCast_add];rfl
  ·exact Fs
structure GK(w:World):Prop where
 gv:GV w
 keys:Cells w 0 0 keyC
theorem GK.E{X:List Nat}{w w':World}(h:GK w)(k:Keep X w w')(b:∀x∈X,10<=x):GK w':=
 ⟨h.gv.E k (fun V=>by have:=b _ V;omega) (fun V=>by have:=b _ V;omega),h.keys.E k (fun V=>by have:=b _ V;omega)⟩
theorem GK.ext{w w':World}(h:GK w)(k:Ext w w'):GK w':=h.E k fun x V=>by cases V
theorem sigName_ok(s:LU)(w:World)(X:GK w):Fn Zp 91 [AL s] w fun v w'=>v=.bool (BH s)/\w'=w:=Do s w X.keys
end
section
variable {mk:Prop}[MK mk]
attribute [local semireducible] WC AT B6 BK Bz Cx DZ By
variable {P:Program}{all:Array Oper}{Z:Fr->DS->List PanicEntry->World->Prop}{K:Fr->DS->World->Prop}{rest:List Oper}{f:Fr}{ds:DS}{w:World}
 {d:Nat}{ty:TypeId}{pos:String}{af:Array Edge}
theorem bytes_unm(w:World)(e:TypeId)(s:ByteArray):Unm (Lib.bytesWorld w e s) w.heap.size:=fun c t D h=>by
 rw[Lib.bytesWorld_at_new]at h;simp only[Option.some.injEq,Obj.cells.injEq]at h;obtain⟨rfl,_,_⟩:=h;refine .inr fun i v p=>?_;have a:=Array.mem_of_getElem? p;unfold Lib.bytesCells at a;rcases Array.mem_append.1 a with a|a
 ·obtain⟨b,_,rfl⟩:=Array.mem_map.1 a;exact⟨_,rfl⟩
 ·exact⟨0,Array.eq_of_mem_replicate a⟩
theorem W_strb{L a e size j:Nat}{z:Value}{x:Operand}{l:LU}[hs:SlT P a e size j z][he:IntT P e .u8][hd:StrT P L](V:ev f x=AL l)
  (h:∀w' cap,Ext w w'->w'.heap.size=w.heap.size+1->Cells w' w.heap.size 0 (DY l)->AT P all Z K rest (upd f d (.slice (sm w.heap.size) l.length cap)) ds w'):
  AT P all Z K (⟨some d,.convert L a x,ty,pos,af,none⟩::rest) f ds w:=by
 have G:=Lib.run_convert_string_bytes (P:=P) w L a e ⟨l.toArray⟩ hd.out hs.und he.out;have I:(⟨l.toArray⟩:ByteArray).size=l.length:=by simp[ByteArray.size]
 rw[I]at G;refine A0 (v:=.slice (sm w.heap.size) l.length (grownCap w l.length 0 e)) (w':=Lib.bytesWorld w e ⟨l.toArray⟩) rfl ?_ (h _ _ ⟨rfl,rfl,rfl,?_,fun b S _=>Lib.bytesWorld_at_old w e _ b S,fun _=>mark_new (by rw[Lib.bytesWorld_size];omega) (fun b S=>Lib.bytesWorld_at_old w e _ b S) (bytes_unm w e _),(show w.drawn<=(Lib.bytesWorld w e ⟨l.toArray⟩).drawn by unfold Lib.bytesWorld World.freeze World.alloc World.drew;exact Nat.le_succ _)⟩ (Lib.bytesWorld_size w e _) ?_)
 ·simp only[execOp,V];simp[G]
 ·rw[Lib.bytesWorld_size];omega
 ·intro i u g
  have H:i<l.length:=by
   have:=(List.getElem?_eq_some_iff.1 g).1;simpa[DY]using this
  have:=Lib.bytesWorld_cell w e ⟨l.toArray⟩ i (by rw[I];exact H);rw[Nat.zero_add,this];rw[cells8_get H]at g;rw[<-g];simp[enc8,List.getD_eq_getElem?_getD]
class IfT (P:Program) (T:TypeId):Prop where
 out:∃ms,P.underlying T=some (.interface ms)
theorem W_nilneq{z M:TypeId}{x:Operand}[hT:IfT P z](V:ev f x=.nilIface)(h:AT P all Z K rest (upd f d (.bool false)) ds w):
  AT P all Z K (⟨some d,.binOp .neq z x (.const .nilIface) M,ty,pos,af,none⟩::rest) f ds w:=by
 obtain⟨c,a⟩:=hT.out;refine A0 rfl ?_ h
 have b:(Op.equalIn Op.maxDepth z .nilIface .nilIface).run P w=.ok true w:=by
  rw[show Op.maxDepth=9999+1 from rfl];generalize 9999=n;unfold Op.equalIn;simp[run_underlying a]
 have E:ev f (.const .nilIface)=.nilIface:=rfl;simp[execOp,V,E,eqGuard,binOp,Op.equal,b]
end
section
variable {mk:Prop}[MK mk]
instance :IfT Zp 208:=⟨_,Tryz.underlying208⟩
def topN:Nat->Int
 |0=>0
 |k+1=>10*topN k+9
theorem topN_le{k:Nat}(h:k<=4):topN k<=9999:=by
 match k,h with
 |0,_=>decide
 |1,_=>decide
 |2,_=>decide
 |3,_=>decide
 |4,_=>decide
 |k+5,h=>omega
theorem numOf_snoc(l:LU)(c:UInt8):EL (l++[c])=10*EL l+((c.toNat:Int)-48):=by simp[EL]
theorem numOf_le:∀(k:Nat)(l:LU),l.length=k->(∀c∈l,Au c=true)->0<=EL l/\EL l<=topN k
 |0,l,hl,_=>by
  obtain rfl:=List.eq_nil_of_length_eq_zero hl;exact⟨by decide,by decide⟩
 |k+1,l,hl,hd=>by
  have N:l≠[]:=fun e=>by subst e;simp at hl
  have e:=List.dropLast_concat_getLast N;have x:=numOf_le k l.dropLast (by simp[hl]) (fun c T=>hd c (List.dropLast_subset _ T));have T:=hd _ (List.getLast_mem N);generalize l.getLast N=c at T e;rw[<-e,numOf_snoc];simp[Au]at T;unfold topN;omega
theorem atoi_ok(s:LU)(w:World)(h:1<=s.length)(B:s.length<=4)(C:∀c∈s,Au c=true):Fn Zp 283 [AL s] w fun v w'=>v=.tuple #[iV (EL s),.nilIface]/\Ext w w':=by
 have Z:s[0]?=some s[0]:=List.getElem?_eq_getElem U;have g:=C s[0] (List.getElem_mem _);generalize s[0]=c0 at Z g;simp[Au]at g;refine AN Tryz.func283 rfl Tryz.ntmps283 (go ?_);refine W_strb rfl (fun Q E a m n=>go ?_);refine Ar (α:=Nat) (fun k=>[(5,AL s),(6,iV (EL (s.take k))),(47,.slice (sm w.heap.size) s.length E),(48,iV (s.length:Int)),(49,iV (k:Int))]) (fun k N=>k<=s.length/\N=Q) (fun k=>s.length-k) 0 ⟨rfl,rfl,rfl,rfl,rfl,trivial⟩ ⟨by omega,rfl⟩ ?_;rintro k N b⟨L,rfl⟩;refine go ?_;by_cases x:k<s.length
 ·have d:s[k]?=some s[k]:=List.getElem?_eq_getElem x;have f:=C s[k] (List.getElem_mem _);generalize s[k]=c at d f;simp[Au]at f;have S:N.cell? ⟨w.heap.size,0+k,none⟩=some (.int .u8 (c.toNat:Int)):=n k _ (by simp[DY,d,enc8]);have e:s.take (k+1)=s.take k++[c]:=by rw[List.take_add_one,d];rfl
  have I:=numOf_le k (s.take k) EP (fun c T=>C c (List.take_subset _ _ T));have F:=topN_le (k:=k) U;refine go ?_;refine⟨k+1,⟨rfl,⟨rfl,?_,rfl,rfl,?_,trivial⟩,⟨by omega,rfl⟩⟩,by omega⟩
  ·rw[e,numOf_snoc,Int.mul_comm 10];rfl
  ·show iV ((k:Int)+1)=_;rw[Int.natCast_add];rfl
 ·obtain rfl:k=s.length:=by omega
  refine go ?_;exact BP rfl ⟨by rw[List.take_length];rfl,a⟩
theorem Atoi_ok(s:LU)(w:World)(Z:1<=s.length)(B:s.length<=4)(C:∀c∈s,Au c=true):Fn Zp 196 [AL s] w fun v w'=>v=.tuple #[iV (EL s),.nilIface]/\Ext w w':=by
 refine AN Tryz.func196 rfl Tryz.ntmps196 (go ?_);refine AF (atoi_ok s w Z B C) rfl ?_;rintro v Q⟨rfl,a⟩;refine go ?_;refine W_nilneq rfl (go ?_);exact BP rfl ⟨rfl,a⟩
end
end Go.Proofs.YtjbocjodncbogaaGreatDoor
