/- TopTextDuties, part 3 of 15: lemmas. Conditions: none. -/
import Derived.Test.YtjbocjodncbogaaGreatDoorDX2
import Derived.Lib.ConvBytes
namespace Go.Proofs.YtjbocjodncbogaaGreatDoor
open Go.RowKit Go.Proofs.Tryz
set_option linter.unusedVariables false
set_option linter.defProp false
section
variable {mk:Prop}[MK mk]
def symsL:List (LU):=[[45,62],[33,61],[40],[41],[123],[125],[91],[93],[44],[59],[58],[61],[33],[38],[124]]
def spansL:List (Nat×Nat×Nat):=[(32,32,0),(9,10,0),(13,13,0),(37,37,1),(97,122,2),(65,90,2),(48,57,3),(40,41,4),(123,125,4),(91,91,4),(93,93,4),(44,45,4),(58,59,4),(61,61,4),(33,33,4),(38,38,4)]
def symC:LV:=symsL.map AA
def Gm(p:Nat×Nat×Nat):LV:=[.int .u8 (p.1:Int),.int .u8 (p.2.1:Int),iV (p.2.2:Int)]
def spanC:LV:=spansL.flatMap Gm
structure GV(w:World):Prop where
 spans:Cells w 1 0 spanC
 syms:Cells w 3 0 symC
 size:10<=w.heap.size
def GV.E{X:List Nat}{w w':World}(h:GV w)(k:Keep X w w')(v:1∉X)(Z:3∉X):GV w':=⟨h.spans.E k v,h.syms.E k Z,Az h.size k.size⟩
def GV.ext{w w':World}(h:GV w)(k:Ext w w'):GV w':=h.E k O O
def ET(t:LU)(a:Nat)(ts:List Tok):Res:=
 match symsL.find? (DG (t.drop a))with
 |some y=>CH t a ts 3 (a+y.length)
 |none=>.error (40,a)
def Qx{α:Type}{p:α->Bool}{l:List α}{k:Nat}{y:α}(h:l[k]?=some y):(l.drop k).find? p=if p y=true then some y else(l.drop (k+1)).find? p:=by
 obtain⟨Z,W⟩:=Ah.1 h;rw[NS Z,W,List.find?_cons];cases p y<;>rfl
def iA(o w:World)(s a:Nat)(t:LU)(ts:List Tok)(h:St o w s t a ts)(Z:a<t.length)(j:GV o)(c:10<=s):FnS 195 [pt s] w o s t (ET t a ts):=by
 have l:GV w:=j.E h.E rE rE;refine CK func195 rfl ntmps195 nlr rD (go ?_);refine Al rfl rfl l.syms (go ?_);refine Aj (α:=Nat) (fun k=>[(0,pt s),(4,.agg symC.toArray),(5,iV (k:Int))]) (fun k i=>k<=15/\Ext w i/\symsL.find? (DG (t.drop a))=(symsL.drop k).find? (DG (t.drop a))) (fun k=>15-k) 0 ⟨rfl,rfl,rfl,trivial⟩ ⟨by omega,Ext.refl _,rfl⟩ ?_;rintro k i f⟨A,g,K⟩;have Q:=h.ext g;refine nX ?_;by_cases z:k<15
 ·have b:symsL[k]?=some symsL[k]:=AU z;generalize symsL[k]=y at b;have r:symC[k]?=some (AA y):=by unfold symC;rw[Cl,b];rfl
  rw[Qx b]at K;refine AN (FX rfl rfl U ?_);refine nX ?_;refine AN (Rt rfl rfl z r (AT (BL rfl ?_)));refine nX ?_;refine Ab (rd 0 10 (.alt 10 .done .stop)) AX rD (fun X d T=>⟨fun W=>W=X,?_,?_⟩)
  ·rfl
  obtain⟨G,E,N,m,n,tv,S,p⟩:=id Q;have P:=S.E d O;((apply D_R rfl rfl;(intro W I;subst I;refine Aq rfl ?_;exact Z3))<;>(apply D_R rfl rfl;(intro W I;subst I;refine A7 rfl ?_;exact Z3))<;>(apply D_R rfl rfl;(intro W I;subst I;refine AV rfl ?_;exact Z3))<;>(apply D_R rfl rfl;(intro W I;subst I;refine AQ rfl (Blk.cell rG rF) ?_;exact Z3))<;>(apply D_R rfl rfl;(intro W I;subst I;refine Aq rfl ?_;exact Z3))<;>(apply D_R rfl rfl;(intro W I;subst I;refine A7 rfl ?_;exact Z3))<;>(apply D_R rfl rfl;(intro W I;subst I;refine AV rfl ?_;exact Z3))<;>(apply D_R rfl rfl;(intro W I;subst I;refine AQ rfl (Blk.cell rG rF) ?_;exact Z3))<;>(apply D_R rfl rfl;(intro W I;subst I;refine QV rfl rfl U ?_;exact Z3))<;>(apply D_R rfl rfl;(intro W I;subst I;refine BL rfl ?_;exact Z3)))
  refine D_E rfl ?_;refine AD (pu _ _ _) rfl ?_;rintro v L⟨rfl,rfl⟩;refine AB ⟨fun W=>W=_,fun _ h=>h,rfl,?_⟩;refine Cy ?_;cases hp:DG (t.drop a) y with
  |true=>
   rw[hp,AJ rfl]at K;have q:=((Ii _ _).1 hp).length_le;simp at q;refine nX ?_;(refine AN (Aq rfl (Aq rfl (A7 rfl (AV rfl (AQ rfl (Blk.cell rG rF) ?_)))))<;>refine BL rfl (EM rfl (Fz rfl rfl rQ ?_)))
   have e:ET t a ts=CH t a ts 3 (a+y.length):=by unfold ET;rw[K]
   rw[e];refine Av (LT o _ s a (a+y.length) t ts 3 (Q.ext d) U U) (by rw[BB];rfl) ?_ ?_
   ·rintro v L⟨rfl,H⟩;refine nX ?_;exact Oc rfl ⟨rfl,H⟩
   ·intro u L H;refine nX ?_;exact Ap H
  |false=>
   rw[hp,AG O]at K;refine nY ?_;(refine AN (Fz rfl rfl rQ ?_)<;>refine AS rfl ?_)
   refine nX ?_;refine⟨k+1,⟨rfl,⟨rfl,rfl,?_,trivial⟩,⟨by omega,g.Q d,K⟩⟩,by omega⟩;show iV ((k:Int)+1)=_;rw[BB];rfl
 ·obtain⟨G,E,N,m,n,tv,S,p⟩:=id Q;refine AN (JQ rfl rfl U ?_);refine nY ?_;(refine AN (Aq rfl (A7 rfl (AV rfl (AQ rfl (Blk.cell rG rF) ?_))))<;>refine DB rF rF ?_<;>refine GN (Gj rfl ?_))
  refine nX ?_;refine Ap ⟨_,_,?_,rfl,G⟩;unfold ET;have x:symsL.drop k=[]:=NV (by show 15<=k;omega);rw[K,x];rfl
end
def Jp:=@List.find?_some
def Ld:=@List.mem_of_find?_eq_some
def GZ:=@List.flatMap_cons
def No:=@List.drop_append
def Ef:=@List.nil_append
def Lr:=@Nat.lt_succ_self
section
variable {mk:Prop}[MK mk]
def Hk(c:UInt8)(p:Nat×Nat×Nat):Bool:=decide (p.1<=c.toNat)&&decide (c.toNat<=p.2.1)
def EA(c:UInt8):Option Nat:=(spansL.find? (Hk c)).map (·.2.2)
def BZ(t:LU)(a:Nat)(ts:List Tok):Res:=
 match EA (t.getD a 0)with
 |some 0=>It a ts
 |some 1=>IN t a ts
 |some 2=>EX t a ts
 |some 3=>C8 t a ts
 |some _=>ET t a ts
 |none=>.error (40,a)
def Gs(t:LU):Nat->Nat->List Tok->Res
 |0,a,_=>.error (40,a)
 |n+1,a,ts=>if a<t.length then(match BZ t a ts with| .ok (a',ts')=>Gs t n a' ts'| .error e=>.error e)else .ok (a,ts)
def LM(t:LU):Res:=Gs t (t.length+1) 0 []
def Fu{t:LU}{a n Z:Nat}{ts ts':List Tok}{k:Int}(h:CH t a ts k n=.ok (Z,ts')):Z=n:=by
 unfold CH at h
 split at h
 ·cases h
 ·cases h;rfl
def fS{c:UInt8}(h:EA c=some 3):Ag c=true:=by
 unfold EA at h;obtain⟨p,C,P⟩:=Dd.1 h;have Z:=Jp C;have W:=Ld C;simp[spansL]at W;rcases W with rfl|rfl|rfl|rfl|rfl|rfl|rfl|rfl|rfl|rfl|rfl|rfl|rfl|rfl|rfl|rfl<;>simp at P;simpa[Hk,Ag]using Z
def dJ{c:UInt8}(h:EA c=some 1):CA c=true:=by
 unfold EA at h;obtain⟨p,C,P⟩:=Dd.1 h;have Z:=Jp C;have W:=Ld C;simp[spansL]at W;rcases W with rfl|rfl|rfl|rfl|rfl|rfl|rfl|rfl|rfl|rfl|rfl|rfl|rfl|rfl|rfl|rfl<;>simp at P;simp[Hk]at Z;simp[CA];omega
def IF{t:LU}{a Z:Nat}{ts ts':List Tok}(N:a<t.length)(h:BZ t a ts=.ok (Z,ts')):a<Z:=by
 have T:t[a]?=some t[a]:=AU N;generalize t[a]=c at T;unfold BZ at h;rw[HR T]at h
 split at h
 ·cases h;omega
 ·cases h;rw[Fo T (dJ rG)];have:=Fs CA t (a+1);omega
 ·unfold EX at h
  split at h
  ·cases h
  ·have:=Fu h;have:=Fs Bl t (a+1);omega
 ·unfold C8 at h
  split at h
  ·cases h
  ·have:=Fu h;rw[Fo T (fS rG)]at this;have:=Fs Ag t (a+1);omega
 ·unfold ET at h
  split at h
  ·rename_i y hy;have W:=Ld hy;have:=Fu h;have M:∀y∈symsL,1<=y.length:=by decide
   have:=M y W;omega
  ·cases h
 ·cases h
def Rf:∀(l:List (Nat×Nat×Nat))(k:Nat)(p:Nat×Nat×Nat),l[k]?=some p->((l.flatMap Gm).drop (k*3)).take 3=Gm p
 | [],k,p,h=>by simp at h
 |q::l,0,p,h=>by simp at h;subst h;simp[Gm]
 |q::l,k+1,p,h=>by
  have:=Rf l k p rT;rw[<-this,GZ,No,NV (by simp[Gm];omega),Ef]
  congr 2
  simp[Gm];omega
def fnC(s:Nat):LV:=[.func (.func 191) #[pt s] #[],.func (.func 192) #[pt s] #[],.func (.func 193) #[pt s] #[],.func (.func 194) #[pt s] #[],.func (.func 195) #[pt s] #[]]
def np(w:World)(s:Nat)(t:LU)(S:Blk w s 197 [AA t,iV 0,nS])(hG:GV w)(b4:10<=s)(N:t.length<=6000):FnS 133 [pt s] w w s t (LM t):=by
 have b6:=S.lt;refine CK func133 rfl ntmps133 nlr rD ?_;refine nX ?_;refine AN (Aq rfl (Jt rfl rfl (Aq rfl (Jt rfl rfl (Aq rfl (Jt rfl rfl (Aq rfl (Jt rfl rfl (Aq rfl (Jt rfl rfl (Tl rF rF ?_)))))))))));refine Ai (fun w1 n1=>?_);refine Aa (cs:=fnC s) rfl rfl rfl (by intro u o;simp[fnC]at o;rcases o with rfl|rfl|rfl|rfl|rfl<;>rfl) n1.D (by simp[fnC]) (fun L E=>?_);have a2:Blk L w.heap.size 248 (fnC s):=E.D;have Q:Ext w L:=n1.E.E E.E O;have a9:=S.E Q O;refine nX ?_;have a1:=hG.ext Q;have b3:St L L s t 0 []:=⟨Keep.refl _ _,by have:=Q.size;omega,N,by omega,by simp,_,a9,⟨rfl,.inl ⟨rfl,rfl⟩⟩⟩;have b9:=a2.lt
 have b0:∀X a f,St L X s t a f->St w X s t a f:=fun X a f h=>by
  obtain⟨hk,hs,N,ha,H,tv,S,ho⟩:=h;exact⟨Q.any.Q hk fun x hx _=>hx,b6,N,ha,H,tv,S,I9 ho Q.size⟩
 have F:∀X,Keep [s] L X->Keep [s] w X:=fun X h=>Q.any.Q h fun x hx _=>hx;refine Aj (α:=Nat×Nat×List Tok) (fun _=>[(0,pt s),(2,pt w.heap.size)]) (fun x w1=>St L w1 s t x.2.1 x.2.2/\t.length<x.1+x.2.1/\Gs t x.1 x.2.1 x.2.2=LM t) (fun x=>x.1) (t.length+1,0,[]) ⟨rfl,rfl,trivial⟩ ⟨b3,by simp,rfl⟩ ?_;rintro⟨n,a,f⟩w3 f'⟨d,H,B⟩;simp only at d H B⊢;obtain⟨n,rfl⟩:∃m,n=m+1:=⟨n-1,by have:=d.loc;omega⟩;unfold Gs at B;refine nX ?_;refine Ab (rd 0 10 .done) AX rD (fun R D ed=>⟨fun W=>W=R,?_,?_⟩)
 ·rfl
 obtain⟨hk3,c7,_,ha3,c3,c9,a3,c5⟩:=id d;have P:=a3.E D O;by_cases z:a<t.length
 ·rw[AJ z]at B;((apply D_R rfl rfl;(intro W I;subst I;refine Aq rfl ?_;exact Z3))<;>(apply D_R rfl rfl;(intro W I;subst I;refine A7 rfl ?_;exact Z3))<;>(apply D_R rfl rfl;(intro W I;subst I;refine AV rfl ?_;exact Z3))<;>(apply D_R rfl rfl;(intro W I;subst I;refine AQ rfl (Blk.cell rG rF) ?_;exact Z3))<;>(apply D_R rfl rfl;(intro W I;subst I;refine Aq rfl ?_;exact Z3))<;>(apply D_R rfl rfl;(intro W I;subst I;refine A7 rfl ?_;exact Z3))<;>(apply D_R rfl rfl;(intro W I;subst I;refine AV rfl ?_;exact Z3))<;>(apply D_R rfl rfl;(intro W I;subst I;refine AQ rfl (Blk.cell rG rF) ?_;exact Z3))<;>(apply D_R rfl rfl;(intro W I;subst I;refine EM rfl ?_;exact Z3))<;>refine SQ rfl rfl rfl rfl U (Cy ?_))
  have a0:=d.ext D;have hc:t[a]?=some t[a]:=AU z;generalize t[a]=c at hc;have a6:GV R:=a1.E a0.E rE rE;have a7:Blk R w.heap.size 248 (fnC s):=a2.E a0.E rE;refine nX ?_;clear P;refine Ab (rd 0 10 .done) AX rD (fun R D ed=>⟨fun W=>W=R,?_,?_⟩)
  ·rfl
  have P:=(a3.E rG O).E D O;((apply D_R rfl rfl;(intro W I;subst I;refine Aq rfl ?_;exact Z3))<;>(apply D_R rfl rfl;(intro W I;subst I;refine A7 rfl ?_;exact Z3))<;>(apply D_R rfl rfl;(intro W I;subst I;refine AV rfl ?_;exact Z3))<;>(apply D_R rfl rfl;(intro W I;subst I;refine AQ rfl (Blk.cell rG rF) ?_;exact Z3))<;>(apply D_R rfl rfl;(intro W I;subst I;refine Aq rfl ?_;exact Z3))<;>(apply D_R rfl rfl;(intro W I;subst I;refine A7 rfl ?_;exact Z3))<;>(apply D_R rfl rfl;(intro W I;subst I;refine AV rfl ?_;exact Z3))<;>(apply D_R rfl rfl;(intro W I;subst I;refine AQ rfl (Blk.cell rG rF) ?_;exact Z3))<;>(apply D_R rfl rfl;(intro W I;subst I;refine FF rfl rfl rG ?_;exact Z3))<;>(apply D_R rfl rfl;(intro W I;subst I;(refine AT ?_;refine AS rfl ?_);exact Z3))<;>refine Cy ?_)
  have b5:=a0.ext D;have a5:=a6.ext D;have a8:=a7.E D O;clear P;refine nX ?_;refine AN (Al rfl rfl a5.spans (AS rfl ?_));refine nX ?_
  have G:BZ t a f=match(spansL.find? (Hk c)).map (·.2.2)with|some 0=>It a f|some 1=>IN t a f|some 2=>EX t a f|some 3=>C8 t a f|some _=>ET t a f|none=>.error (40,a):=by
   unfold BZ;rw[HR hc];rfl
  refine Aj (α:=Nat) (fun k=>[(0,pt s),(2,pt w.heap.size),(3,Gu c),(36,.agg spanC.toArray),(37,iV (k:Int))]) (fun k T=>k<=16/\Ext R T/\spansL.find? (Hk c)=(spansL.drop k).find? (Hk c)) (fun k=>16-k) 0 ⟨rfl,rfl,rfl,rfl,rfl,trivial⟩ ⟨by omega,Ext.refl _,rfl⟩ ?_;rintro k T f5⟨hk,V,K⟩;have h5:=b5.ext V;refine nX ?_;by_cases a4:k<16
  ·have C:spansL[k]?=some spansL[k]:=AU a4;generalize spansL[k]=p at C;rw[Qx C]at K
   have b2:p.2.2<5:=by
    have:∀p∈spansL,p.2.2<5:=by decide
    exact this p (BA C)
   refine AN (FX rfl rfl U ?_);refine nX ?_;(refine AN ?_;refine ow rfl rfl a4 (Rf _ _ _ C) ?_;refine Ai (fun w6 n6=>?_))
   refine Aa (cs:=Gm p) rfl rfl rfl (by intro u o;simp[Gm]at o;rcases o with rfl|rfl|rfl<;>rfl) n6.D (by simp[Gm]) (fun w7 p7=>?_);have b7:Blk w7 T.heap.size 250 (Gm p):=p7.D;have k7:Ext T w7:=n6.E.E p7.E O;have A:=h5.ext k7;refine nX ?_;have hb7:Blk w7 w.heap.size 248 (fnC s):=(a8.E V O).E k7 O;obtain⟨p1,E,i⟩:=p;simp only at b2;replace b7:Blk w7 T.heap.size 250 [.int .u8 (p1:Int),.int .u8 (E:Int),iV (i:Int)]:=b7;by_cases c1:p1<=c.toNat
   ·by_cases c2:c.toNat<=E
    ·rw[AJ (by simp[Hk,c1,c2])]at K;(refine AN (AV rfl (AQ rfl (Blk.cell rG rF) ?_))<;>refine AS rfl (Is rfl rfl U (AH rfl (AE rfl (AS rfl (AE rfl (AV rfl (AE rfl (AQ rfl (Blk.cell rG rF) ?_))))))))<;>refine AE rfl (Is rfl rfl U (BF rfl (AH rfl ?_))))
     refine nX ?_;obtain rfl|rfl|rfl|rfl|rfl:i=0\/i=1\/i=2\/i=3\/i=4:=by omega
     ·have j:BZ t a f=It a f:=by rw[G,K];rfl
      (refine AN (AV rfl (AQ rfl (Blk.cell rG rF) ?_))<;>refine Js rfl rfl U U (AQ rfl (Blk.cell rG rF) ?_))
      refine GJ (v1:=[pt s]) (v2:=[]) (vs:=[]) rfl (ib L _ s a t f A z) rfl ?_ ?_
      ·exact sX
      ·exact sq
     ·have j:BZ t a f=IN t a f:=by rw[G,K];rfl
      (refine AN (AV rfl (AQ rfl (Blk.cell rG rF) ?_))<;>refine Js rfl rfl U U (AQ rfl (Blk.cell rG rF) ?_))
      refine GJ (v1:=[pt s]) (v2:=[]) (vs:=[]) rfl (cS L _ s a t f A) rfl ?_ ?_
      ·exact sX
      ·exact sq
     ·have j:BZ t a f=EX t a f:=by rw[G,K];rfl
      (refine AN (AV rfl (AQ rfl (Blk.cell rG rF) ?_))<;>refine Js rfl rfl U U (AQ rfl (Blk.cell rG rF) ?_))
      refine GJ (v1:=[pt s]) (v2:=[]) (vs:=[]) rfl (bP L _ s a t f A z) rfl ?_ ?_
      ·exact sX
      ·exact sq
     ·have j:BZ t a f=C8 t a f:=by rw[G,K];rfl
      (refine AN (AV rfl (AQ rfl (Blk.cell rG rF) ?_))<;>refine Js rfl rfl U U (AQ rfl (Blk.cell rG rF) ?_))
      refine GJ (v1:=[pt s]) (v2:=[]) (vs:=[]) rfl (Z8 L _ s a t f A z) rfl ?_ ?_
      ·exact sX
      ·exact sq
     ·have j:BZ t a f=ET t a f:=by rw[G,K];rfl
      (refine AN (AV rfl (AQ rfl (Blk.cell rG rF) ?_))<;>refine Js rfl rfl U U (AQ rfl (Blk.cell rG rF) ?_))
      refine GJ (v1:=[pt s]) (v2:=[]) (vs:=[]) rfl (iA L _ s a t f A z a1 b4) rfl ?_ ?_
      ·exact sX
      ·exact sq
    ·rw[AG (by simp[Hk,c2])]at K;(refine AN (AV rfl (AQ rfl (Blk.cell rG rF) ?_))<;>refine AS rfl (Is rfl rfl U (AH rfl (AE rfl (AS rfl (AE rfl (AV rfl (AE rfl (AQ rfl (Blk.cell rG rF) ?_))))))))<;>refine AE rfl (KD rfl rfl U (BF rfl (AH rfl ?_))))
     refine nY ?_;(refine AN (Fz rfl rfl rQ ?_)<;>refine AS rfl ?_)
     refine nX ?_;refine⟨k+1,⟨rfl,⟨rfl,rfl,rfl,rfl,?_,trivial⟩,⟨by omega,V.Q k7,K⟩⟩,by omega⟩;show iV ((k:Int)+1)=_;rw[BB];rfl
   ·rw[AG (by simp[Hk,c1])]at K;(refine AN (AV rfl (AQ rfl (Blk.cell rG rF) ?_))<;>refine AS rfl (KD rfl rfl U (AH rfl (AP rfl (AP rfl (AP rfl (AP rfl (BJ rfl (AH rfl ?_)))))))))
    refine nY ?_;(refine AN (Fz rfl rfl rQ ?_)<;>refine AS rfl ?_)
    refine nX ?_;refine⟨k+1,⟨rfl,⟨rfl,rfl,rfl,rfl,?_,trivial⟩,⟨by omega,V.Q k7,K⟩⟩,by omega⟩;show iV ((k:Int)+1)=_;rw[BB];rfl
  ·obtain⟨b1,c8,_,b8,c4,d0,c0,c6⟩:=id h5;refine AN (JQ rfl rfl U ?_);refine nY ?_;(refine AN (Aq rfl (A7 rfl (AV rfl (AQ rfl (Blk.cell rG rF) ?_))))<;>refine DB rF rF ?_<;>refine GN (Gj rfl ?_))
   refine nX ?_;have hd:spansL.drop k=[]:=NV (by show 16<=k;omega);rw[hd]at K;rw[G,K]at B;exact Ap ⟨_,_,B.symm,rfl,F _ b1⟩
 ·rw[AG z]at B;((apply D_R rfl rfl;(intro W I;subst I;refine Aq rfl ?_;exact Z3))<;>(apply D_R rfl rfl;(intro W I;subst I;refine A7 rfl ?_;exact Z3))<;>(apply D_R rfl rfl;(intro W I;subst I;refine AV rfl ?_;exact Z3))<;>(apply D_R rfl rfl;(intro W I;subst I;refine AQ rfl (Blk.cell rG rF) ?_;exact Z3))<;>(apply D_R rfl rfl;(intro W I;subst I;refine Aq rfl ?_;exact Z3))<;>(apply D_R rfl rfl;(intro W I;subst I;refine A7 rfl ?_;exact Z3))<;>(apply D_R rfl rfl;(intro W I;subst I;refine AV rfl ?_;exact Z3))<;>(apply D_R rfl rfl;(intro W I;subst I;refine AQ rfl (Blk.cell rG rF) ?_;exact Z3))<;>(apply D_R rfl rfl;(intro W I;subst I;refine EM rfl ?_;exact Z3))<;>refine PH rfl rfl rfl rfl U (Cy ?_))
  refine nY ?_;exact Bt rfl ⟨rfl,_,_,B.symm,b0 _ _ _ (d.ext D)⟩
def nW(w:World)(D i s:Nat):CallsDIn Fence.wide 0 Zp 132 ([]++[pt D,pt i,pt s]:LV).toArray .returning w (fun e v w'=>match e with| .returned _=>v=.returning/\Ext w w'|_=>False):=by
 refine JC (u1:=.returning) (v0:=.nilIface) (G:=fun _ w'=>Ext w w') (args:=[pt D,pt i,pt s]) func132 rfl ntmps132 O rI rD rD (.inl ⟨rfl,rfl,rfl⟩) ?_;refine QG (z:=.agg #[iV 0,iV 0]) rfl rD (go ?_);refine Ai (fun Q a=>?_);refine Aa (cs:=[iV 0,iV 0]) rfl rfl rfl (by intro u o;simp at o;subst o;rfl) a.D O (fun L E=>?_);have m:Ext w L:=a.E.E E.E O;refine go ?_;exact Bt rfl m
def nV(w:World)(D i s:Nat)(g t j:Value)(e q:Int)(V:Blk w D 90 [g])(b:Blk w i 28 [t])(c:Blk w s 3 [j])(H:D≠i)(z:D≠s)(l:i≠s):
  CallsDIn Fence.wide 0 Zp 132 ([]++[pt D,pt i,pt s]:LV).toArray (.panicking [{v:=.iface 193 (.agg #[iV e,iV q]),recovered:=false}]) w
   (fun n r w'=>match n with| .returned _=>r=.panicking [{v:=.iface 193 (.agg #[.int .i64 e,.int .i64 q]),recovered:=true}]/\(Keep [D,i,s] w w'/\Blk w' D 90 [.slice none 0 0]/\Blk w' i 28 [.int .i64 e]/\Blk w' s 3 [.int .i64 q])|_=>False):=by
 have Z:=V.lt;have A:=b.lt;have B:=c.lt
 refine JC (u1:=.panicking [{v:=.iface 193 (.agg #[iV e,iV q]),recovered:=true}]) (v0:=.iface 193 (.agg #[iV e,iV q]))
  (G:=fun _ w'=>Keep [D,i,s] w w'/\Blk w' D 90 [nS]/\Blk w' i 28 [iV e]/\Blk w' s 3 [iV q]) (args:=[pt D,pt i,pt s]) func132 rfl ntmps132 O rI rD rD (.inr ⟨_,rfl,rfl,rfl⟩) ?_
 refine QH rfl ?_;refine Mf rfl (H7 rfl rfl (H7 rfl rfl ?_));refine Ai (fun Q f=>?_);refine Aa (cs:=[iV e,iV q]) rfl rfl rfl sE f.D O (fun L E=>?_);have m:Ext w L:=f.E.E E.E O;have a:Blk L w.heap.size 193 [iV e,iV q]:=E.D;replace V:=V.E m O;replace b:=b.E m O;replace c:=c.E m O;refine go ?_;refine Ab (rd 0 4 (.alt 4 (.alt 5 (.alt 6 .done .stop) .stop) .stop)) AX rD (fun X d T=>⟨fun W=>W.cell? ⟨w.heap.size,0,none⟩=some (iV e)/\W.cell? ⟨w.heap.size,1,none⟩=some (iV q),?_,?_⟩)
 ·exact⟨(a.E d O).cell rfl,(a.E d O).cell rfl⟩
 have x:∀W:World,(W.cell? ⟨w.heap.size,0,none⟩=some (iV e)/\W.cell? ⟨w.heap.size,1,none⟩=some (iV q))->W.cell? ⟨w.heap.size,0,none⟩=some (iV e):=fun W h=>h.1;have y:∀W:World,(W.cell? ⟨w.heap.size,0,none⟩=some (iV e)/\W.cell? ⟨w.heap.size,1,none⟩=some (iV q))->W.cell? ⟨w.heap.size,1,none⟩=some (iV q):=fun W h=>h.2;replace a:=a.E d O;replace V:=V.E d O;replace b:=b.E d O;replace c:=c.E d O;have k:Keep [D,i,s] w X:=(m.Q d).any;refine go ?_;refine gE ?_;refine AW rfl rfl rfl V O (fun W p=>?_);have F:=p.D;replace b:=b.E p.E rE;replace c:=c.E p.E rE;replace a:=a.E p.E rE;replace k:=k.Q p.E O;clear V;have V:=F;clear F p;refine wNl (⟨a.cell rfl,a.cell rfl⟩) ?_;refine D_E rfl ?_;refine AW rfl rfl rfl b O (fun W p=>?_);have F:=p.D;replace V:=V.E p.E rE;replace c:=c.E p.E rE;replace a:=a.E p.E rE;replace k:=k.Q p.E O;clear b;have b:=F;clear F p;refine wNl (⟨a.cell rfl,a.cell rfl⟩) ?_;refine D_E rfl ?_;refine AW rfl rfl rfl c O (fun W p=>?_);have F:=p.D;replace V:=V.E p.E rE;replace b:=b.E p.E rE;replace a:=a.E p.E rE;replace k:=k.Q p.E O;clear c;have c:=F;clear F p;refine wNl (⟨a.cell rfl,a.cell rfl⟩) ?_;refine go ?_;exact Bt rfl ⟨k,V,b,c⟩
def C7(t:LU):Except (Int×Nat) (List Tok):=
 if 6000<t.length then .error (2,6000)else match LM t with| .ok r=>.ok r.2| .error e=>.error e
def YC(B:Nat)(w':World)(m:Except (Int×Nat) (List Tok))(tv:Value)(e q:Int):Prop:=
 match m with
 | .ok ts=>e=0/\q= -1/\w'.ownsRow B 170 3 tv ts.length (EB ts)
 | .error (e',p)=>e=e'/\q=(p:Int)/\tv=nS
def pZ(w:World)(t:LU)(Z:GV w):Fn Zp 72 [AA t] w fun v w'=>∃tv e q,v=.tuple #[tv,iV e,iV q]/\Ext w w'/\YC w.heap.size w' (C7 t) tv e q:=by
 have h2:=Z.size;refine HN func72 rfl ntmps72 nlr rD (go ?_);refine Ai (fun Q X=>?_);refine Ai (fun m R=>?_);refine Ai (fun s o=>?_);have z1:=X.size;have z2:=R.size;have z3:=o.size;have P:Blk s w.heap.size 90 [nS]:=(X.D.E R.E O).E o.E O;have h:Blk s Q.heap.size 28 [iV 0]:=R.D.E o.E O;have S:Blk s m.heap.size 3 [iV 0]:=o.D;have k3:Ext w s:=(X.E.Q R.E).Q o.E;refine go ?_;by_cases d:6000<t.length
 ·refine go ?_;refine AW rfl rfl rfl P O (fun H C=>?_);refine AW rfl rfl rfl (h.E C.E rE) O (fun j x=>?_);refine AW rfl rfl rfl ((S.E C.E rE).E x.E rE) O (fun A c=>?_);have I:Blk A w.heap.size 90 [nS]:=(C.D.E x.E rE).E c.E rE;have D:Blk A Q.heap.size 28 [iV 2]:=x.D.E c.E rE;have i:Blk A m.heap.size 3 [iV 6000]:=c.D;have k6:Ext w A:=((k3.E C.E O).E x.E rE).E c.E rE;refine go ?_;refine Et (CV rfl (I.cell rfl) (CV rfl (D.cell rfl) (CV rfl (i.cell rfl) ?_)));refine⟨_,_,_,rfl,k6,?_⟩;unfold C7;rw[AJ d];exact⟨rfl,rfl,rfl⟩
 ·refine go ?_;refine Ox (v1:=[]) (v2:=[pt w.heap.size,pt Q.heap.size,pt m.heap.size]) (vs:=[]) rfl rfl (go ?_);refine Ac (L:=[AA t,iV 0,nS]) rfl (fun H l=>?_);have z4:=l.size;have s4:=l.D;have b:Ext w H:=k3.Q l.E;refine go ?_;have hm:C7 t=match LM t with| .ok r=>.ok r.2| .error e=>.error e:=by unfold C7;rw[AG d]
  refine Av (np H s.heap.size t s4 (Z.ext b) U U) rfl ?_ ?_
  ·rintro v j⟨rfl,a,n,B,h5⟩;obtain⟨k,a5,_,a2,a4,tv,a3,E⟩:=h5;refine go ?_;have f:Blk j w.heap.size 90 [nS]:=(P.E l.E O).E k rE;have T:Blk j Q.heap.size 28 [iV 0]:=(h.E l.E O).E k rE;have N:Blk j m.heap.size 3 [iV 0]:=(S.E l.E O).E k rE
   obtain⟨z,G,rfl⟩:∃z G,tv=.slice z n.length G:=by
    rcases E.2 with⟨rfl,h0⟩|⟨g,a0,a1,rfl,_⟩
    ·exact⟨none,0,by rw[h0]⟩
    ·exact ud
   refine AW rfl rfl rfl f O (fun A c=>?_);refine AW rfl rfl rfl (T.E c.E rE) O (fun w7 F=>?_);refine AW rfl rfl rfl ((N.E c.E rE).E F.E rE) O (fun W K=>?_);have I:Blk W w.heap.size 90 [.slice z n.length G]:=(c.D.E F.E rE).E K.E rE;have D:Blk W Q.heap.size 28 [iV 0]:=F.D.E K.E rE;have i:Blk W m.heap.size 3 [iV (-1)]:=K.D;have V:Ext w j:=b.E k rE;have k8:Ext w W:=((V.E c.E O).E F.E rE).E K.E rE;have M:∀g,(Value.slice z n.length G).ownBlock=some g->H.heap.size<=g:=fun g y=>(Ao E y).1;have o8:=Bf (Bf (Bf E c.E fun g y=>by have:=M g y;simp;omega) F.E fun g y=>by have:=M g y;simp;omega) K.E fun g y=>by have:=M g y;simp;omega
   refine go ?_;refine Nc (nW _ _ _ _) fun w9 u=>?_;refine CV rfl ((I.E u O).cell rfl) (CV rfl ((D.E u O).cell rfl) (CV rfl ((i.E u O).cell rfl) ?_));refine⟨_,_,_,rfl,k8.Q u,?_⟩;rw[hm,B];exact⟨rfl,rfl,I9 (CD o8 u) b.size⟩
  ·rintro ch j⟨e,p,B,rfl,k⟩;refine go ?_;have f:Blk j w.heap.size 90 [nS]:=(P.E l.E O).E k rE;have T:Blk j Q.heap.size 28 [iV 0]:=(h.E l.E O).E k rE;have N:Blk j m.heap.size 3 [iV 0]:=(S.E l.E O).E k rE;have V:Ext w j:=b.E k rE;refine Nb (nV _ _ _ _ _ _ _ e (p:Int) f T N U U U) fun w9 h9=>?_;obtain⟨u,I,D,i⟩:=h9;refine CV rfl (I.cell rfl) (CV rfl (D.cell rfl) (CV rfl (i.cell rfl) ?_));refine⟨_,_,_,rfl,V.E u rE,?_⟩;rw[hm,B];exact⟨rfl,rfl,rfl⟩
def Y3(w:World)(a:Option Addr)(c:Nat)(ts:List Tok):Prop:=Sl AL w (.slice a ts.length c) ts.length (EB ts)
def RL{t:LU}{a n p:Nat}{ts:List Tok}{k e:Int}(h:CH t a ts k n=.error (e,p)):e=2/\p=a/\ts.length=2000:=by
 unfold CH at h
 split at h
 ·cases h;exact⟨rfl,rfl,by assumption⟩
 ·cases h
def VA{t:LU}{a p:Nat}{ts:List Tok}{e:Int}(h:BZ t a ts=.error (e,p)):p=a/\(e=40\/e=2/\ts.length=2000):=by
 unfold BZ at h
 split at h
 ·cases h
 ·cases h
 ·unfold EX at h
  split at h
  ·cases h;exact⟨rfl,.inl rfl⟩
  ·obtain⟨Z,W,R⟩:=RL h;exact⟨W,.inr ⟨Z,R⟩⟩
 ·unfold C8 at h
  split at h
  ·cases h;exact⟨rfl,.inl rfl⟩
  ·obtain⟨Z,W,R⟩:=RL h;exact⟨W,.inr ⟨Z,R⟩⟩
 ·unfold ET at h
  split at h
  ·obtain⟨Z,W,R⟩:=RL h;exact⟨W,.inr ⟨Z,R⟩⟩
  ·cases h;exact⟨rfl,.inl rfl⟩
 ·cases h;exact⟨rfl,.inl rfl⟩
def U4(t:LU):∀(n a:Nat)(ts:List Tok)(e:Int)(p:Nat),Gs t n a ts=.error (e,p)->e≠0
 |0,a,ts,e,p,h=>by unfold Gs at h;cases h;decide
 |n+1,a,ts,e,p,h=>by
  unfold Gs at h
  split at h
  ·cases hs:BZ t a ts with
   |ok r=>rw[hs]at h;exact U4 t n _ _ e p h
   |error r=>
    rw[hs]at h;cases h;rcases(VA hs).2 with rfl|⟨rfl,_⟩<;>decide
  ·cases h
def ja{t:LU}{e:Int}{p:Nat}(h:C7 t=.error (e,p)):e≠0:=by
 unfold C7 at h
 split at h
 ·cases h;decide
 ·cases hs:LM t with
  |ok r=>rw[hs]at h;cases h
  |error r=>rw[hs]at h;cases h;exact U4 t _ _ _ _ _ hs
def ID{t:LU}{a n Z:Nat}{ts ts':List Tok}{k:Int}(h:CH t a ts k n=.ok (Z,ts')):ts'=ts++[⟨k,(t.take n).drop a,a⟩]/\ts.length≠2000:=by
 unfold CH at h
 split at h
 ·cases h
 ·cases h;exact⟨rfl,by assumption⟩
def O7{t:LU}{a Z:Nat}{ts ts':List Tok}(N:a<t.length)(h:BZ t a ts=.ok (Z,ts')):Z<=t.length:=by
 unfold BZ at h
 split at h
 ·cases h;omega
 ·cases h;exact Eu U
 ·unfold EX at h
  split at h
  ·cases h
  ·have:=Fu h;have:=Eu (p:=Bl) (t:=t) (a:=a+1) U;omega
 ·unfold C8 at h
  split at h
  ·cases h
  ·have:=Fu h;have:=Eu (p:=Ag) (t:=t) (a:=a) U;omega
 ·unfold ET at h
  split at h
  ·rename_i y hy;have W:=Jp hy;have:=Fu h;have:=((Ii _ _).1 W).length_le;simp at this;omega
  ·cases h
 ·cases h
def UB(t:LU):∀(n m a:Nat)(ts:List Tok),a<=t.length->t.length<n+a->t.length<m+a->Gs t n a ts=Gs t m a ts
 |0,_,_,_,h,h1,_=>by omega
 |_,0,_,_,h,_,h2=>by omega
 |n+1,m+1,a,ts,h,h1,h2=>by
  unfold Gs
  split
  ·cases hs:BZ t a ts with
   |ok r=>
    have f:=IF rG hs;have u:=O7 rG hs;exact UB t n m r.1 r.2 u U U
   |error e=>rfl
  ·rfl
def Fe(t:LU)(a:Nat)(ts:List Tok):Res:=Gs t (t.length+1-a) a ts
def OM{t:LU}{ts:List Tok}:Fe t t.length ts=.ok (t.length,ts):=by
 unfold Fe;rw[show t.length+1-t.length=0+1 by omega];unfold Gs;rw[AG U]
def JE{t:LU}{a:Nat}{ts:List Tok}(h:a<t.length):Fe t a ts=match BZ t a ts with| .ok r=>Fe t r.1 r.2| .error e=>.error e:=by
 unfold Fe;rw[show t.length+1-a=(t.length-a)+1 by omega]
 conv=>lhs;unfold Gs
 rw[AJ h];cases hs:BZ t a ts with
 |ok r=>
  have f:=IF h hs;have u:=O7 h hs;exact UB t _ _ r.1 r.2 u U U
 |error e=>rfl
def kl(t:LU):LM t=Fe t 0 []:=rfl
def R4{t:LU}(h:t.length<=6000):C7 t=match Fe t 0 []with| .ok r=>.ok r.2| .error e=>.error e:=by
 unfold C7;rw[AG U,kl]<;>cases Fe t 0 []<;>rfl
end
def Ln:=@List.take_succ_cons
def Ll:=@List.takeWhile_cons
def MF:=@List.take_take
def Ga:=@Nat.min_eq_left
def H0:=@Bool.or_eq_false_iff
def BE:=@decide_eq_true
def HE:=@Bool.true_and
section
variable {mk:Prop}[MK mk]
inductive Reach1(t:LU):Nat->List Tok->Nat->List Tok->Prop
 |refl (a:Nat) (ts:List Tok):Reach1 t a ts a ts
 |step {a a1 b:Nat} {ts ts1 tsb:List Tok} (h:a<t.length) (hs:BZ t a ts=.ok (a1,ts1)) (hr:Reach1 t a1 ts1 b tsb):Reach1 t a ts b tsb
def UF{t:LU}{a B:Nat}{ts D:List Tok}(h:BZ t a ts=.ok (B,D)):D=ts\/∃k,D=ts++[⟨k,(t.take B).drop a,a⟩]:=by
 unfold BZ at h
 split at h
 ·cases h;exact .inl rfl
 ·cases h;exact .inl rfl
 ·unfold EX at h
  split at h
  ·cases h
  ·have e:=Fu h;subst e;exact .inr ⟨_,(ID h).1⟩
 ·unfold C8 at h
  split at h
  ·cases h
  ·have e:=Fu h;subst e;exact .inr ⟨_,(ID h).1⟩
 ·unfold ET at h
  split at h
  ·have e:=Fu h;subst e;exact .inr ⟨_,(ID h).1⟩
  ·cases h
 ·cases h
def Z6{t:LU}:∀(m a:Nat)(ts:List Tok),t.length-a<=m->a<=t.length->
  (∃C,Fe t a ts=.ok (t.length,C)/\Reach1 t a ts t.length C)\/∃e p o,Fe t a ts=.error (e,p)/\Reach1 t a ts p o/\p<t.length/\BZ t p o=.error (e,p):=by
 intro m
 induction m with
 |zero=>
  intro a ts b G;obtain rfl:a=t.length:=by omega
  exact .inl ⟨ts,OM,.refl _ _⟩
 |succ m ih=>
  intro a ts b G;by_cases h:a<t.length
  ·rw[JE h];cases hs:BZ t a ts with
   |ok r=>
    have f:=IF h hs;have u:=O7 h hs;rcases ih r.1 r.2 U u with⟨C,Z,W⟩|⟨e,p,o,Z,W,R,A⟩
    ·exact .inl ⟨C,Z,.step h hs W⟩
    ·exact .inr ⟨e,p,o,Z,.step h hs W,R,A⟩
   |error r=>
    obtain⟨e,p⟩:=r;obtain⟨rfl,_⟩:=VA hs;exact .inr ⟨e,p,ts,rfl,.refl _ _,h,hs⟩
  ·obtain rfl:a=t.length:=by omega
   exact .inl ⟨ts,OM,.refl _ _⟩
def TK{q:UInt8->Bool}:∀(l:LU)(m:Nat),(l.takeWhile q).length<=m->((l.take m).takeWhile q).length=(l.takeWhile q).length
 | [],m,_=>by simp
 |x::l,0,h=>by simp at h⊢;cases hq:q x<;>simp_all
 |x::l,m+1,h=>by
  rw[Ln,Ll,Ll]at*
  cases hq:q x with
  |false=>simp
  |true=>simp[hq]at h⊢;exact TK l m h
def Nm{q:UInt8->Bool}{t:LU}{a p:Nat}(h:As q t a<=p):As q (t.take p) a=As q t a:=by
 unfold As at*
 rw[N3,TK _ _ U]
def Qr{t:LU}{a n p:Nat}{ts:List Tok}{k:Int}(h:n<=p):CH (t.take p) a ts k n=CH t a ts k n:=by
 unfold CH;rw[MF,Ga h]
def Qz{t:LU}{a p:Nat}(h:a<p):(t.take p).getD a 0=t.getD a 0:=by
 simp[h]
def eQ{α:Type}{f g:α->Bool}{l:List α}{y:α}(h:l.find? f=some y)(I:g y=true)(a:∀z,g z=true->f z=true):l.find? g=some y:=by
 induction l with
 |nil=>cases h
 |cons x l ih=>
  rw[List.find?_cons]at h⊢;cases hx:f x with
  |true=>rw[hx]at h;cases h;rw[I]
  |false=>
   rw[hx]at h;have:g x=false:=by cases hgx:g x with|false=>rfl|true=>rw[a x hgx]at hx;cases hx
   rw[this];exact ih h
def bE{t:LU}{a p:Nat}(C:p<=t.length)(G:a<p)(H:As Ag t a<=p)(h:B6 t a=false):B6 (t.take p) a=false:=by
 unfold B6 at*
 rw[Nm H,Qz G];rw[H0]at h⊢;refine⟨h.1,?_⟩;by_cases z:As Ag t a<p
 ·rw[Qz z];have W:=h.2;rw[BE (show As Ag t a<t.length by omega)]at W;rw[HE]at W;rw[W];simp
 ·rw[BC rE];rfl
def gx{t:LU}{a B p:Nat}{ts D:List Tok}(C:p<=t.length)(N:a<t.length)(E:BZ t a ts=.ok (B,D))(Z:B<=p):BZ (t.take p) a ts=.ok (B,D):=by
 have Q:=IF N E;have R:a<p:=by omega
 unfold BZ at E⊢;rw[Qz R]
 split at E
 ·exact E
 ·cases E;simp only[IN];rw[Nm Z]
 ·unfold EX at E⊢
  split at E
  ·cases E
  ·have e:=Fu E;subst e;rw[Nm Z,AG rG,Qr Z];exact E
 ·unfold C8 at E⊢
  split at E
  ·cases E
  ·rename_i hb;have e:=Fu E;subst e;rw[Nm Z,AG (by rw[bE C R Z (by simpa using hb)];simp),Qr Z];exact E
 ·unfold ET at E⊢
  split at E
  ·rename_i y hy;have e:=Fu E;have n:=(Ii _ _).1 (Jp hy)
   have K:symsL.find? (DG ((t.take p).drop a))=some y:=by
    refine eQ hy ((Ii _ _).2 ?_) fun z b=>(Ii _ _).2 ?_
    ·rw[N3];exact List.prefix_of_prefix_length_le n (List.take_prefix _ _) (by have:=n.length_le;simp at this⊢;omega) |> fun h=>h
    ·have:=(Ii _ _).1 b;rw[N3]at this;exact this.Q (List.take_prefix _ _)
   rw[K];simp only;rw[Qr U];exact E
  ·cases E
 ·cases E
def my{t:LU}{ts:List Tok}(h:C7 t=.ok ts):t.length<=6000/\Reach1 t 0 [] t.length ts:=by
 have N:t.length<=6000:=by
  unfold C7 at h
  split at h
  ·cases h
  ·omega
 refine⟨N,?_⟩;rw[R4 N]at h;rcases Z6 (t:=t) t.length 0 [] U U with⟨C,Z,W⟩|⟨e,p,o,Z,_⟩
 ·rw[Z]at h;cases h;exact W
 ·rw[Z]at h;cases h
end
def GE:=@List.take_of_length_le
section
variable {mk:Prop}[MK mk]
def shT(m:Nat)(x:Tok):Tok:=⟨x.kind,x.text,x.loc+m⟩
def Mi(v u:LU)(a:Nat):(v++u).drop (v.length+a)=u.drop a:=by
 rw[No];simp
def Il{q:UInt8->Bool}(v u:LU)(a:Nat):As q (v++u) (v.length+a)=v.length+As q u a:=by
 unfold As;rw[Mi];omega
def Xz(v u:LU)(a n:Nat):((v++u).take (v.length+n)).drop (v.length+a)=(u.take n).drop a:=by
 rw[List.take_append];rw[GE U,show v.length+n-v.length=n by omega,Mi]
def J6(v u:LU)(a:Nat):(v++u).getD (v.length+a) 0=u.getD a 0:=by
 simp[EJ]
def Ru{v u:LU}{a n B:Nat}{ts ts' D:List Tok}{k:Int}(h:CH u a ts' k n=.ok (B,D))(T:ts.length+D.length<=2000):
  CH (v++u) (v.length+a) (ts++ts'.map (shT v.length)) k (v.length+n)=.ok (v.length+B,ts++D.map (shT v.length)):=by
 have e:=Fu h;obtain⟨f,b⟩:=ID h;subst e;subst f;unfold CH;rw[AG (by simp at T⊢;omega),Xz];simp[shT,Nat.add_comm]
def OI(v u:LU)(a:Nat):B6 (v++u) (v.length+a)=B6 u a:=by
 unfold B6;rw[Il,J6,J6];rw[show v.length+As Ag u a-(v.length+a)=As Ag u a-a by omega];have e:decide (v.length+As Ag u a<(v++u).length)=decide (As Ag u a<u.length):=by simp
 rw[e]
def oD{v u:LU}{a B:Nat}{ts ts' D:List Tok}(h:BZ u a ts'=.ok (B,D))(T:ts.length+D.length<=2000):
  BZ (v++u) (v.length+a) (ts++ts'.map (shT v.length))=.ok (v.length+B,ts++D.map (shT v.length)):=by
 unfold BZ at h⊢;rw[J6]
 split at h
 ·cases h;simp[It];omega
 ·cases h;simp[IN,Il]
 ·unfold EX at h⊢
  split at h
  ·cases h
  ·rw[show v.length+a+1=v.length+(a+1) by omega,Il,AG U];exact Ru h T
 ·unfold C8 at h⊢
  split at h
  ·cases h
  ·rw[OI,AG rG,Il];exact Ru h T
 ·unfold ET at h⊢;rw[Mi]
  split at h
  ·rename_i y hy;rw[show v.length+a+y.length=v.length+(a+y.length) by omega];exact Ru h T
  ·cases h
 ·cases h
def IE(c:UInt8):Bool:=decide (c.toNat=32)||decide (c.toNat=9)||decide (c.toNat=10)||decide (c.toNat=13)
def eA(c:UInt8)(w:World):Fn Zp 161 [Gu c] w fun v w'=>v=.bool (IE c)/\w'=w:=by
 refine AM func161 rfl ntmps161 ?_;refine nX ?_;refine AN (AT (AH rfl ?_));refine nX ?_;(refine AN (AS rfl ?_)<;>(refine Cb rfl rfl (fun T=>?_) (fun T=>?_)<;>try omega)<;>refine AH rfl ?_<;>(first|refine AP rfl ?_|(refine AE rfl ?_;refine AS rfl ?_))<;>(first|refine AP rfl ?_|(refine AE rfl ?_;(refine Cb rfl rfl (fun T=>?_) (fun T=>?_)<;>try omega)))<;>((first|refine BF rfl ?_|refine BJ rfl ?_);refine AH rfl ?_)<;>refine AH rfl ?_<;>(first|refine AP rfl ?_|(refine AE rfl ?_;refine AS rfl ?_))<;>(first|refine AP rfl ?_|(refine AE rfl ?_;(refine Cb rfl rfl (fun T=>?_) (fun T=>?_)<;>try omega)))<;>((first|refine BF rfl ?_|refine BJ rfl ?_);refine AH rfl ?_)<;>refine AH rfl ?_<;>(first|refine AP rfl ?_|(refine AE rfl ?_;refine AS rfl ?_))<;>(first|refine AP rfl ?_|(refine AE rfl ?_;(refine Cb rfl rfl (fun T=>?_) (fun T=>?_)<;>try omega)))<;>((first|refine BF rfl ?_|refine BJ rfl ?_);refine AH rfl ?_)<;>refine AT (AH rfl (AB ?_)))
 all_goals
  refine nX ?_;exact AC rfl ⟨by simp[IE,upd,Nat.beq];omega,rfl⟩
def Hv(t:LU):Nat->Nat->Nat
 |0,a=>a
 |n+1,a=>if a<t.length then(if(t.getD a 0).toNat=37 then Hv t n (As CA t a)else if IE (t.getD a 0)=true then Hv t n (a+1)else a)else a
def OA(t:LU):∀(n m a:Nat),a<=t.length->t.length<n+a->t.length<m+a->Hv t n a=Hv t m a
 |0,_,_,h,h1,_=>by omega
 |_,0,_,h,_,h2=>by omega
 |n+1,m+1,a,h,h1,h2=>by
  unfold Hv
  split
  ·rename_i hl
   split
   ·rename_i h37;have T:t[a]?=some t[a]:=AU hl;have G:=Eu (p:=CA) (t:=t) (a:=a) U;have d:=Fo (p:=CA) T (by rw[HR T]at h37;simp[CA,h37]);have u:=Fs CA t (a+1);exact OA t n m _ G U U
   ·split
    ·exact OA t n m _ U U U
    ·rfl
  ·rfl
def Dn(t:LU)(a:Nat):Nat:=Hv t (t.length+1-a) a
def J0{t:LU}:Dn t t.length=t.length:=by
 unfold Dn;rw[show t.length+1-t.length=0+1 by omega];unfold Hv;rw[AG U]
def ML{t:LU}{a:Nat}{c:UInt8}(T:t[a]?=some c):Dn t a=if c.toNat=37 then Dn t (As CA t a)else if IE c=true then Dn t (a+1)else a:=by
 have N:a<t.length:=(Ah.1 T).1;unfold Dn;rw[show t.length+1-a=(t.length-a)+1 by omega]
 conv=>lhs;unfold Hv
 rw[AJ N,HR T]
 split
 ·rename_i h37;have G:=Eu (p:=CA) (t:=t) (a:=a) U;have d:=Fo (p:=CA) T (by simp[CA,h37]);have u:=Fs CA t (a+1);exact OA t _ _ _ G U U
 ·split
  ·exact OA t _ _ _ U U U
  ·rfl
def mo{c:UInt8}(h:EA c=some 0):c.toNat≠37/\IE c=true:=by
 unfold EA at h;obtain⟨p,C,P⟩:=Dd.1 h;have Z:=Jp C;have W:=Ld C;simp[spansL]at W;rcases W with rfl|rfl|rfl|rfl|rfl|rfl|rfl|rfl|rfl|rfl|rfl|rfl|rfl|rfl|rfl|rfl<;>simp at P
 all_goals
  simp[Hk]at Z;simp[IE];omega
def mq{c:UInt8}(h:EA c=some 1):c.toNat=37:=by
 unfold EA at h;obtain⟨p,C,P⟩:=Dd.1 h;have Z:=Jp C;have W:=Ld C;simp[spansL]at W;rcases W with rfl|rfl|rfl|rfl|rfl|rfl|rfl|rfl|rfl|rfl|rfl|rfl|rfl|rfl|rfl|rfl<;>simp at P;simp[Hk]at Z;omega
def R0(v u:LU):∀(n j:Nat),Hv (v++u) n (v.length+j)=v.length+Hv u n j
 |0,j=>rfl
 |n+1,j=>by
  unfold Hv;rw[J6,Il,GH,R0 v u n,R0 v u n];have e:(v.length+j<(v++u).length)=(j<u.length):=by simp
  simp only[e]
  split
  ·split
   ·rfl
   ·split<;>rfl
  ·rfl
def mL(v u:LU)(j:Nat)(C:j<=u.length):Dn (v++u) (v.length+j)=v.length+Dn u j:=by
 unfold Dn;rw[<-R0,show(v++u).length+1-(v.length+j)=u.length+1-j by simp;omega]
end
section
variable {mk:Prop}[MK mk]
end
def Ae:=@Option.some.inj
def N4:=@List.drop_zero
def DM:=@List.mem_append
def HB:=@List.take_append_drop
section
variable {mk:Prop}[MK mk]
def Rv{v u:LU}{B n:Nat}{ts:List Tok}{x:Tok}{k:Int}(h:CH (v++u) v.length ts k (v.length+n)=.ok (B,ts++[x])):
  CH u 0 [] k n=.ok (B-v.length,[⟨x.kind,x.text,0⟩]):=by
 have e:=Fu h;obtain⟨f,a⟩:=ID h;subst e;have:=List.append_cancel_left f;simp at this;subst this;unfold CH;have:=Xz v u 0 n;simp at this;simp[this]
def oG{v u:LU}{B:Nat}{ts:List Tok}{x:Tok}(h:BZ (v++u) v.length ts=.ok (B,ts++[x])):
  EA (u.getD 0 0)≠some 1/\BZ u 0 []=.ok (B-v.length,[⟨x.kind,x.text,0⟩]):=by
 unfold BZ at h⊢;have c:=J6 v u 0;simp only[HG]at c;rw[c]at h
 split at h
 ·simp[It]at h
 ·simp[IN]at h
 ·rename_i hk;rw[hk];refine⟨by simp,?_⟩;unfold EX at h⊢;have S:=Il (q:=Bl) v u 1
  split at h
  ·cases h
  ·rename_i hn;rw[S]at h hn;rw[AG (by simp only[Bs];omega)];exact Rv h
 ·rename_i hk;simp only[hk];refine⟨by simp,?_⟩;unfold C8 at h⊢;have S:=Il (q:=Ag) v u 0;have a:=OI v u 0;simp only[HG]at S a;rw[a,S]at h
  split at h
  ·cases h
  ·rename_i hn;rw[AG hn];exact Rv h
 ·rename_i k h0 h1 h2 h3 hk;rw[hk];refine⟨fun e=>h1 (Ae e),?_⟩;unfold ET at h⊢;have b:=Mi v u 0;simp only[HG,N4]at b;rw[b]at h
  split at h
  ·rename_i y hy;rw[N4,hy];simp only[Bs];exact Rv h
  ·cases h
 ·cases h
structure Alone(k:Int)(y:LU):Prop where
 pos:1<=y.length
 kind:EA (y.getD 0 0)≠some 1
 step:BZ y 0 []=.ok (y.length,[⟨k,y,0⟩])
def Reach1.alone{t:LU}{a b:Nat}{ts C:List Tok}(h:Reach1 t a ts b C)(S:b<=t.length)(c:∀x∈ts,Alone x.kind x.text):∀x∈C,Alone x.kind x.text:=by
 induction h with
 |refl=>exact c
 |step h hs hr ih=>
  rename_i a a1 b ts ts1 C;refine ih S ?_;have v:=IF h hs;have Z:=O7 h hs;rcases UF hs with rfl|⟨k,rfl⟩
  ·exact c
  ·intro x V;rcases DM.1 V with V|V
   ·exact c x V
   ·simp at V;subst V;have g:=gx (p:=a1) Z h hs (AO _);have s:(t.take a).length=a:=by simp;omega
    have d:t.take a1=t.take a++(t.take a1).drop a:=by
     have:t.take a=(t.take a1).take a:=by rw[MF,Ga U]
     rw[this,HB]
    generalize I:(t.take a1).drop a=y at d g⊢;have m:y.length=a1-a:=by rw[<-I];simp;omega
    rw[d]at g;have D:BZ (t.take a++y) (t.take a).length ts=.ok (a1,ts++[⟨k,y,a⟩]):=by rw[s];exact g
    obtain⟨X,P⟩:=oG D;rw[s,<-m]at P;exact⟨by simp only;omega,X,P⟩
def bare(x:Tok):Int×LU:=(x.kind,x.text)
end
def X8:=@Nat.le_max_left
section
variable {mk:Prop}[MK mk]
structure Opr where
 op:Int
 indexed:Int
 val:Int
deriving DecidableEq
inductive NT where
 |formula|orN|orL|andN|andL|untilN|unary|primary|req|line|lines|part|parts|signal|sigs|spec|edit
abbrev NT.T:NT->Type
 | .formula| .orN| .andN| .untilN| .unary| .primary=>Fml
 | .orL| .andL=>LF
 | .req| .line=>Rqm
 | .lines| .part=>List Rqm
 | .parts=>List (List Rqm)
 | .signal=>Sgn
 | .sigs=>List Sgn
 | .spec=>Spc
 | .edit=>Edt
abbrev BT:=Int×LU
inductive G(α:Type):Type where
 |ret (a:α)
 |fail
 |look (k:Option BT->G α)
 |next (g:G α)
 |call (nt:NT) (k:nt.T->G α)
def G.bind{α β:Type}:G α->(α->G β)->G β
 | .ret a,f=>f a
 | .fail,_=>.fail
 | .look k,f=>.look fun o=>(k o).bind f
 | .next g,f=>.next (g.bind f)
 | .call nt k,f=>.call nt fun v=>(k v).bind f
abbrev Ans(α:Type):=Except (List Tok) (α×List Tok)
def evG(P:(nt:NT)->List Tok->Option (Ans nt.T)){α:Type}:G α->List Tok->Option (Ans α)
 | .ret a,l=>some (.ok (a,l))
 | .fail,l=>some (.error l)
 | .look k,l=>evG P (k (l.head?.map bare)) l
 | .next g,l=>evG P g l.tail
 | .call nt k,l=>match P nt l with
  |none=>none
  |some (.error e)=>some (.error e)
  |some (.ok (v,l'))=>evG P (k v) l'
def Ax(s:LU):Option BT->Bool
 |some x=> !decide (x.1=2)&&decide (x.2=s)
 |none=>false
def Cw(s:LU):G Bool:=.look fun o=>if Ax s o=true then .next (.ret true)else .ret false
def Di(s:LU):G Unit:=.look fun o=>if Ax s o=true then .next (.ret ())else .fail
def nameG:G (LU):=.look fun o=>match o with
 |some x=>if decide (x.1=1)&&BP x.2 then .next (.ret x.2)else .fail
 |none=>.fail
def EY(s:LU):Int:=s.foldl (fun n c=>10*n+((c.toNat:Int)-48)) 0
def numberG:G Int:=.look fun o=>match o with
 |some x=>if decide (x.1=2)then .next (.ret (EY x.2))else .fail
 |none=>.fail
def prefixT:List (LU×Opr):=[([33],⟨4,0,0⟩),([88],⟨8,0,0⟩),([89],⟨15,0,0⟩),([90],⟨15,0,1⟩),([79],⟨18,0,0⟩),([72],⟨19,0,0⟩),([70],⟨11,13,0⟩),([71],⟨12,14,0⟩)]
def infixT:List (LU×Opr):=[([85],⟨9,0,0⟩),([82],⟨10,0,0⟩),([83],⟨16,16,0⟩),([84],⟨17,17,1⟩)]
def Hr(P:List (LU×Opr)):G (Option Opr):=.look fun o=>match o with
 |some x=>match P.lookup x.2 with
  |some p=>.next (.ret (some p))
  |none=>.ret none
 |none=>.ret none
def FZ(o:Opr):G (Option Int):=if o.indexed=0 then .ret none else(Cw [91]).bind fun b=>
 if b then numberG.bind fun n=>(Di [93]).bind fun _=>.ret (some n)else .ret none
def Hq(s t:LU):G Bool:=.look fun o=>.ret (Ax s o||Ax t o)
def body:(nt:NT)->G nt.T
 | .formula=>.call .orN fun a=>(Cw [45,62]).bind fun b=>if b then .call .formula fun c=>.ret ⟨7,[],0,0,[a,c]⟩else .ret a
 | .orN=>.call .andN fun a=>.call .orL fun l=>.ret (LL 6 (a::l))
 | .orL=>(Cw [124]).bind fun b=>if b then .call .andN fun a=>.call .orL fun l=>.ret (a::l)else .ret []
 | .andN=>.call .untilN fun a=>.call .andL fun l=>.ret (LL 5 (a::l))
 | .andL=>(Cw [38]).bind fun b=>if b then .call .untilN fun a=>.call .andL fun l=>.ret (a::l)else .ret []
 | .untilN=>.call .unary fun a=>(Hr infixT).bind fun
  |none=>.ret a
  |some o=>(FZ o).bind fun n=>.call .untilN fun c=>.ret ⟨o.op,[],n.getD o.val,0,[a,c]⟩
 | .unary=>(Hr prefixT).bind fun
  |none=>.call .primary .ret
  |some o=>(FZ o).bind fun n=>.call .unary fun a=>.ret (match n with
   |some n=>⟨o.indexed,[],o.val,n,[a]⟩
   |none=>⟨o.op,[],o.val,0,[a]⟩)
 | .primary=>(Cw [116,114,117,101]).bind fun b=>if b then .ret ⟨1,[],0,0,[]⟩else
  (Cw [102,97,108,115,101]).bind fun b=>if b then .ret ⟨2,[],0,0,[]⟩else
  (Cw [40]).bind fun b=>if b then .call .formula fun f=>(Di [41]).bind fun _=>.ret f else
  nameG.bind fun s=>(Cw [61]).bind fun b=>if b then numberG.bind fun n=>.ret (isF s n)else
  (Cw [33,61]).bind fun b=>if b then numberG.bind fun n=>.ret (notF (isF s n))else .ret (isF s 1)
 | .req=>(Cw [97,115,115,117,109,101]).bind fun b=>(if b then .ret 1 else(Di [103,117,97,114,97,110,116,101,101]).bind fun _=>.ret 2).bind fun k=>
  nameG.bind fun s=>(Di [58]).bind fun _=>.call .formula fun f=>.ret ⟨[],s,k,f⟩
 | .line=>.call .req fun r=>(Di [59]).bind fun _=>.ret r
 | .lines=>(Hq [97,115,115,117,109,101] [103,117,97,114,97,110,116,101,101]).bind fun b=>if b then .call .line fun r=>.call .lines fun l=>.ret (r::l)else .ret []
 | .part=>(Di [112,97,114,116]).bind fun _=>nameG.bind fun s=>(Di [123]).bind fun _=>.call .lines fun l=>(Di [125]).bind fun _=>.ret (l.map fun r=>⟨s,r.name,r.kind,r.formula⟩)
 | .parts=>(Hq [112,97,114,116] [112,97,114,116]).bind fun b=>if b then .call .part fun l=>.call .parts fun m=>.ret (l::m)else .ret []
 | .signal=>(Cw [105,110,112,117,116]).bind fun i=>(if i then .ret ()else Di [111,117,116,112,117,116]).bind fun _=>nameG.bind fun s=>
  ((Cw [58]).bind fun b=>if b then numberG else .ret 2).bind fun n=>(Di [59]).bind fun _=>.ret ⟨s,i,n⟩
 | .sigs=>(Hq [105,110,112,117,116] [111,117,116,112,117,116]).bind fun b=>if b then .call .signal fun x=>.call .sigs fun l=>.ret (x::l)else .ret []
 | .spec=>.call .sigs fun s=>.call .parts fun r=>.ret ⟨s,r.flatten⟩
 | .edit=>(Cw [100,114,111,112]).bind fun b=>if b then nameG.bind fun s=>.ret ⟨2,⟨[],s,0,Ad⟩⟩else
  (Cw [97,100,100]).bind fun b=>(if b then .ret 1 else(Di [114,101,112,108,97,99,101]).bind fun _=>.ret 3).bind fun k=>
  nameG.bind fun p=>.call .req fun r=>.ret ⟨k,⟨p,r.name,r.kind,r.formula⟩⟩
def whole(nt:NT):G nt.T:=.call nt fun v=>.look fun o=>match o with
 |none=>.ret v
 |some _=>.fail
def evN:Nat->(nt:NT)->List Tok->Option (Ans nt.T)
 |0,_,_=>none
 |n+1,nt,l=>evG (evN n) (body nt) l
def Run{α:Type}(p:G α)(l:List Tok)(r:Ans α):Prop:=∃n,evG (evN n) p l=some r
def RunN(nt:NT)(l:List Tok)(r:Ans nt.T):Prop:=Run (body nt) l r
def MW{f g:(nt:NT)->List Tok->Option (Ans nt.T)}(h:∀nt l r,f nt l=some r->g nt l=some r){α:Type}:∀(p:G α)(l:List Tok)(r:Ans α),evG f p l=some r->evG g p l=some r
 | .ret a,l,r,hr=>hr
 | .fail,l,r,hr=>hr
 | .look k,l,r,hr=>by simp only[evG]at hr⊢;exact MW h (k _) l r hr
 | .next q,l,r,hr=>by simp only[evG]at hr⊢;exact MW h q _ r hr
 | .call nt k,l,r,hr=>by
  simp only[evG]at hr⊢;cases hf:f nt l with
  |none=>rw[hf]at hr;cases hr
  |some x=>
   rw[hf]at hr;rw[h nt l x hf];cases x with
   |error e=>exact hr
   |ok y=>exact MW h (k y.1) y.2 r hr
def Vj:∀(n:Nat)(nt:NT)(l:List Tok)(r:Ans nt.T),evN n nt l=some r->evN (n+1) nt l=some r
 |0,nt,l,r,h=>by cases h
 |n+1,nt,l,r,h=>by
  unfold evN at h⊢;exact MW (fun nt l r h=>Vj n nt l r h) _ _ _ h
def ip{n m:Nat}(h:n<=m)(nt:NT)(l:List Tok)(r:Ans nt.T)(B:evN n nt l=some r):evN m nt l=some r:=by
 induction h with
 |refl=>exact B
 |step _ ih=>exact Vj _ _ _ _ ih
def Kz{n m:Nat}(h:n<=m){α:Type}{p:G α}{l:List Tok}{r:Ans α}(B:evG (evN n) p l=some r):evG (evN m) p l=some r:=
 MW (fun v l r Q=>ip h v l r Q) p l r B
def Run.det{α:Type}{p:G α}{l:List Tok}{r C:Ans α}(h:Run p l r)(Q:Run p l C):r=C:=by
 obtain⟨n,H⟩:=h;obtain⟨m,a⟩:=Q;have Z:=Kz (X8 n m) H;have W:=Kz (Nat.le_max_right n m) a;rw[Z]at W;exact Ae W
def Run.ret{α:Type}(a:α)(l:List Tok):Run (.ret a) l (.ok (a,l)):=⟨0,rfl⟩
def Run.fail{α:Type}(l:List Tok):Run (.fail:G α) l (.error l):=⟨0,rfl⟩
def Run.look{α:Type}{k:Option BT->G α}{l:List Tok}{r:Ans α}(h:Run (k (l.head?.map bare)) l r):Run (.look k) l r:=h
def Run.next{α:Type}{g:G α}{l:List Tok}{r:Ans α}(h:Run g l.tail r):Run (.next g) l r:=h
def Run.call{α:Type}{nt:NT}{k:nt.T->G α}{l l':List Tok}{v:nt.T}{r:Ans α}(h:RunN nt l (.ok (v,l')))(Q:Run (k v) l' r):Run (.call nt k) l r:=by
 obtain⟨n,H⟩:=h;obtain⟨m,a⟩:=Q;refine⟨max n m+1,?_⟩;have Z:evN (max n m+1) nt l=some (.ok (v,l')):=Kz (X8 n m) H;simp only[evG,Z];exact Kz U a
def Run.callE{α:Type}{nt:NT}{k:nt.T->G α}{l e:List Tok}(h:RunN nt l (.error e)):Run (.call nt k) l (.error e):=by
 obtain⟨n,H⟩:=h;refine⟨n+1,?_⟩;have Z:evN (n+1) nt l=some (.error e):=H;simp only[evG,Z]
def Run.call_inv{α:Type}{nt:NT}{k:nt.T->G α}{l:List Tok}{r:Ans α}(h:Run (.call nt k) l r):(∃v l',RunN nt l (.ok (v,l'))/\Run (k v) l' r)\/∃e,RunN nt l (.error e)/\r=.error e:=by
 obtain⟨n,H⟩:=h;simp only[evG]at H;cases n with
 |zero=>simp[evN]at H
 |succ n=>
  cases hf:evN (n+1) nt l with
  |none=>rw[hf]at H;cases H
  |some x=>
   rw[hf]at H;have a:evG (evN n) (body nt) l=some x:=hf;cases x with
   |error e=>cases H;exact .inr ⟨e,⟨n,a⟩,rfl⟩
   |ok y=>exact .inl ⟨y.1,y.2,⟨n,a⟩,⟨n+1,H⟩⟩
def Kq(f:(nt:NT)->List Tok->Option (Ans nt.T)){α β:Type}:∀(p:G α)(q:α->G β)(l:List Tok),evG f (p.bind q) l=match evG f p l with
  |none=>none
  |some (.error e)=>some (.error e)
  |some (.ok (a,l'))=>evG f (q a) l'
 | .ret a,q,l=>rfl
 | .fail,q,l=>rfl
 | .look k,q,l=>by simp only[G.bind,evG];exact Kq f (k _) q l
 | .next g,q,l=>by simp only[G.bind,evG];exact Kq f g q _
 | .call nt k,q,l=>by
  simp only[G.bind,evG];cases f nt l with
  |none=>rfl
  |some x=>
   cases x with
   |error e=>rfl
   |ok y=>exact Kq f (k y.1) q y.2
def Run.bind{α β:Type}{p:G α}{q:α->G β}{l l':List Tok}{a:α}{r:Ans β}(h:Run p l (.ok (a,l')))(Q:Run (q a) l' r):Run (p.bind q) l r:=by
 obtain⟨n,H⟩:=h;obtain⟨m,b⟩:=Q;refine⟨max n m,?_⟩;rw[Kq,Kz (X8 n m) H];exact Kz (Nat.le_max_right n m) b
def Run.bindE{α β:Type}{p:G α}{q:α->G β}{l e:List Tok}(h:Run p l (.error e)):Run (p.bind q) l (.error e):=by
 obtain⟨n,H⟩:=h;exact⟨n,by rw[Kq,H]⟩
def Run.bind_inv{α β:Type}{p:G α}{q:α->G β}{l:List Tok}{r:Ans β}(h:Run (p.bind q) l r):(∃a l',Run p l (.ok (a,l'))/\Run (q a) l' r)\/∃e,Run p l (.error e)/\r=.error e:=by
 obtain⟨n,H⟩:=h;rw[Kq]at H;cases hf:evG (evN n) p l with
 |none=>rw[hf]at H;cases H
 |some x=>
  rw[hf]at H;cases x with
  |error e=>cases H;exact .inr ⟨e,⟨n,hf⟩,rfl⟩
  |ok y=>exact .inl ⟨y.1,y.2,⟨n,hf⟩,⟨n,H⟩⟩
end
def X6:=@Except.ok.injEq
section
variable {mk:Prop}[MK mk]
def Ans.rem{α:Type}:Ans α->List Tok
 | .ok y=>y.2
 | .error e=>e
def Ih{f:(nt:NT)->List Tok->Option (Ans nt.T)}(K:∀nt l r,f nt l=some r->Ans.rem r<:+l){α:Type}:∀(p:G α)(l:List Tok)(r:Ans α),evG f p l=some r->Ans.rem r<:+l
 | .ret a,l,r,h=>by cases h;exact List.suffix_rfl
 | .fail,l,r,h=>by cases h;exact List.suffix_rfl
 | .look k,l,r,h=>Ih K (k _) l r h
 | .next g,l,r,h=>(Ih K g l.tail r h).Q (List.tail_suffix l)
 | .call nt k,l,r,h=>by
  simp only[evG]at h;cases hn:f nt l with
  |none=>rw[hn]at h;cases h
  |some x=>
   rw[hn]at h;have Z:=K nt l x hn;cases x with
   |error e=>cases h;exact Z
   |ok y=>exact(Ih K (k y.1) y.2 r h).Q Z
def Nu:∀(n:Nat)(nt:NT)(l:List Tok)(r:Ans nt.T),evN n nt l=some r->Ans.rem r<:+l
 |0,_,_,_,h=>by cases h
 |n+1,nt,l,r,h=>Ih (Nu n) (body nt) l r h
def Run.suffix{α:Type}{p:G α}{l:List Tok}{r:Ans α}(h:Run p l r):Ans.rem r<:+l:=by
 obtain⟨n,H⟩:=h;exact Ih (Nu n) p l r H
def AR{α:Type}:Ans α->Ans α->Prop
 | .ok y,.ok z=>y.1=z.1/\y.2.map bare=z.2.map bare
 | .error e,.error e'=>e.map bare=e'.map bare
 |_,_=>False
def fN{l l':List Tok}(h:l.map bare=l'.map bare):l.head?.map bare=l'.head?.map bare:=by
 cases l<;>cases l'<;>simp_all
def iC{l l':List Tok}(h:l.map bare=l'.map bare):l.tail.map bare=l'.tail.map bare:=by
 cases l<;>cases l'<;>simp_all
def MV{f:(nt:NT)->List Tok->Option (Ans nt.T)}(K:∀nt l l' r,l.map bare=l'.map bare->f nt l=some r->∃C,f nt l'=some C/\AR r C){α:Type}:∀(p:G α)(l l':List Tok)(r:Ans α),l.map bare=l'.map bare->evG f p l=some r->∃C,evG f p l'=some C/\AR r C
 | .ret a,l,l',r,hl,h=>by cases h;exact⟨_,rfl,rfl,hl⟩
 | .fail,l,l',r,hl,h=>by cases h;exact⟨_,rfl,hl⟩
 | .look k,l,l',r,hl,h=>by
  simp only[evG]at h⊢;rw[<-fN hl];exact MV K (k _) l l' r hl h
 | .next g,l,l',r,hl,h=>MV K g l.tail l'.tail r (iC hl) h
 | .call nt k,l,l',r,hl,h=>by
  simp only[evG]at h⊢;cases hn:f nt l with
  |none=>rw[hn]at h;cases h
  |some x=>
   rw[hn]at h;obtain⟨N,Z,W⟩:=K nt l l' x hl hn;rw[Z];cases x with
   |error e=>
    cases h;cases N with
    |error e'=>exact⟨_,rfl,W⟩
    |ok y=>exact W.elim
   |ok y=>
    cases N with
    |error e'=>exact W.elim
    |ok z=>
     obtain⟨X,P⟩:=W;simp only at h⊢;rw[<-X];exact MV K (k y.1) y.2 z.2 r P h
def Vh:∀(n:Nat)(nt:NT)(l l':List Tok)(r:Ans nt.T),l.map bare=l'.map bare->evN n nt l=some r->∃C,evN n nt l'=some C/\AR r C
 |0,_,_,_,_,_,h=>by cases h
 |n+1,nt,l,l',r,hl,h=>MV (Vh n) (body nt) l l' r hl h
def Run.bare{α:Type}{p:G α}{l l':List Tok}{r:Ans α}(N:l.map bare=l'.map bare)(h:Run p l r):∃C,Run p l' C/\AR r C:=by
 obtain⟨n,H⟩:=h;obtain⟨C,Z,W⟩:=MV (Vh n) p l l' r N H;exact⟨C,⟨n,Z⟩,W⟩
def Xu{r:List Tok}{x:Tok}{l1:List Tok}(h:l1++x::r<:+r):False:=by
 have:=h.length_le;simp at this;omega
def PZ{α:Type}(F:List Tok->Option (Ans α)):Prop:=∀(C k:List Tok)(x:Tok)(r K:List Tok),
 (∀v,F (C++x::r)=some (.ok (v,k++x::r))->F (C++x::K)=some (.ok (v,k++x::K)))/\
 (F (C++x::r)=some (.error (k++x::r))->F (C++x::K)=some (.error (k++x::K)))
def Xv{l:List Tok}{x:Tok}{l' r l1:List Tok}(h:l<:+l1++x::r)(Q:l'++x::r<:+l):∃N,l=N++x::r:=by
 obtain⟨t,P⟩:=Q;exact⟨t++l',by rw[<-P];simp⟩
def MI{f:(nt:NT)->List Tok->Option (Ans nt.T)}(c:∀nt,PZ (f nt))(E:∀nt l r,f nt l=some r->Ans.rem r<:+l){α:Type}:∀p:G α,PZ (evG f p)
 | .ret a=>fun C b x r K=>⟨fun v h=>by
   simp only[evG,Jn,X6,JB]at h⊢;obtain⟨Z,W⟩:=h;exact⟨Z,by rw[List.append_cancel_right W]⟩,fun h=>by simp[evG]at h⟩
 | .fail=>fun C b x r K=>⟨fun v h=>by simp[evG]at h,fun h=>by
   simp only[evG,Jn,Except.error.injEq]at h⊢;rw[List.append_cancel_right h]⟩
 | .look k=>fun C b x r K=>by
  have H:(C++x::K).head?.map bare=(C++x::r).head?.map bare:=by cases C<;>rfl
  have:=MI c E (k ((C++x::r).head?.map bare)) C b x r K;simp only[evG];rw[H];exact this
 | .next g=>fun C b x r K=>by
  simp only[evG];cases C with
  |nil=>
   refine⟨fun v h=>?_,fun h=>?_⟩
   ·exact(Xu (show b++x::r<:+r from Ih E g _ _ h)).elim
   ·exact(Xu (show b++x::r<:+r from Ih E g _ _ h)).elim
  |cons y C=>exact MI c E g C b x r K
 | .call nt k=>fun C b x r K=>by
  simp only[evG];cases hn:f nt (C++x::r)with
  |none=>exact⟨fun v h=>(by cases h),fun h=>(by cases h)⟩
  |some z=>
   have d:=E nt _ z hn;cases z with
   |error e=>
    refine⟨fun v h=>(by cases h),fun h=>?_⟩;simp only[Jn,Except.error.injEq]at h;subst h;rw[(c nt C b x r K).2 hn]
   |ok y=>
    obtain⟨v,m⟩:=y
    have go:(∀u,evG f (k v) m=some (.ok (u,b++x::r))->∃N,m=N++x::r)/\(evG f (k v) m=some (.error (b++x::r))->∃N,m=N++x::r):=
     ⟨fun u h=>Xv (l1:=C) d (show b++x::r<:+m from Ih E (k v) _ _ h),fun h=>Xv (l1:=C) d (show b++x::r<:+m from Ih E (k v) _ _ h)⟩
    refine⟨fun u h=>?_,fun h=>?_⟩
    ·obtain⟨N,rfl⟩:=go.1 u h;rw[(c nt C N x r K).1 v hn];exact(MI c E (k v) N b x r K).1 u h
    ·obtain⟨N,rfl⟩:=go.2 h;rw[(c nt C N x r K).1 v hn];exact(MI c E (k v) N b x r K).2 h
def Qv:∀(n:Nat)(nt:NT),PZ (evN n nt)
 |0,_=>fun _ _ _ _ _=>⟨fun _ h=>(by cases h),fun h=>(by cases h)⟩
 |n+1,nt=>MI (Qv n) (Nu n) (body nt)
def C0(S:NT->Prop)(x:BT){α:Type}:Bool->G α->Prop
 |_,.ret _=>True
 |_,.fail=>True
 |b,.look k=>(∀y,C0 S x true (k (some y)))/\(b=true\/k none=.fail\/(k none=k (some x)/\C0 S x false (k none)))
 |b,.next g=>b=true/\C0 S x false g
 |_,.call nt k=>S nt/\∀v,C0 S x false (k v)
def Kr{S:NT->Prop}{f:(nt:NT)->List Tok->Option (Ans nt.T)}{x:Tok}{r:List Tok}(K:∀nt,S nt->∀l v,f nt l=some (.ok (v,[]))->f nt (l++x::r)=some (.ok (v,x::r)))
  (d:∀nt,PZ (f nt))(c:∀nt l v l' y,f nt l=some (.ok (v,y::l'))->f nt (l++x::r)=some (.ok (v,(y::l')++x::r))){α:Type}:∀(p:G α)(b:Bool)(l:List Tok)(v:α),C0 S (Go.Proofs.YtjbocjodncbogaaGreatDoor.bare x) b p->(b=true->l≠[])->evG f p l=some (.ok (v,[]))->evG f p (l++x::r)=some (.ok (v,x::r))
 | .ret a,b,l,v,_,_,h=>by
  simp only[evG,Jn,X6,JB]at h⊢;obtain⟨rfl,rfl⟩:=h;exact⟨rfl,rfl⟩
 | .fail,b,l,v,_,_,h=>by simp[evG]at h
 | .look k,b,l,v,hg,hb,h=>by
  simp only[evG]at h⊢;cases l with
  |nil=>
   simp only[List.head?_nil,Ic]at h;rcases hg.2 with B|B|⟨B,j⟩
   ·exact absurd rfl (hb B)
   ·rw[B]at h;simp[evG]at h
   ·have:=Kr K d c (k none) false [] v j (fun h=>by cases h) h;simp only[Ef,List.head?_cons,GG]at this⊢;rw[<-B];exact this
  |cons y l=>exact Kr K d c (k (some (Go.Proofs.YtjbocjodncbogaaGreatDoor.bare y))) true (y::l) v (hg.1 _) (fun _=>by simp) h
 | .next g,b,l,v,hg,hb,h=>by
  simp only[evG]at h⊢;cases l with
  |nil=>exact absurd rfl (hb hg.1)
  |cons y l=>exact Kr K d c g false l v hg.2 (fun h=>by cases h) h
 | .call nt k,b,l,v,hg,hb,h=>by
  simp only[evG]at h⊢;cases hn:f nt l with
  |none=>rw[hn]at h;cases h
  |some z=>
   rw[hn]at h;cases z with
   |error e=>cases h
   |ok y=>
    obtain⟨u,l'⟩:=y;simp only at h;cases l' with
    |nil=>
     rw[K nt hg.1 l u hn];exact Kr K d c (k u) false [] v (hg.2 u) (fun h=>by cases h) h
    |cons y l'=>
     rw[c nt l u l' y hn];exact Kr K d c (k u) false (y::l') v (hg.2 u) (fun h=>by cases h) h
def io{n:Nat}{nt:NT}{l l':List Tok}{v:nt.T}{y:Tok}(r:List Tok)(h:evN n nt l=some (.ok (v,y::l'))):evN n nt (l++r)=some (.ok (v,(y::l')++r)):=by
 obtain⟨t,P⟩:=(show y::l'<:+l from Nu n nt l _ h);subst P;have:=(Qv n nt t [] y l' (l'++r)).1 v h;simpa using this
def Vi{S:NT->Prop}{x:Tok}{r:List Tok}(i:∀nt,S nt->C0 S (Go.Proofs.YtjbocjodncbogaaGreatDoor.bare x) false (body nt)):∀(n:Nat)(nt:NT),S nt->∀l v,evN n nt l=some (.ok (v,[]))->evN n nt (l++x::r)=some (.ok (v,x::r))
 |0,_,_,_,_,h=>by cases h
 |n+1,nt,hs,l,v,h=>Kr (Vi i n) (Qv n) (fun nt l v m y h=>io _ h) (body nt) false l v (i nt hs) (fun h=>by cases h) h
def RunN.stop{S:NT->Prop}{x:Tok}(i:∀nt,S nt->C0 S (Go.Proofs.YtjbocjodncbogaaGreatDoor.bare x) false (body nt)){nt:NT}(E:S nt){l:List Tok}{v:nt.T}(r:List Tok)(h:RunN nt l (.ok (v,[]))):RunN nt (l++x::r) (.ok (v,x::r)):=by
 obtain⟨n,H⟩:=h;exact⟨n,Vi i (n+1) nt E l v H⟩
structure Env where
 lo:Nat
 s:Nat
 n:Nat
 mp:Nat
 mi:Nat
abbrev inE(E:Env)(b:Nat):Prop:=E.lo<=b/\b<E.s
def GX(o:Opr):Value:=.agg #[iV o.op,iV o.indexed,iV o.val]
def I1(t:List (LU×Opr)):List (LU×Value):=t.map fun p=>(p.1,GX p.2)
def Yl(x:Tok):Prop:=x.kind=2->1<=x.text.length/\x.text.length<=4/\∀c∈x.text,Ag c=true
structure PSt(w:World)(E:Env)(ts:List Tok):Prop where
 D:∃a c,Blk w E.s 126 [.slice a ts.length c,iV (E.n:Int),.map (some E.mp),.map (some E.mi)]/\Sl (inE E) w (.slice a ts.length c) ts.length (EB ts)
 pre:SMap w E.mp (I1 prefixT)
 inf:SMap w E.mi (I1 infixT)
 lt:E.mp<E.s/\E.mi<E.s
 wf:∀x∈ts,Yl x
 cnt:ts.length<=2000
def PSt.E{X:List Nat}{w w':World}{E:Env}{ts:List Tok}(h:PSt w E ts)(k:Keep X w w')(T:∀x∈X,E.s<x):PSt w' E ts:=by
 obtain⟨⟨a,c,Z,W⟩,R,A,d,p,e⟩:=h;have H:∀b,b<=E.s->b∉X:=fun b S V=>by have:=T b V;omega
 exact⟨⟨a,c,Z.E k (H _ (AO _)),W.E k fun b S=>H b (by have:=S.2;omega)⟩,R.E k (H _ U),A.E k (H _ U),d,p,e⟩
def PSt.ext{w w':World}{E:Env}{ts:List Tok}(h:PSt w E ts)(k:Ext w w'):PSt w' E ts:=h.E k fun x V=>by cases V
def PSt.slt{w:World}{E:Env}{ts:List Tok}(h:PSt w E ts):E.s<w.heap.size:=by obtain⟨_,_,Z,_⟩:=h.D;exact Z.lt
abbrev Ss(e:Int)(p:Nat):List PanicEntry:=[{v:=.iface 121 (.agg #[iV e,iV (p:Int)]),recovered:=false}]
def NP(n:Nat):List Tok->List PanicEntry
 | []=>Ss 51 n
 |x::_=>Ss 50 x.loc
def PDo{α:Type}(E:Env)(F:FuncId)(args:LV)(w:World)(p:G α)(ts:List Tok)(M:World->Value->α->Prop):Prop:=
 FnP Zp F args w (fun v X=>Keep [E.s] w X/\∃a W,Run p ts (.ok (a,W))/\PSt X E W/\M X v a) (fun y X=>Keep [E.s] w X/\∃l,Run p ts (.error l)/\y=NP E.n l)
def PSt.tok{w:World}{E:Env}{x:Tok}{l:List Tok}{a:Option Addr}{c:Nat}(h:Sl (inE E) w (.slice a (x::l).length c) (x::l).length (EB (x::l))):
  ∃b o,a=some ⟨b,o,none⟩/\1<=c/\(w.cell? ⟨b,o+0*3+0,none⟩=some (iV x.kind)/\w.cell? ⟨b,o+0*3+1,none⟩=some (AA x.text)/\w.cell? ⟨b,o+0*3+2,none⟩=some (iV (x.loc:Int)))/\
   Sl (inE E) w (.slice (adv c 1 3 a) l.length (c-1)) l.length (EB l):=by
 obtain⟨Z,f,s,g,W,R,A⟩:=h;cases s;obtain⟨b,o,rfl,S,T⟩:=A.resolve_left O;have N:(x::l).length=l.length+1:=rfl;have e:EB (x::l)=G9 x++EB l:=by simp[EB]
 refine⟨b,o,rfl,by omega,⟨T 0 _ rfl,T 1 _ rfl,T 2 _ rfl⟩,_,_,rfl,by omega,by omega,?_,?_⟩
 ·intro G;unfold adv at G
  split at G
  ·cases G
  ·simp at G
 ·by_cases v:l.length=0
  ·exact .inl v
  ·refine .inr ⟨b,o+3,?_,S,?_⟩
   ·unfold adv;rw[AG U];rfl
   ·intro i u d;have:=T (3+i) u (by rw[e,EJ (by simp[G9])];simpa[G9]using d);rw[GH];exact this
def PSt.taken{w w':World}{E:Env}{x:Tok}{l:List Tok}{a:Option Addr}{c:Nat}(h:PSt w E (x::l))(f:Sl (inE E) w (.slice (adv c 1 3 a) l.length (c-1)) l.length (EB l))
  (p:Put w w' E.s 126 [.slice (adv c 1 3 a) l.length (c-1),iV (E.n:Int),.map (some E.mp),.map (some E.mi)]):PSt w' E l:=by
 obtain⟨_,R,A,Z,d,e⟩:=h;have L:=Z.1;have i:=Z.2;refine⟨⟨_,_,p.D,f.E p.E fun b S=>by have:=S.2;simp;omega⟩,R.E p.E rE,A.E p.E rE,Z,fun y I=>d y (by simp[I]),by simp at e;omega⟩
def JK(E:Env)(w:World)(ts:List Tok)(h:PSt w E ts){R:Value->World->Prop}:FnP Zp 76 [pt E.s] w R (fun y w'=>w'=w/\y=NP E.n ts):=by
 obtain⟨a,c,S,e⟩:=h.D;refine CK func76 rfl ntmps76 nlr rD ?_;refine nX ?_;cases ts with
 |nil=>
  have N:([]:List Tok).length=0:=rfl;(refine AN (Aq rfl (A7 rfl (AV rfl (AQ rfl (Blk.cell rG rF) ?_))))<;>refine Cj rfl (IH rfl rfl U ?_))
  refine nX ?_;(refine AN (Aq rfl (A7 rfl (AV rfl (AQ rfl (Blk.cell rG rF) ?_))))<;>refine DB rF rF ?_<;>refine GN (Gj rfl ?_))
  refine nX ?_;exact Ap ⟨rfl,rfl⟩
 |cons x l=>
  have N:(x::l).length=l.length+1:=rfl;obtain⟨b,o,rfl,_,⟨f,d,L⟩,_⟩:=PSt.tok e;(refine AN (Aq rfl (A7 rfl (AV rfl (AQ rfl (Blk.cell rG rF) ?_))))<;>refine Cj rfl (K9 rfl rfl U ?_))
  refine nY ?_;(refine AN (Aq rfl (A7 rfl (AV rfl (AQ rfl (Blk.cell rG rF) ?_))))<;>refine Hb rfl rfl U U (AV rfl (AQ rfl rG ?_))<;>refine DB rF rF ?_<;>refine GN (Gj rfl ?_))
  refine nX ?_;exact Ap ⟨rfl,rfl⟩
def K1(E:Env)(w:World)(ts:List Tok)(t:LU)(h:PSt w E ts):Fn Zp 78 [pt E.s,AA t] w (fun v w'=>v=.bool (Ax t (ts.head?.map bare))/\w'=w):=by
 obtain⟨a,c,S,e⟩:=h.D;refine AM func78 rfl ntmps78 ?_;refine nX ?_;refine AN (AT (AH rfl ?_));refine nX ?_;cases ts with
 |nil=>
  have N:([]:List Tok).length=0:=rfl;(refine AN (Aq rfl (A7 rfl (AV rfl (AQ rfl (Blk.cell rG rF) ?_))))<;>refine Cj rfl (YG rfl rfl U (AH rfl (AP rfl (AP rfl (AP rfl (AP rfl (AP rfl (AP rfl (AP rfl (AP rfl (BJ rfl (AH rfl (AH rfl (AP rfl (AP rfl (AP rfl (AP rfl (AP rfl (AP rfl (AP rfl (AP rfl (AP rfl (BJ rfl (AH rfl (AT (AH rfl ?_)))))))))))))))))))))))))))
  refine nX ?_;exact AC rfl ⟨rfl,rfl⟩
 |cons x l=>
  have N:(x::l).length=l.length+1:=rfl;obtain⟨b,o,rfl,_,⟨y,d,L⟩,_⟩:=PSt.tok e;by_cases P:x.kind=2
  ·(refine AN (Aq rfl (A7 rfl (AV rfl (AQ rfl (Blk.cell rG rF) ?_))))<;>refine Cj rfl (Ms rfl rfl U (AH rfl (AE rfl (Aq rfl (AE rfl (A7 rfl (AE rfl (AV rfl (AE rfl (AQ rfl (Blk.cell rG rF) ?_))))))))))<;>refine AE rfl (Hb rfl rfl U U (AE rfl (AV rfl (AE rfl (AQ rfl rG ?_)))))<;>refine AE rfl (ol rfl rfl U (BF rfl (AH rfl (AH rfl (AP rfl (AP rfl (AP rfl (AP rfl (AP rfl (AP rfl (AP rfl (AP rfl (AP rfl (BJ rfl (AH rfl (AT (AH rfl ?_))))))))))))))))))
   refine nX ?_;exact AC rfl ⟨by simp[upd,Nat.beq,Ax,bare,P],rfl⟩
  ·(refine AN (Aq rfl (A7 rfl (AV rfl (AQ rfl (Blk.cell rG rF) ?_))))<;>refine Cj rfl (Ms rfl rfl U (AH rfl (AE rfl (Aq rfl (AE rfl (A7 rfl (AE rfl (AV rfl (AE rfl (AQ rfl (Blk.cell rG rF) ?_))))))))))<;>refine AE rfl (Hb rfl rfl U U (AE rfl (AV rfl (AE rfl (AQ rfl rG ?_)))))<;>refine AE rfl (YH rfl rfl U (BF rfl (AH rfl (AH rfl (AE rfl (Aq rfl (AE rfl (A7 rfl (AE rfl (AV rfl (AE rfl (AQ rfl (Blk.cell rG rF) ?_))))))))))))<;>refine AE rfl (Hb rfl rfl U U (AE rfl (AV rfl (AE rfl (AQ rfl rG ?_)))))<;>refine AE rfl (BL rfl ?_)<;>(refine AE rfl ?_;refine CZ rfl rfl (fun T=>?_) (fun T=>?_))<;>refine BF rfl (AH rfl (AT (AH rfl ?_))))
   ·refine gR ?_;exact⟨by simp_all [upd,Nat.beq,Ax,bare],rfl⟩
   ·refine gR ?_;exact⟨by simp_all [upd,Nat.beq,Ax,bare],rfl⟩
end
def Fm:=@Bool.or_eq_true
def CT:=@List.take_add_one
section
variable {mk:Prop}[MK mk]
def keyC:LV:=keysL.map AA
def KY(w:World):Prop:=Cells w 0 0 keyC
def EZ(i:Nat)(c:UInt8):Bool:=Bp c||(decide (0<i)&&(Ag c||decide (c.toNat=95)))
def Hl(s:LU):Bool:=Bp (s.getD 0 0)&&s.all NH
def L6(s:LU)(h:1<=s.length):Hl s=true↔∀(i:Nat)(c:UInt8),s[i]?=some c->EZ i c=true:=by
 match s,h with
 |d::s,_=>
  simp only[Hl,Ce,TS,Option.getD_some,AZ,Bu];constructor
  ·rintro⟨Z,W⟩i c T;cases i with
   |zero=>simp at T;subst T;simp[EZ,Z]
   |succ i=>
    have:=W c (BA T);simp[NH]at this;simp[EZ];rcases this with(h|h)|h
    ·exact .inl h
    ·exact .inr (.inl h)
    ·exact .inr (.inr h)
  ·intro h;have v:=h 0 d rfl;simp[EZ]at v;refine⟨v,fun c T=>?_⟩;obtain⟨i,F⟩:=Cn T;have:=h i c F;simp only[EZ,NH,Fm,AZ,BD]at this⊢;rcases this with h|⟨_,h|h⟩
   ·exact .inl (.inl h)
   ·exact .inl (.inr h)
   ·exact .inr h
def HO(s:LU):BP s=(decide (1<=s.length)&&decide (s.length<=12)&&Hl s&& !decide (s∈keysL)):=by
 unfold BP Hl;cases decide (1<=s.length)<;>cases decide (s.length<=12)<;>cases Bp (s.getD 0 0)<;>cases s.all NH<;>rfl
def Jr(s:LU)(w:World)(l:KY w):Fn Zp 91 [AA s] w fun v w'=>v=.bool (BP s)/\w'=w:=by
 refine AM func91 rfl ntmps91 (go ?_);by_cases Z:s.length<1
 ·refine gR ?_;exact⟨by rw[HO,BC (show¬1<=s.length by omega)];rfl,rfl⟩
 by_cases u:12<s.length
 ·refine gR ?_;exact⟨by rw[HO,BC (show¬s.length<=12 by omega)];simp[upd,Nat.beq],rfl⟩
 refine go ?_;refine Aj (α:=Nat) (fun k=>[(0,AA s),(3,.bool true),(17,iV (s.length:Int)),(18,iV (k:Int))]) (fun k Q=>k<=s.length/\(∀(i:Nat)(c:UInt8),i<k->s[i]?=some c->EZ i c=true)/\Q=w) (fun k=>s.length-k) 0 ⟨rfl,rfl,rfl,rfl,trivial⟩ ⟨by omega,fun i c F=>by omega,rfl⟩ ?_;rintro k Q r⟨P,m,rfl⟩;refine nX ?_;by_cases z:k<s.length
 ·have b:s[k]?=some s[k]:=AU z;generalize s[k]=c at b;have q:=c.toNat_lt
  have t:EZ k c=true->∀(i:Nat)(d:UInt8),i<k+1->s[i]?=some d->EZ i d=true:=fun a i d F x=>by
   by_cases n:i=k
   ·subst n;rw[b]at x;cases x;exact a
   ·exact m i d U x
  refine AN (FX rfl rfl U ?_);refine nX ?_;refine AN (AS rfl (AT (AS rfl ?_)));refine nX ?_;(refine AN (BL rfl (AS rfl (FF rfl rfl rG ?_)))<;>refine AT (AS rfl ?_))
  refine nX ?_;by_cases E:97<=c.toNat/\c.toNat<=122
  ·have a:EZ k c=true:=by simp[EZ,Bp,E.1,E.2]
   refine AN (AS rfl (Is rfl rfl U (AH rfl (AE rfl (AS rfl (AE rfl (Is rfl rfl U (BF rfl (AH rfl (AT (AH rfl ?_)))))))))));refine nX ?_;(refine AN (Fz rfl rfl rQ ?_)<;>refine AS rfl ?_)
   refine nX ?_;refine⟨k+1,⟨rfl,⟨rfl,rfl,rfl,?_,trivial⟩,⟨by omega,t a,rfl⟩⟩,by omega⟩;show iV ((k:Int)+1)=_;rw[BB];rfl
  ·have o:Bp c=false:=by simp[Bp];omega
   by_cases B:0<k/\((48<=c.toNat/\c.toNat<=57)\/c.toNat=95)
   ·have a:EZ k c=true:=by
     simp only[EZ,Ag,Fm,AZ,BD];exact .inr B
    refine AN (AS rfl (KD rfl rfl U (AH rfl (AP rfl (AP rfl (BJ rfl (AH rfl (AT (AH rfl (AB ?_))))))))))
    all_goals
     refine nY ?_;(refine AN (AS rfl (Ms rfl rfl U (AH rfl (AE rfl (AS rfl (AE rfl (Is rfl rfl U (AE rfl (AH rfl (AE rfl (AS rfl ?_)))))))))))<;>(refine AE rfl ?_;(refine Fa rfl rfl (fun T=>?_) (fun T=>?_)<;>try omega))<;>refine AE rfl (BF rfl (AH rfl (AE rfl (AH rfl ?_))))<;>(first|refine AP rfl ?_|(refine AE rfl ?_;refine AS rfl ?_))<;>(first|refine AP rfl ?_|(refine AE rfl ?_;refine IH rfl rfl U ?_))<;>(refine AE rfl ?_;((first|refine BF rfl ?_|refine BJ rfl ?_);refine AH rfl ?_))<;>refine BF rfl (AH rfl (AT (AH rfl (AB ?_)))))
     all_goals
      refine nX ?_;(refine AN (Fz rfl rfl rQ ?_)<;>refine AS rfl ?_)
      refine nX ?_;refine⟨k+1,⟨rfl,⟨rfl,rfl,rfl,?_,trivial⟩,⟨by omega,t a,rfl⟩⟩,by omega⟩;show iV ((k:Int)+1)=_;rw[BB];rfl
   ·have f:Hl s=false:=by
     cases hsb:Hl s with
     |false=>rfl
     |true=>
      have:=(L6 s U).1 hsb k c b;simp only[EZ,o,Ag,Ha,Fm,AZ,BD]at this;exact absurd this B
    (refine AN (AS rfl ?_)<;>(refine Fa rfl rfl (fun T=>?_) (fun T=>?_)<;>try omega)<;>refine AH rfl ?_<;>(first|refine AP rfl ?_|(refine AE rfl ?_;refine AS rfl ?_))<;>(first|refine AP rfl ?_|(refine AE rfl ?_;refine KD rfl rfl U ?_))<;>((first|refine BF rfl ?_|refine BJ rfl ?_);refine AH rfl ?_)<;>refine AT (AH rfl (AB ?_)))
    all_goals
     refine nY ?_;(refine AN (AS rfl ?_)<;>(refine JU rfl rfl (fun T=>?_) (fun T=>?_)<;>try omega)<;>refine AH rfl ?_<;>(first|refine AP rfl ?_|(refine AE rfl ?_;refine AS rfl ?_))<;>(first|refine AP rfl ?_|(refine AE rfl ?_;(refine Fa rfl rfl (fun T=>?_) (fun T=>?_)<;>try omega)))<;>(first|refine AP rfl ?_|(refine AE rfl ?_;refine AH rfl ?_))<;>(first|refine AP rfl ?_|(refine AE rfl ?_;refine AS rfl ?_))<;>(first|refine AP rfl ?_|(refine AE rfl ?_;refine KD rfl rfl U ?_))<;>(first|refine AP rfl ?_|(refine AE rfl ?_;((first|refine BF rfl ?_|refine BJ rfl ?_);refine AH rfl ?_)))<;>(first|refine AP rfl ?_|(refine AE rfl ?_;refine AH rfl ?_))<;>(first|refine AP rfl ?_|(refine AE rfl ?_;refine AS rfl ?_))<;>(first|refine AP rfl ?_|(refine AE rfl ?_;refine K9 rfl rfl U ?_))<;>(first|refine AP rfl ?_|(refine AE rfl ?_;(refine BJ rfl ?_;refine AH rfl ?_)))<;>((first|refine BF rfl ?_|refine BJ rfl ?_);refine AH rfl ?_)<;>refine AT (AH rfl (AB ?_)))
     all_goals
      refine nY ?_;refine AN (AT (AH rfl ?_));refine nX ?_;refine AN (Al (L:=keyC) rfl rfl l ?_);refine AS rfl ?_;refine nX ?_;refine Aj (α:=Nat) (fun k=>[(0,AA s),(3,.bool false),(47,.agg keyC.toArray),(48,iV (k:Int))]) (fun k W=>k<=10/\s∉keysL.take k/\W=Q) (fun k=>10-k) 0 ⟨rfl,rfl,rfl,rfl,trivial⟩ ⟨by omega,by simp,rfl⟩ ?_;rintro k p D⟨P,H,rfl⟩;refine nX ?_;by_cases z:k<10
      ·obtain⟨y,I⟩:∃y,keysL[k]?=some y:=⟨_,AU (by show k<10;exact z)⟩;have j:keyC[k]?=some (AA y):=by unfold keyC;rw[Cl,I];rfl
       have g:keysL.take (k+1)=keysL.take k++[y]:=by rw[CT,I];rfl
       refine AN (FX rfl rfl U ?_);refine nX ?_;refine AN ?_;refine Rt (L:=keyC) rfl rfl U j ?_;refine AT (BL rfl ?_);refine nX ?_;by_cases h:y=s
       ·exact tN
       ·(refine AN (BL rfl (BL rfl ?_))<;>refine CZ rfl rfl (fun T=>?_) (fun T=>?_)<;>refine AB ?_)
        case refine_1=>exact absurd rG h
        refine go ?_;refine⟨k+1,⟨rfl,⟨rfl,rfl,rfl,?_,trivial⟩,⟨by omega,by rw[g];simp[H];exact fun e=>h e.symm,rfl⟩⟩,by omega⟩;show iV ((k:Int)+1)=_;rw[BB];rfl
      ·exact tZ
 ·obtain rfl:k=s.length:=by omega
  have f:Hl s=true:=(L6 s U).2 fun i c T=>m i c (Ah.1 T).1 T;refine go ?_;refine Al (L:=keyC) rfl rfl l (go ?_);refine Aj (α:=Nat) (fun k=>[(0,AA s),(3,.bool true),(47,.agg keyC.toArray),(48,iV (k:Int))]) (fun k W=>k<=10/\s∉keysL.take k/\W=Q) (fun k=>10-k) 0 ⟨rfl,rfl,rfl,rfl,trivial⟩ ⟨by omega,by simp,rfl⟩ ?_;rintro k p D⟨P,H,rfl⟩;refine nX ?_;by_cases z:k<10
  ·obtain⟨y,I⟩:∃y,keysL[k]?=some y:=⟨_,AU (by show k<10;exact z)⟩;have j:keyC[k]?=some (AA y):=by unfold keyC;rw[Cl,I];rfl
   have g:keysL.take (k+1)=keysL.take k++[y]:=by rw[CT,I];rfl
   refine AN (FX rfl rfl U ?_);refine nX ?_;refine AN ?_;refine Rt (L:=keyC) rfl rfl U j ?_;refine AT (BL rfl ?_);refine nX ?_;by_cases h:y=s
   ·exact tN
   ·(refine AN (BL rfl (BL rfl ?_))<;>refine CZ rfl rfl (fun T=>?_) (fun T=>?_)<;>refine AB ?_)
    case refine_1=>exact absurd rG h
    refine go ?_;refine⟨k+1,⟨rfl,⟨rfl,rfl,rfl,?_,trivial⟩,⟨by omega,by rw[g];simp[H];exact fun e=>h e.symm,rfl⟩⟩,by omega⟩;show iV ((k:Int)+1)=_;rw[BB];rfl
  ·exact tZ
structure GK(w:World):Prop where
 gv:GV w
 keys:Cells w 0 0 keyC
def GK.E{X:List Nat}{w w':World}(h:GK w)(k:Keep X w w')(T:∀x∈X,10<=x):GK w':=
 ⟨h.gv.E k (fun V=>by have:=T _ V;omega) (fun V=>by have:=T _ V;omega),h.keys.E k (fun V=>by have:=T _ V;omega)⟩
def GK.ext{w w':World}(h:GK w)(k:Ext w w'):GK w':=h.E k fun x V=>by cases V
def Qg(s:LU)(w:World)(z:GK w):Fn Zp 91 [AA s] w fun v w'=>v=.bool (BP s)/\w'=w:=Jr s w z.keys
end
def UN:=@Lib.bytesWorld_size
section
variable {mk:Prop}[MK mk]
attribute [local semireducible] WC AF CO B0 Cx B8 Cc CB
variable {P:Program}{all:Array Oper}{Z:Fr->DS->List PanicEntry->World->Prop}{K:Fr->DS->World->Prop}{rest:List Oper}{f:Fr}{ds:DS}{w:World}
 {d:Nat}{ty:TypeId}{pos:String}{af:Array Edge}
theorem eB(w:World)(e:TypeId)(s:ByteArray):Unm (Lib.bytesWorld w e s) w.heap.size:=fun c t Q h=>by
 rw[Lib.bytesWorld_at_new]at h;simp only[Jn,Obj.cells.injEq]at h;obtain⟨rfl,_,_⟩:=h;refine .inr fun i v a=>?_;have r:=Lh a;unfold Lib.bytesCells at r;rcases Array.mem_append.1 r with r|r
 ·obtain⟨b,_,rfl⟩:=Array.mem_map.1 r;exact⟨_,rfl⟩
 ·exact⟨0,Array.eq_of_mem_replicate r⟩
theorem ou{c a e size g:Nat}{z:Value}{x:Operand}{l:LU}[hs:SlT P a e size g z][he:LP P e .u8][hd:Jd P c](V:ev f x=AA l)
  (h:∀w' cap,Ext w w'->w'.heap.size=w.heap.size+1->Cells w' w.heap.size 0 (Ez l)->AF P all Z K rest (upd f d (.slice (sm w.heap.size) l.length cap)) ds w'):
  AF P all Z K (⟨some d,.convert c a x,ty,pos,af,none⟩::rest) f ds w:=by
 have B:=Lib.run_convert_string_bytes (P:=P) w c a e ⟨l.toArray⟩ hd.out hs.und he.out;have H:(⟨l.toArray⟩:ByteArray).size=l.length:=by simp[ByteArray.size]
 rw[H]at B;refine At (v:=.slice (sm w.heap.size) l.length (grownCap w l.length 0 e)) (w':=Lib.bytesWorld w e ⟨l.toArray⟩) rfl ?_ (h _ _ ⟨rfl,rfl,rfl,?_,fun b S _=>Lib.bytesWorld_at_old w e _ b S,fun _=>JI (by rw[UN];omega) (fun b S=>Lib.bytesWorld_at_old w e _ b S) (eB w e _),(show w.drawn<=(Lib.bytesWorld w e ⟨l.toArray⟩).drawn by unfold Lib.bytesWorld World.freeze World.alloc World.drew;exact Jx _)⟩ (UN w e _) ?_)
 ·simp only[execOp,V];simp[B]
 ·rw[UN];omega
 ·intro i u o
  have F:i<l.length:=by
   have:=(Ah.1 o).1;simpa[Ez]using this
  have:=Lib.bytesWorld_cell w e ⟨l.toArray⟩ i (by rw[H];exact F);rw[Bs,this];rw[cP F]at o;rw[<-o];simp[Gu]
class IfT (P:Program) (T:TypeId):Prop where
 out:∃ms,P.underlying T=some (.interface ms)
theorem VN{i c:TypeId}{x:Operand}[hT:IfT P i](b:ev f x=.nilIface)(h:AF P all Z K rest (upd f d (.bool false)) ds w):
  AF P all Z K (⟨some d,.binOp .neq i x (.const .nilIface) c,ty,pos,af,none⟩::rest) f ds w:=by
 obtain⟨g,a⟩:=hT.out;refine At rfl ?_ h
 have V:(Op.equalIn Op.maxDepth i .nilIface .nilIface).run P w=.ok true w:=by
  rw[show Op.maxDepth=9999+1 from rfl];generalize 9999=n;unfold Op.equalIn;simp[BV a]
 have I:ev f (.const .nilIface)=.nilIface:=rfl;simp[execOp,b,I,eqGuard,binOp,Op.equal,V]
end
def Lb:=@List.dropLast_concat_getLast
def E9:=@List.getElem_mem
def Co:=@List.take_length
section
variable {mk:Prop}[MK mk]
instance:IfT Zp 208:=⟨_,underlying208⟩
def Px:Nat->Int
 |0=>0
 |k+1=>10*Px k+9
def X1{k:Nat}(h:k<=4):Px k<=9999:=by
 match k,h with
 |0,_=>decide
 |1,_=>decide
 |2,_=>decide
 |3,_=>decide
 |4,_=>decide
 |k+5,h=>omega
def T6(l:LU)(c:UInt8):EY (l++[c])=10*EY l+((c.toNat:Int)-48):=by simp[EY]
def RX:∀(k:Nat)(l:LU),l.length=k->(∀c∈l,Ag c=true)->0<=EY l/\EY l<=Px k
 |0,l,hl,_=>by
  obtain rfl:=Dc hl;exact⟨by decide,by decide⟩
 |k+1,l,hl,hd=>by
  have M:l≠[]:=fun e=>by subst e;simp at hl
  have e:=Lb M;have n:=RX k l.dropLast (by simp[hl]) (fun c T=>hd c (List.dropLast_subset _ T));have T:=hd _ (List.getLast_mem M);generalize l.getLast M=c at T e;rw[<-e,T6];simp[Ag]at T;unfold Px;omega
def lg(s:LU)(w:World)(Z:1<=s.length)(A:s.length<=4)(x:∀c∈s,Ag c=true):Fn Zp 283 [AA s] w fun v w'=>v=.tuple #[iV (EY s),.nilIface]/\Ext w w':=by
 have y:s[0]?=some s[0]:=AU U;have f:=x s[0] (E9 _);generalize s[0]=c0 at y f;simp[Ag]at f;refine AM func283 rfl ntmps283 (go ?_);refine ou rfl (fun Q u d j q=>go ?_);refine Aj (α:=Nat) (fun k=>[(5,AA s),(6,iV (EY (s.take k))),(47,.slice (sm w.heap.size) s.length u),(48,iV (s.length:Int)),(49,iV (k:Int))]) (fun k L=>k<=s.length/\L=Q) (fun k=>s.length-k) 0 ⟨rfl,rfl,rfl,rfl,rfl,trivial⟩ ⟨by omega,rfl⟩ ?_;rintro k L D⟨P,rfl⟩;refine go ?_;by_cases z:k<s.length
 ·have I:s[k]?=some s[k]:=AU z;have e:=x s[k] (E9 _);generalize s[k]=c at I e;simp[Ag]at e;have S:L.cell? ⟨w.heap.size,0+k,none⟩=some (.int .u8 (c.toNat:Int)):=q k _ (by simp[Ez,I,Gu]);have a:s.take (k+1)=s.take k++[c]:=by rw[CT,I];rfl
  have H:=RX k (s.take k) rE (fun c T=>x c (List.take_subset _ _ T));have h:=X1 (k:=k) U;refine go ?_;refine⟨k+1,⟨rfl,⟨rfl,?_,rfl,rfl,?_,trivial⟩,⟨by omega,rfl⟩⟩,by omega⟩
  ·rw[a,T6,Int.mul_comm 10];rfl
  ·show iV ((k:Int)+1)=_;rw[BB];rfl
 ·obtain rfl:k=s.length:=by omega
  refine go ?_;exact DF rfl ⟨by rw[Co];rfl,d⟩
def lO(s:LU)(w:World)(Z:1<=s.length)(A:s.length<=4)(x:∀c∈s,Ag c=true):Fn Zp 196 [AA s] w fun v w'=>v=.tuple #[iV (EY s),.nilIface]/\Ext w w':=by
 refine AM func196 rfl ntmps196 ?_;refine gC (lg s w Z A x) ?_;rintro v Q⟨rfl,d⟩;refine go ?_;refine VN rfl (go ?_);exact DF rfl ⟨rfl,d⟩
def QC{t:LU}{ts:List Tok}(h:Ax t (ts.head?.map bare)=true):Run (Cw t) ts (.ok (true,ts.tail)):=by
 refine Run.look ?_;rw[AJ h];exact Run.next (Run.ret _ _)
def QB{t:LU}{ts:List Tok}(h:Ax t (ts.head?.map bare)=false):Run (Cw t) ts (.ok (false,ts)):=by
 refine Run.look ?_;rw[h];exact Run.ret _ _
def QJ{t:LU}{ts:List Tok}(h:Ax t (ts.head?.map bare)=true):Run (Di t) ts (.ok ((),ts.tail)):=by
 refine Run.look ?_;rw[AJ h];exact Run.next (Run.ret _ _)
def TO{t:LU}{ts:List Tok}(h:Ax t (ts.head?.map bare)=false):Run (Di t) ts (.error ts):=by
 refine Run.look ?_;rw[h];exact Run.fail _
def HH(E:Env)(w:World)(ts:List Tok)(t:LU)(h:PSt w E ts):Fn Zp 110 [pt E.s,AA t] w (fun v w'=>Keep [E.s] w w'/\∃b ts',v=.bool b/\Run (Cw t) ts (.ok (b,ts'))/\PSt w' E ts'):=by
 obtain⟨a,c,S,e⟩:=h.D;refine AM func110 rfl ntmps110 ?_;refine gC (K1 E w ts t h) ?_;rintro v Q⟨rfl,rfl⟩;refine go ?_;cases hse:Ax t (ts.head?.map bare)with
 |false=>
  refine gR ?_;exact⟨Keep.refl _ _,false,ts,rfl,QB hse,h⟩
 |true=>
  cases ts with
  |nil=>simp[Ax]at hse
  |cons x l=>
   have N:(x::l).length=l.length+1:=rfl;obtain⟨b,o,rfl,A,_,f⟩:=PSt.tok e;refine go ?_;refine AW rfl rfl rfl S O (fun L d=>?_);have g:=h.taken f d;refine gR ?_;exact⟨d.E,true,l,rfl,QC hse,g⟩
def H9(E:Env)(w:World)(ts:List Tok)(t:LU)(h:PSt w E ts):PDo E 134 [pt E.s,AA t] w (Di t) ts (fun _ v _=>v=.tuple #[]):=by
 unfold PDo;refine CK func134 rfl ntmps134 nlr rD ?_;refine gC (HH E w ts t h) ?_;rintro v Q⟨d,b,W,rfl,B,a⟩;cases hse:Ax t (ts.head?.map bare)with
 |false=>
  have e:=B.det (QB hse);cases e;refine go ?_;refine Av (JK E Q ts a) rfl (R:=fun _ _=>False) ?_ ?_
  ·rintro v L H;exact H.elim
  ·rintro y L⟨rfl,rfl⟩;refine go ?_;exact Ap ⟨d,ts,TO hse,rfl⟩
 |true=>
  have e:=B.det (QC hse);cases e;refine go ?_;exact Bt rfl ⟨d,(),ts.tail,QJ hse,a,rfl⟩
def Oh(E:Env)(w:World)(ts:List Tok)(h:PSt w E ts)(z:GK w):PDo E 135 [pt E.s] w nameG ts (fun _ v s=>v=AA s/\BP s=true):=by
 obtain⟨a,c,S,k⟩:=h.D;unfold PDo;refine CK func135 rfl ntmps135 nlr rD (go ?_);cases ts with
 |nil=>
  have N:([]:List Tok).length=0:=rfl;refine go ?_;refine Av (JK E w [] h) rfl (R:=fun _ _=>False) ?_ ?_
  ·rintro v L H;exact H.elim
  ·rintro y L⟨rfl,rfl⟩;refine go ?_;exact Ap ⟨Keep.refl _ _,[],Run.look (Run.fail _),rfl⟩
 |cons x l=>
  have N:(x::l).length=l.length+1:=rfl;obtain⟨b,o,rfl,A,⟨p,d,q⟩,m⟩:=PSt.tok k;by_cases i:x.kind=1/\BP x.text=true
  ·obtain⟨P,f⟩:=i;refine gC (Qg x.text w z) ?_;rintro v Q⟨rfl,rfl⟩;rw[f];refine go ?_;refine AW rfl rfl rfl S O (fun L j=>?_);have n:=h.taken m j;refine go ?_;refine AC rfl ⟨j.E,x.text,l,Run.look ?_,n,rfl,f⟩;have e:(decide (x.kind=1)&&BP x.text)=true:=by simp[P,f]
   show Run (if(decide (x.kind=1)&&BP x.text)=true then _ else _) _ _;rw[AJ e];exact Run.next (Run.ret _ _)
  ·have g:Run nameG (x::l) (.error (x::l)):=by
    have e:(decide (x.kind=1)&&BP x.text)=false:=by
     cases S:(decide (x.kind=1)&&BP x.text)with
     |false=>rfl
     |true=>simp at S;exact absurd S i
    refine Run.look ?_;show Run (if(decide (x.kind=1)&&BP x.text)=true then _ else _) _ _;rw[e];exact Run.fail _
   by_cases P:x.kind=1
   ·have f:BP x.text=false:=by
     cases S:BP x.text with
     |false=>rfl
     |true=>exact absurd ⟨P,S⟩ i
    refine gC (Qg x.text w z) ?_;rintro v Q⟨rfl,rfl⟩;rw[f];refine go ?_;refine Av (JK E Q (x::l) h) rfl (R:=fun _ _=>False) ?_ ?_
    ·rintro v L H;exact H.elim
    ·rintro y L⟨rfl,rfl⟩;refine go ?_;exact Ap ⟨Keep.refl _ _,x::l,g,rfl⟩
   ·refine go ?_;refine Av (JK E w (x::l) h) rfl (R:=fun _ _=>False) ?_ ?_
    ·rintro v L H;exact H.elim
    ·rintro y L⟨rfl,rfl⟩;refine go ?_;exact Ap ⟨Keep.refl _ _,x::l,g,rfl⟩
def OJ(E:Env)(w:World)(ts:List Tok)(h:PSt w E ts):PDo E 136 [pt E.s] w numberG ts (fun _ v n=>v=iV n/\0<=n/\n<=9999):=by
 obtain⟨a,c,S,j⟩:=h.D;unfold PDo;refine CK func136 rfl ntmps136 nlr rD (go ?_);cases ts with
 |nil=>
  have N:([]:List Tok).length=0:=rfl;refine go ?_;refine Av (JK E w [] h) rfl (R:=fun _ _=>False) ?_ ?_
  ·rintro v L H;exact H.elim
  ·rintro y L⟨rfl,rfl⟩;refine go ?_;exact Ap ⟨Keep.refl _ _,[],Run.look (Run.fail _),rfl⟩
 |cons x l=>
  have N:(x::l).length=l.length+1:=rfl;obtain⟨b,o,rfl,A,⟨m,p,q⟩,e⟩:=PSt.tok j;by_cases P:x.kind=2
  ·obtain⟨X,f,g⟩:=h.wf x O P;refine gC (lO x.text w X f g) ?_;rintro v Q⟨rfl,d⟩;refine go ?_;replace h:=h.ext d;replace S:=S.E d O;replace e:=e.ext d;refine go ?_;refine AW rfl rfl rfl S O (fun L i=>?_);have k:=h.taken e i;refine go ?_;have r:=RX _ x.text rfl g;have I:=X1 f;refine AC rfl ⟨d.any.Q i.E O,EY x.text,l,Run.look ?_,k,rfl,by omega⟩;show Run (if decide (x.kind=2)=true then _ else _) _ _;rw[AJ (by simp[P])];exact Run.next (Run.ret _ _)
  ·refine go ?_;refine Av (JK E w (x::l) h) rfl (R:=fun _ _=>False) ?_ ?_
   ·rintro v L H;exact H.elim
   ·rintro y L⟨rfl,rfl⟩;refine go ?_;refine Ap ⟨Keep.refl _ _,x::l,Run.look ?_,rfl⟩;show Run (if decide (x.kind=2)=true then _ else _) _ _;rw[AG (by simp[P])];exact Run.fail _
def Ji(o:Opr):LV:=[iV o.op,iV o.indexed,iV o.val]
def Og(o:Opr):oneC (Ji o):=by
 intro u a;simp[Ji]at a;rcases a with rfl|rfl|rfl<;>rfl
def Tf(x:LU):∀t:List (LU×Opr),(I1 t).lookup x=(t.lookup x).map GX
 | []=>rfl
 |(a,o)::t=>by
  have n:=Tf x t;simp only[I1,EG,Jo]at n⊢;cases x==a<;>simp[n]
def GA(o:Option Opr):LV:=Ji (o.getD ⟨0,0,0⟩)
def U0(E:Env)(w:World)(ts:List Tok)(m:Nat)(P:List (LU×Opr))(h:PSt w E ts)(hm:SMap w m (I1 P))(a7:m≠E.s):
  Fn Zp 293 [pt E.s,.map (some m)] w (fun v w'=>Keep [E.s] w w'/\∃o ts',v=.tuple #[.agg (GA o).toArray,.bool o.isSome]/\Run (Hr P) ts (.ok (o,ts'))/\PSt w' E ts'):=by
 obtain⟨a,c,S,hs⟩:=h.D;refine AM func293 rfl ntmps293 (go ?_);refine Ai (fun Q D=>?_);have z:Blk Q w.heap.size 199 [iV 0,iV 0,iV 0]:=D.D;have z1:=D.size;have a8:=h.slt;have Z:=h.ext D.E;have T:=S.E D.E O;have a0:=hs.ext D.E;have f:=hm.E D.E O;refine go ?_;cases ts with
 |nil=>
  have W:([]:List Tok).length=0:=rfl;refine go ?_;refine Aa (cs:=[iV 0,iV 0,iV 0]) rfl rfl rfl (Og ⟨0,0,0⟩) z O (fun L u=>?_);have H:Blk L w.heap.size 199 [iV 0,iV 0,iV 0]:=u.D;refine go ?_;exact Dp rfl rfl rfl H.cells ⟨(D.E.E u.E O).any,none,[],rfl,Run.look (Run.ret _ _),Z.E u.E rE⟩
 |cons x l=>
  have W:(x::l).length=l.length+1:=rfl;obtain⟨b,o,rfl,a3,⟨a4,a5,a6⟩,e⟩:=PSt.tok a0;have A:=Tf x.text P;refine go ?_;refine Tm rfl rfl f ?_
  have d:((I1 P).lookup x.text).getD (.agg #[iV 0,iV 0,iV 0])=.agg (GA (P.lookup x.text)).toArray:=by
   rw[A];cases P.lookup x.text<;>rfl
  have N:((I1 P).lookup x.text).isSome=(P.lookup x.text).isSome:=by rw[A];simp
  rw[d,N]
  have n:Run (Hr P) (x::l) (match P.lookup x.text with|some p=>.ok (some p,l)|none=>.ok (none,x::l)):=by
   refine Run.look ?_;show Run (match P.lookup x.text with|some p=>.next (.ret (some p))|none=>.ret none) _ _;cases P.lookup x.text with
   |none=>exact Run.ret _ _
   |some p=>exact Run.next (Run.ret _ _)
  have k:oneC (GA (P.lookup x.text)):=Og _;have X:(GA (P.lookup x.text)).length=3:=rfl;generalize P.lookup x.text=q at n k X;refine go ?_;refine Ai (fun L R=>?_);have z2:=R.size;refine Aa (cs:=GA q) rfl rfl rfl k R.D (by simp[GA,Ji]) (fun C i=>?_);have j:Ext Q C:=R.E.E i.E O;have I:Blk C Q.heap.size 199 (GA q):=i.D;have B:=Z.ext j;have V:=T.E j O;have a1:=e.ext j;have r:=z.E j O;refine go ?_;cases q with
  |none=>
   refine go ?_;refine Aa (cs:=GA none) rfl rfl rfl k r (by simp[GA,Ji]) (fun t g=>?_);have K:Blk t w.heap.size 199 (GA none):=g.D;have k4:Ext w t:=(D.E.Q j).E g.E O;refine go ?_;exact Dp rfl rfl rfl K.cells ⟨k4.any,none,x::l,rfl,n,B.E g.E rE⟩
  |some q=>
   refine go ?_;refine AW rfl rfl rfl V O (fun t g=>?_);have q4:=B.taken a1 g;have a2:=I.E g.E rE;have F:=r.E g.E rE;refine go ?_;refine Aa (cs:=GA (some q)) rfl rfl rfl k F (by simp[GA,Ji]) (fun G y=>?_);have M:Blk G w.heap.size 199 (GA (some q)):=y.D;have k5:Keep [E.s] w G:=((D.E.Q j).any.Q g.E O).Q y.E O;refine go ?_;exact Dp rfl rfl rfl M.cells ⟨k5,some q,l,rfl,n,q4.E y.E rE⟩
def Vt(E:Env)(w:World)(ts:List Tok)(o:Opr)(h:PSt w E ts):PDo E 294 [pt E.s,.agg (Ji o).toArray] w (FZ o) ts (fun _ v n=>v=.tuple #[iV (n.getD 0),.bool n.isSome]/\0<=n.getD 0/\n.getD 0<=9999):=by
 have z:=h.slt;unfold PDo;refine CK func294 rfl ntmps294 nlr rD (go ?_);refine Ac (L:=Ji o) rfl (fun Q D=>?_);have q:Blk Q w.heap.size 199 [iV o.op,iV o.indexed,iV o.val]:=D.D;have j:=D.size;have Z:=h.ext D.E;refine go ?_;by_cases f:o.indexed=0
 ·refine go ?_;refine DF rfl ⟨D.E.any,none,ts,?_,Z,rfl,by decide,by decide⟩;unfold FZ;rw[AJ f];exact Run.ret _ _
 ·have e:FZ o=(Cw [91]).bind fun b=>if b then numberG.bind fun n=>(Di [93]).bind fun _=>.ret (some n)else .ret none:=by unfold FZ;rw[AG f]
  rw[e];refine gC (HH E Q ts [91] Z) ?_;rintro v k⟨m,b,i,rfl,K,W⟩;replace m:Keep [E.s] w k:=D.E.any.Q m O;cases b with
  |false=>
   refine go ?_;exact DF rfl ⟨m,none,i,K.bind (Run.ret _ _),W,rfl,by decide,by decide⟩
  |true=>
   refine go ?_;refine Av (OJ E k i W) rfl ?_ ?_
   ·rintro v p⟨g,n,I,a,R,rfl,r,x⟩;replace g:=m.Q g O;refine go ?_;refine Av (H9 E p I [93] R) rfl ?_ ?_
    ·rintro v t⟨c,u,B,d,A,rfl⟩;refine go ?_;exact DF rfl ⟨g.Q c O,some n,B,K.bind (a.bind (d.bind (Run.ret _ _))),A,rfl,r,x⟩
    ·rintro y t⟨c,l,d,rfl⟩;refine go ?_;exact Ap ⟨g.Q c O,l,K.bind (a.bind (Run.bindE d)),rfl⟩
   ·rintro y p⟨g,l,a,rfl⟩;refine go ?_;exact Ap ⟨m.Q g O,l,K.bind (Run.bindE a),rfl⟩
end
def Aw:=@Option.mem_toList
def FP:=@List.length_nil
def Ch:=@List.append_nil
section
variable {mk:Prop}[MK mk]
structure PW(w:World)(E:Env)(ts:List Tok):Prop where
 st:PSt w E ts
 gk:GK w
 ge:10<=E.s
def PW.next{w w':World}{E:Env}{ts ts':List Tok}(h:PW w E ts)(k:Keep [E.s] w w')(Q:PSt w' E ts'):PW w' E ts':=
 ⟨Q,h.gk.E k (by have:=h.ge;simpa using this),h.ge⟩
def PW.ext{w w':World}{E:Env}{ts:List Tok}(h:PW w E ts)(k:Ext w w'):PW w' E ts:=⟨h.st.ext k,h.gk.ext k,h.ge⟩
def PW.E{X:List Nat}{w w':World}{E:Env}{ts:List Tok}(h:PW w E ts)(k:Keep X w w')(T:∀x∈X,E.s<x):PW w' E ts:=
 ⟨h.st.E k T,h.gk.E k (fun x V=>by have:=T x V;have:=h.ge;omega),h.ge⟩
def Uz(w:World)(op:Int)(ok:Nat->Prop)(a:Option Addr)(cap:Nat)(L:List (LV))(l:LF)(i:Sl ok w (.slice a l.length cap) l.length L.flatten)(j:FsAt ok w L l)(N:l≠[]):
  Fn Zp 167 [iV op,.slice a l.length cap] w fun v w'=>Ext w w'/\FAt ok w' v (LL op l):=by
 refine AM func167 rfl ntmps167 (go ?_);refine Ai (fun Q D=>?_);have q:Blk Q w.heap.size 37 zero5:=D.D;refine go ?_;have n:=i.ext D.E;have e:=j.ext D.E;by_cases Z:l.length=1
 ·match l,L,Z,e,n with
  | [f],[c],_,e,n=>
   have F:=e.2.1 c O;have K:=e.2.2 0 c f rfl rfl;obtain⟨s,d,_,z⟩:=K.cells;have t:c=s:=by simpa using d
   subst t;obtain⟨b,o,rfl,S,y⟩:=n.fml e.2.1 (k:=0) rfl O;have r:[f].length=1:=rfl;refine go ?_;refine Al (L:=c) rfl F y ?_;refine Aa (cs:=c) rfl rfl F z q rK (fun g E=>?_)
   have h:Blk g w.heap.size 37 c:=by
    have:=E.D
    match c,F with
    | [c0,c1,c2,c3,c4],_=>exact this
   refine go ?_;have m:Ext w g:=D.E.E E.E O;refine Ar rfl rfl F h.cells ⟨m,?_⟩;exact(j.2.2 0 c f rfl rfl).ext m
 ·refine go ?_;refine Aa (cs:=[iV op,AA [],iV 0,iV 0,.slice a l.length cap]) rfl rfl rfl (by intro u p;simp at p;rcases p with rfl|rfl|rfl|rfl|rfl<;>rfl) q rK (fun g E=>?_);have h:Blk g w.heap.size 37 [iV op,AA [],iV 0,iV 0,.slice a l.length cap]:=E.D;refine go ?_;have m:Ext w g:=D.E.E E.E O
  have x:LL op l=⟨op,[],0,0,l⟩:=by
   match l,Z,N with
   |_::_::_,_,_=>rfl
  rw[x];exact Ar rfl rfl rfl h.cells ⟨m,FAt.node op [] 0 0 (i.ext m) (j.ext m)⟩
structure ChainP(sep:LU)(pi:G Fml)(pl:G (LF)):Prop where
 done:∀{t t'},Run (Cw sep) t (.ok (false,t'))->Run pl t (.ok ([],t'))
 more:∀{t t1 t2 t3 a l},Run (Cw sep) t (.ok (true,t1))->Run pi t1 (.ok (a,t2))->Run pl t2 (.ok (l,t3))->Run pl t (.ok (a::l,t3))
 err1:∀{t t1 e},Run (Cw sep) t (.ok (true,t1))->Run pi t1 (.error e)->Run pl t (.error e)
 err2:∀{t t1 t2 a e},Run (Cw sep) t (.ok (true,t1))->Run pi t1 (.ok (a,t2))->Run pl t2 (.error e)->Run pl t (.error e)
def KN(l:LF):Ans (LF)->Ans (LF)
 | .ok y=>.ok (l++y.1,y.2)
 | .error e=>.error e
def ChainP.step{b:LU}{D:G Fml}{c:G (LF)}(h:ChainP b D c){t q d:List Tok}{a:Fml}(Z:Run (Cw b) t (.ok (true,q)))(W:Run D q (.ok (a,d))){r:Ans (LF)}(B:Run c d r):Run c t (KN [a] r):=by
 cases r with
 |ok y=>exact h.more Z W B
 |error e=>exact h.err2 Z W B
def gK(l m:LF)(r:Ans (LF)):KN l (KN m r)=KN (l++m) r:=by
 cases r<;>simp[KN]
def Lt{t:LU}{ts ts':List Tok}{b:Bool}(h:Run (Cw t) ts (.ok (b,ts'))):(b=true/\ts'.length+1=ts.length/\Ax t (ts.head?.map bare)=true/\ts'=ts.tail)\/(b=false/\ts'=ts/\Ax t (ts.head?.map bare)=false):=by
 cases hs:Ax t (ts.head?.map bare)with
 |true=>
  have e:=h.det (QC hs);cases e;cases ts with
  |nil=>simp[Ax]at hs
  |cons x l=>exact .inl ⟨rfl,rfl,rfl,rfl⟩
 |false=>
  have e:=h.det (QB hs);cases e;exact .inr ⟨rfl,rfl,rfl⟩
def EV(E:Env)(N:Nat)(g:FuncId)(D:G Fml):Prop:=∀(w:World)(n:List Tok),PW w E n->n.length<=N->PDo E g [pt E.s] w D n (fun X v a=>FAt (fresh w) X v a)
def Vc(E:Env)(N:Nat)(g:FuncId)[AI Zp g](K:LU)(pi:G Fml)(t:G (LF))(hC:ChainP K pi t)(hI:EV E N g pi)(w:World)(ts:List Tok)(h:PW w E ts)(hN:ts.length<=N):
  PDo E 168 [pt E.s,AA K,.func (.func g) #[pt E.s] #[]] w (pi.bind fun a=>t.bind fun l=>.ret (a::l)) ts
   (fun w' v l=>∃a c L,v=.slice a l.length c/\l≠[]/\Sl (fresh w) w' v l.length L.flatten/\FsAt (fresh w) w' L l):=by
 have b4:=h.st.slt;unfold PDo;refine CK func168 rfl ntmps168 nlr rD (go ?_);refine GJ (v1:=[pt E.s]) (v2:=[]) (vs:=[]) rfl (hI w ts h hN) rfl ?_ ?_;rotate_left
 ·rintro ch Q⟨d,l,T,rfl⟩;refine go ?_;exact Ap ⟨d,l,Run.bindE T,rfl⟩
 rintro v Q⟨d,D,q,T,q1,f1⟩;have Z:=h.next d q1
 have a6:=f1.lt;obtain⟨av,rfl,_⟩:=f1.form;refine Ay (out:=[iV D.op,AA D.name,iV D.val,iV D.bound,av]) rfl U rP (fun w2 R=>?_);have z2:=R.size;have o2:=R.own (n:=1) (size:=5) rfl rL (AO _);have h2:=Z.ext R.E;have b8:=d.size;refine go ?_;have b5:q.length<=ts.length:=(show q<:+ts from T.suffix).length_le
 refine Aj (α:=Value×List (LV)×LF×List Tok) (fun x=>[(0,pt E.s),(1,AA K),(2,.func (.func g) #[pt E.s] #[]),(7,x.1)])
  (fun x W=>Keep [E.s] w W/\PW W E x.2.2.2/\x.2.2.2.length<=q.length/\x.2.2.1.length+x.2.2.2.length<=ts.length+1/\x.1.ownBlock≠none/\W.ownsRow Q.heap.size 37 5 x.1 x.2.2.1.length x.2.1.flatten/\FsAt (fun b=>fresh w b/\x.1.ownBlock≠some b) W x.2.1 x.2.2.1/\
   ∃m,x.2.2.1=D::m/\∀r,Run t x.2.2.2 r->Run t q (KN m r))
  (fun x=>x.2.2.2.length) (.slice (sm Q.heap.size) 1 1,[[iV D.op,AA D.name,iV D.val,iV D.bound,av]],[D],q)
  ⟨rfl,rfl,rfl,rfl,trivial⟩ ⟨d.ext R.E,h2,AO _,by simp;omega,by simp[Value.ownBlock],by simpa using o2,?_,[],rfl,fun r B=>by cases r<;>simpa[KN]using B⟩ ?_
 ·exact FsAt.one ((a6.ext R.E).mono fun b S=>⟨S.1,by simp[Value.ownBlock];omega⟩) rfl
 rintro⟨v,L,l,a5⟩w3 f3⟨k3,X,a8,a2,a3,o3,F3,m,rfl,p⟩;simp only at k3 X a8 a2 a3 o3 F3 p⊢;refine gC (HH E w3 a5 K X.st) ?_;rintro _ w4⟨o,b,M,rfl,F,q4⟩;have h4:=X.next o q4
 have C:∀g,v.ownBlock=some g->Q.heap.size<=g/\g<w3.heap.size:=fun g f=>Ao o3 f;have o4:=Bf o3 o (fun g f=>by have:=C g f;simp;omega);have F4:=F3.E o (fun b S=>by have:=S.1;simp[fresh]at this⊢;omega);have a1:=k3.Q o O;rcases Lt F with⟨rfl,b2,_,_⟩|⟨rfl,rfl,_⟩
 ·refine go ?_;refine GJ (v1:=[pt E.s]) (v2:=[]) (vs:=[]) rfl (hI w4 M h4 U) rfl ?_ ?_;rotate_left
  ·rintro ch w5⟨k,l,H,rfl⟩;refine go ?_;exact Ap ⟨a1.Q k O,l,T.bind (Run.bindE (p _ (hC.err1 F H))),rfl⟩
  rintro u w5⟨k,a,P,H,q5,f5⟩;have h5:=h4.next k q5
  have b1:P.length<=M.length:=(show P<:+M from H.suffix).length_le;have o5:=Bf o4 k (fun g f=>by have:=C g f;simp;omega);have F5:=F4.E k (fun b S=>by have:=S.1;simp[fresh]at this⊢;omega);have a9:=a1.Q k O;have a7:=f5.lt;have b9:=o.size;have z5:=k.size;have z3:=k3.size;obtain⟨b0,rfl,L5,S5,_⟩:=f5.form;obtain⟨A,z,rfl,_⟩:=id S5
  have b7:Q.heap.size<=w3.heap.size:=by
   obtain⟨g,f⟩:=Option.ne_none_iff_exists'.1 a3;have:=C g f;omega
  refine Ay (out:=[iV a.op,AA a.name,iV a.val,iV a.bound,.slice A a.args.length z]) rfl U rP (fun w6 I=>?_);have z6:=I.size;have o6:=I.own (n:=1) (size:=5) rfl rL (AO _);have b6:=h.st.cnt;have b3:(D::m).length=m.length+1:=rfl;refine Bk (ok:=AL) (v:=v) (sv:=.slice (sm w5.heap.size) 1 1) rfl rfl (CD o5 I.E) (BG o6 fun _ _=>trivial) U rfl rfl (by intro y hy;simp at hy;rcases hy with rfl|rfl|rfl|rfl|rfl<;>rfl) U U U (fun j w7 i=>?_);refine go ?_;have o7:=i.own;have e7:Ext w5 w7->True:=fun _=>trivial;have h7:=(h5.ext I.E).E i.E (fun x V=>by have:=C x (Aw.1 V);omega)
  have a4:∀b,j.ownBlock=some b->v.ownBlock=some b\/b=w6.heap.size:=fun b S=>by
   rcases i.D with e|e
   ·exact .inl sC
   ·rw[e]at S;exact .inr (Ae S).symm
  have F7:FsAt (fun b=>fresh w b/\j.ownBlock≠some b) w7 L (D::m):=by
   refine((F5.lt.E I.E fun _ _=>by simp).E i.E ?_).mono ?_
   ·rintro b⟨⟨_,S⟩,_⟩V;exact S (Aw.1 V)
   ·rintro b⟨⟨Z,S⟩,a0⟩;refine⟨Z,fun e=>?_⟩;rcases a4 b e with e|e
    ·exact S e
    ·omega
  have f7:FAt (fun b=>fresh w b/\j.ownBlock≠some b) w7 (.agg [iV a.op,AA a.name,iV a.val,iV a.bound,.slice A a.args.length z].toArray) a:=by
   refine((a7.ext I.E).E i.E ?_).mono ?_
   ·rintro b⟨S,a0⟩V;have:=C b (Aw.1 V);simp[fresh]at S;omega
   ·rintro b⟨S,a0⟩;simp only[fresh]at S⊢;refine⟨by omega,fun e=>?_⟩;rcases a4 b e with e|e
    ·have:=C b e;omega
    ·omega
  refine⟨(j,L++[[iV a.op,AA a.name,iV a.val,iV a.bound,.slice A a.args.length z]],(D::m)++[a],P),⟨rfl,⟨rfl,rfl,rfl,rfl,trivial⟩,⟨?_,h7,by simp only;omega,by simp only[A9,C9,FP]at a2⊢;omega,i.some O,?_,F7.snoc f7 rfl,m++[a],by simp,fun r B=>?_⟩⟩,by simp only;omega⟩
  ·exact(a9.ext I.E).Q i.E (fun x V a0=>by have:=C x (Aw.1 V);omega)
  ·have e1:(L++[[iV a.op,AA a.name,iV a.val,iV a.bound,.slice A a.args.length z]]).flatten=L.flatten++[iV a.op,AA a.name,iV a.val,iV a.bound,.slice A a.args.length z]:=by simp
   simp only;rw[e1,A9];exact o7
  ·rw[<-gK];exact p _ (hC.step F H B)
 ·refine go ?_;have hS:=BG (ok:=fresh w) o4 (fun g f=>by have:=C g f;simp only[fresh];omega);obtain⟨sa,sc,rfl,_⟩:=id hS;refine go ?_;refine AC rfl ⟨a1,D::m,_,T.bind ((p _ (hC.done F)).bind ?_),q4,_,_,L,rfl,by simp,hS,F4.mono fun b S=>S.1⟩;simp only[Ch];exact Run.ret _ _
end
def He:=@Nat.succ_mul
def Kb:=@Value.agg.injEq
section
variable {mk:Prop}[MK mk]
structure Rp(α:Type)where
 fits:(Nat->Prop)->World->LV->α->Prop
 size:Nat
 len:∀{ok w c a},fits ok w c a->c.length=size
 one:∀{ok w c a},fits ok w c a->oneC c
 E:∀{ok X w w' c a},fits ok w c a->Keep X w w'->(∀b,ok b->b∉X)->fits ok w' c a
 lt:∀{ok w c a},fits ok w c a->fits (fun b=>ok b/\b<w.heap.size) w c a
 mono:∀{ok ok':Nat->Prop}{w c a},fits ok w c a->(∀b,ok b->ok' b)->fits ok' w c a
def Rp.ext{α:Type}(R:Rp α){ok:Nat->Prop}{w w':World}{c:LV}{a:α}(h:R.fits ok w c a)(k:Ext w w'):R.fits ok w' c a:=R.E h k fun _ _=>by simp
def RsAt{α:Type}(R:Rp α)(ok:Nat->Prop)(w:World)(L:List (LV))(l:List α):Prop:=
 L.length=l.length/\∀(i:Nat)(c:LV)(a:α),L[i]?=some c->l[i]?=some a->R.fits ok w c a
section
variable {α:Type}{R:Rp α}{ok:Nat->Prop}{w w':World}{L:List (LV)}{l:List α}
def RsAt.nil:RsAt R ok w [] []:=⟨rfl,fun i c g h=>by simp at h⟩
def RsAt.E{X:List Nat}(h:RsAt R ok w L l)(k:Keep X w w')(T:∀b,ok b->b∉X):RsAt R ok w' L l:=⟨h.1,fun i c a e G=>R.E (h.2 i c a e G) k T⟩
def RsAt.ext(h:RsAt R ok w L l)(k:Ext w w'):RsAt R ok w' L l:=h.E k fun _ _=>by simp
def RsAt.lt(h:RsAt R ok w L l):RsAt R (fun b=>ok b/\b<w.heap.size) w L l:=⟨h.1,fun i c a T G=>R.lt (h.2 i c a T G)⟩
def RsAt.mono{ok':Nat->Prop}(h:RsAt R ok w L l)(e:∀b,ok b->ok' b):RsAt R ok' w L l:=⟨h.1,fun i c a T G=>R.mono (h.2 i c a T G) e⟩
def RsAt.app{M:List (LV)}{m:List α}(h:RsAt R ok w L l)(Q:RsAt R ok w M m):RsAt R ok w (L++M) (l++m):=by
 refine⟨by simp[h.1,Q.1],fun i c a T G=>?_⟩;by_cases F:i<L.length
 ·rw[D4 F]at T;rw[D4 (by rw[<-h.1];exact F)]at G;exact h.2 i c a T G
 ·rw[EJ U]at T;rw[EJ (by rw[<-h.1];omega),<-h.1]at G;exact Q.2 _ c a T G
def RsAt.one{c:LV}{a:α}(h:R.fits ok w c a):RsAt R ok w [c] [a]:=by
 refine⟨rfl,fun i d b x S=>?_⟩;cases i with
 |zero=>simp at x S;subst x;subst S;exact h
 |succ i=>simp at x
def RsAt.snoc{c:LV}{a:α}(h:RsAt R ok w L l)(Q:R.fits ok w c a):RsAt R ok w (L++[c]) (l++[a]):=h.app (RsAt.one Q)
def RsAt.len(h:RsAt R ok w L l):∀c∈L,c.length=R.size:=by
 intro c T;obtain⟨i,F⟩:=Cn T;have z:i<l.length:=by have:=(Ah.1 F).1;rw[h.1]at this;exact this
 exact R.len (h.2 i c _ F (AU z))
def EL(n:Nat):∀L:List (LV),(∀c∈L,c.length=n)->L.flatten.length=L.length*n
 | [],_=>by simp
 |c::L,h=>by
  have:=h c O;have a:=EL n L fun d x=>h d (by simp[x]);simp only[Do,A9,C9,a,He];omega
def RsAt.flat(h:RsAt R ok w L l):L.flatten.length=l.length*R.size:=by rw[<-h.1];exact EL _ L h.len
def RsAt.oneC(h:RsAt R ok w L l):oneC L.flatten:=by
 intro u o;obtain⟨c,T,o⟩:=List.mem_flatten.1 o;obtain⟨i,F⟩:=Cn T;have z:i<l.length:=by have:=(Ah.1 F).1;rw[h.1]at this;exact this
 exact R.one (h.2 i c _ F (AU z)) u o
end
def SlAt{α:Type}(R:Rp α)(ok:Nat->Prop)(w:World)(v:Value)(l:List α):Prop:=∃a c L,v=.slice a l.length c/\Sl ok w v l.length L.flatten/\RsAt R ok w L l
def PJ{α:Type}{R:Rp α}{ok:Nat->Prop}{w:World}{v:Value}{L:List (LV)}{l:List α}(a:0<R.size)(h:Sl ok w v l.length L.flatten)(Q:RsAt R ok w L l):Sl (fun b=>ok b/\b<w.heap.size) w v l.length L.flatten:=by
 refine h.lt fun c e=>?_;have:=Q.flat;rw[e]at this;have g:0<l.length*R.size:=Nat.mul_pos U a;simp at this;omega
def Fh(x:Sgn):LV:=[AA x.name,.bool x.input,iV x.size]
def sgnR:Rp Sgn where
 fits _ _ c x:=c=Fh x
 size:=3
 len h:=by subst h;rfl
 one h:=by subst h;intro u o;simp[Fh]at o;rcases o with rfl|rfl|rfl<;>rfl
 E h _ _:=h
 lt h:=h
 mono h _:=h
def reqR:Rp Rqm where
 fits ok w c x:=∃d:LV,c=[AA x.part,AA x.name,iV x.kind]++d/\d.length=5/\FAt ok w (.agg d.toArray) x.formula
 size:=8
 len h:=by obtain⟨d,rfl,b,_⟩:=h;simp[b]
 one h:=by
  obtain⟨d,rfl,b,g⟩:=h;obtain⟨a,e,_,i⟩:=g.cells;have:d=a:=by simpa using e
  subst this;intro u o;rcases DM.1 o with o|o
  ·simp at o;rcases o with rfl|rfl|rfl<;>rfl
  ·exact i u o
 E h k hX:=by obtain⟨d,e,b,g⟩:=h;exact⟨d,e,b,g.E k hX⟩
 lt h:=by obtain⟨d,e,b,g⟩:=h;exact⟨d,e,b,g.lt⟩
 mono h hk:=by obtain⟨d,e,b,g⟩:=h;exact⟨d,e,b,g.mono hk⟩
def Ak{l:LV}(h:l.all (fun v=>v.oneCell')=true):oneC l:=fun u o=>Bu.1 h u o
def spcR:Rp Spc where
 fits ok w c x:=∃i g,c=[i,g]/\SlAt sgnR ok w i x.sigs/\SlAt reqR ok w g x.reqs
 size:=2
 len h:=by obtain⟨_,_,rfl,_⟩:=h;rfl
 one h:=by
  obtain⟨_,_,rfl,⟨_,_,_,rfl,_⟩,⟨_,_,_,rfl,_⟩⟩:=h;intro u o;simp at o;rcases o with rfl|rfl<;>rfl
 E h k hX:=by
  obtain⟨i,g,e,⟨a,c,L,j,n,W⟩,⟨b,d,M,m,p,A⟩⟩:=h;exact⟨i,g,e,⟨a,c,L,j,n.E k hX,W.E k hX⟩,⟨b,d,M,m,p.E k hX,A.E k hX⟩⟩
 lt h:=by
  obtain⟨i,g,e,⟨a,c,L,j,n,W⟩,⟨b,d,M,m,p,A⟩⟩:=h;exact⟨i,g,e,⟨a,c,L,j,PJ (by show 0<3;decide) n W,W.lt⟩,⟨b,d,M,m,PJ (by show 0<8;decide) p A,A.lt⟩⟩
 mono h hk:=by
  obtain⟨i,g,e,⟨a,c,L,j,n,W⟩,⟨b,d,M,m,p,A⟩⟩:=h;exact⟨i,g,e,⟨a,c,L,j,n.mono hk,W.mono hk⟩,⟨b,d,M,m,p.mono hk,A.mono hk⟩⟩
def fmlR:Rp Fml where
 fits ok w c x:=c.length=5/\FAt ok w (.agg c.toArray) x
 size:=5
 len h:=h.1
 one h:=by
  obtain⟨j,e,_,a⟩:=h.2.cells;simp only[Kb]at e;have u:=congrArg Array.toList e;simp only at u;exact u▸a
 E h k hX:=⟨h.1,h.2.E k hX⟩
 lt h:=⟨h.1,h.2.lt⟩
 mono h hk:=⟨h.1,h.2.mono hk⟩
def Hc(n:Nat):∀(L:List (LV))(k j:Nat)(c:LV)(v:Value),(∀c∈L,c.length=n)->L[k]?=some c->c[j]?=some v->L.flatten[k*n+j]?=some v
 | [],k,j,c,v,_,h,_=>by simp at h
 |d::L,0,j,c,v,h5,h,hv=>by
  simp at h;subst h;rw[Do,Ou,Bs,D4 (Ah.1 hv).1];exact hv
 |d::L,k+1,j,c,v,h5,h,hv=>by
  have x:=h5 d O;rw[Do,EJ (by rw[x,He];omega),x,show(k+1)*n+j-n=k*n+j by rw[He];omega];exact Hc n L k j c v (fun c T=>h5 c rR) rT hv
def Sl.recs{α:Type}{R:Rp α}{ok:Nat->Prop}{w:World}{a:Option Addr}{n cap k sz:Nat}{L:List (LV)}{l:List α}{c:LV}(h:Sl ok w (.slice a n cap) n L.flatten)(e:RsAt R ok w L l)(u:R.size=sz)(g:L[k]?=some c)(H:k<n):
  ∃b o,a=some ⟨b,o,none⟩/\ok b/\Cells w b (o+k*sz) c:=by
 obtain⟨i,r,s,m,W,p,A⟩:=h;cases s;obtain⟨b,o,rfl,S,T⟩:=A.resolve_left U;refine⟨b,o,rfl,S,fun j v s=>?_⟩;have:=T _ _ (Hc sz L k j c v (fun c T=>by rw[e.len c T,u]) g s)
 rwa [<-GH]at this
def SlAt.ext{α:Type}{R:Rp α}{ok:Nat->Prop}{w w':World}{v:Value}{l:List α}(h:SlAt R ok w v l)(k:Ext w w'):SlAt R ok w' v l:=by
 obtain⟨a,c,L,e,b,W⟩:=h;exact⟨a,c,L,e,b.ext k,W.ext k⟩
def SlAt.mono{α:Type}{R:Rp α}{ok ok':Nat->Prop}{w:World}{v:Value}{l:List α}(h:SlAt R ok w v l)(g:∀b,ok b->ok' b):SlAt R ok' w v l:=by
 obtain⟨a,c,L,e,i,W⟩:=h;exact⟨a,c,L,e,i.mono g,W.mono g⟩
def Sl.row{α:Type}{R:Rp α}{ok:Nat->Prop}{w:World}{a:Option Addr}{n c k:Nat}{l:List α}{L:List (LV)}{d:LV}(i:Sl ok w (.slice a n c) n L.flatten)(g:RsAt R ok w L l)(x:L[k]?=some d)(r:k<n):∃b o,a=some ⟨b,o,none⟩/\ok b/\Cells w b (o+k*R.size) d:=by
 obtain⟨p,q,e,_,_,_,h⟩:=i;cases e;rcases h with v|⟨b,o,rfl,S,T⟩
 ·omega
 ·refine⟨b,o,rfl,S,fun j u m=>?_⟩;have:=T (k*R.size+j) u (Hc R.size L k j d u g.len x m);rw[<-GH]at this;exact this
abbrev FV(w:World)(v:Value)(f:Fml):Prop:=FAt AL w v f
def fcC(f:Fml)(a:Value):LV:=[iV f.op,AA f.name,iV f.val,iV f.bound,a]
def PF(ok:Nat->Prop)(w:World)(b o:Nat)(f:Fml):Prop:=ok b/\∃d:LV,d.length=5/\Cells w b o d/\FAt ok w (.agg d.toArray) f
def PF.E{ok:Nat->Prop}{X:List Nat}{w w':World}{b o:Nat}{f:Fml}(h:PF ok w b o f)(k:Keep X w w')(T:∀b,ok b->b∉X):PF ok w' b o f:=by
 obtain⟨S,d,x,a,c⟩:=h;exact⟨S,d,x,a.E k (T b S),c.E k T⟩
def PF.lt{ok:Nat->Prop}{w:World}{b o:Nat}{f:Fml}(h:PF ok w b o f):PF (fun b=>ok b/\b<w.heap.size) w b o f:=by
 obtain⟨S,d,x,T,a⟩:=h;obtain⟨c,e,V,g,G,rfl⟩:=An x;exact⟨⟨S,HX w _ (T 0 _ rfl)⟩,_,rfl,T,a.lt⟩
def PF.mono{ok ok':Nat->Prop}{w:World}{b o:Nat}{f:Fml}(h:PF ok w b o f)(a:∀b,ok b->ok' b):PF ok' w b o f:=by
 obtain⟨S,d,x,T,c⟩:=h;exact⟨a b S,d,x,T,c.mono a⟩
def PF.form{ok:Nat->Prop}{w:World}{b o:Nat}{f:Fml}(h:PF ok w b o f):ok b/\∃a c L,Cells w b o (fcC f (.slice a f.args.length c))/\Sl ok w (.slice a f.args.length c) f.args.length L.flatten/\FsAt ok w L f.args:=by
 obtain⟨S,d,x,T,k⟩:=h;obtain⟨m,e,L,i,g,W,j⟩:=k.form;obtain⟨a,c,rfl,_⟩:=id i;have e:=congrArg Array.toList (Value.agg.inj e);have e:d=fcC f (.slice a f.args.length c):=e;subst e;exact⟨S,a,c,L,T,i,g,W,j⟩
section
variable {P:Program}{all:Array Oper}{Z:Fr->DS->List PanicEntry->World->Prop}{K:Fr->DS->World->Prop}{rest:List Oper}{f:Fr}{ds:DS}{w:World}
 {d:Nat}{ty ty':TypeId}{pos pos':String}{af af':Array Edge}
def FC(L cs:LV)(h:cs.length=L.length):splice L 0 cs=cs:=by
 simp[splice,h]
def CL{T n:Nat}{x:Operand}{cs z:LV}[hZ:CG P T z][hT:Bw P T n](V:ev (upd f d (.pointer (sm w.heap.size))) x=.agg cs.toArray)(H:cs.length=n)(p:z.length=n)(a:oneC cs)
  (h:∀w',New w w' T cs->AF P all Z K rest (upd f d (.pointer (sm w.heap.size))) ds w'):
  AF P all Z K (⟨some d,.alloc T,ty,pos,af,none⟩::⟨none,.store T (.tmp d) x,ty',pos',af',none⟩::rest) f ds w:=by
 refine Ai (L:=z) fun Q D=>?_;refine Aa (b:=w.heap.size) (o:=0) (cs:=cs) (by simp[ev,upd]) V H a D.D U fun c E=>?_;have e:=E.D;rw[FC z cs U]at e;refine h c ⟨D.E.E E.E O,by rw[E.size,D.size],e⟩
def Cv{T B b:Nat}{a x:Operand}{v:Value}{g:Fml}{ok:Nat->Prop}{L:LV}[hT:Bw P T 5](G:ev f a=.pointer (sm b))(V:ev f x=v)(c:FAt ok w v g)(S:Blk w b B L)(j:L.length=5)
  (h:∀w' cs,v=.agg cs.toArray->cs.length=5->Keep [b] w w'->w'.heap.size=w.heap.size->Blk w' b B cs->AF P all Z K rest f ds w'):
  AF P all Z K (⟨none,.store T a x,ty,pos,af,none⟩::rest) f ds w:=by
 obtain⟨cs,rfl,o,i⟩:=c.cells;refine Aa (cs:=cs) G V o i S U fun w' p=>?_;have e:=p.D;rw[FC L cs U]at e;exact h w' cs rfl o p.E p.size e
end
def FAt.new{ok:Nat->Prop}{w w':World}{v:Value}{f:Fml}(h:FAt ok w v f){T:TypeId}{cs:LV}(n:New w w' T cs):FAt ok w' v f:=h.ext n.E
def RY(a b c d:Value)(e:Option Addr)(n m:Nat)(G:a.oneCell'=true)(S:b.oneCell'=true)(T:c.oneCell'=true)(x:d.oneCell'=true):oneC [a,b,c,d,.slice e n m]:=by
 intro u o;simp at o;rcases o with rfl|rfl|rfl|rfl|rfl<;>first|assumption|rfl
def dS(E:Env)(N:Nat)(hF:∀M,M<N->EV E M 46 (body .formula)):EV E N 327 (body .primary):=by
 intro w ts h hN;have c2:=h.st.slt;unfold PDo;refine CK func327 rfl ntmps327 nlr rD (go ?_);refine Ai (fun w1 n1=>?_);have b1:Blk w1 w.heap.size 37 zero5:=n1.D;have z1:=n1.size;have h1:=h.ext n1.E;have k1:Keep [E.s] w w1:=n1.E.any;refine gC (HH E w1 ts [116,114,117,101] h1.st) ?_;rintro _ w2⟨k2,b,R,rfl,K,q2⟩;have h2:=h1.next k2 q2
 have b2:=b1.E k2 rH;have a6:=k1.Q k2 O;have z2:=k2.size;have l2:R.length<=ts.length:=(show R<:+ts from K.suffix).length_le;refine go ?_;cases b with
 |true=>
  refine go ?_;refine Cv rfl rfl (FAt.leaf (fresh w) w2 1 [] 0 0) b2 rfl (fun w3 k e o t z3 X=>go ?_);refine Ar rfl rfl o X.cells ⟨a6.Q t rH,_,R,K.bind (Run.ret _ _),q2.E t rH,?_⟩;rw[<-e];exact FAt.leaf _ _ _ _ _ _
 |false=>
 refine gC (HH E w2 R [102,97,108,115,101] h2.st) ?_;rintro _ w3⟨t,b,P,rfl,u,q3⟩;have h3:=h2.next t q3
 have X:=b2.E t rH;have a7:=a6.Q t O;have z3:=t.size;have l3:P.length<=R.length:=(show P<:+R from u.suffix).length_le;refine go ?_;cases b with
 |true=>
  refine go ?_;refine Cv rfl rfl (FAt.leaf (fresh w) w3 2 [] 0 0) X rfl (fun w4 k e o z z4 Z=>go ?_);refine Ar rfl rfl o Z.cells ⟨a7.Q z rH,_,P,K.bind (u.bind (Run.ret _ _)),q3.E z rH,?_⟩;rw[<-e];exact FAt.leaf _ _ _ _ _ _
 |false=>
 refine gC (HH E w3 P [40] h3.st) ?_;rintro _ w4⟨z,b,V,rfl,i,q4⟩;have A:=h3.next z q4
 have Z:=X.E z rH;have F:=a7.Q z O;have z4:=z.size;have l4:V.length<=P.length:=(show V<:+P from i.suffix).length_le;refine go ?_;cases b with
 |true=>
  have c3:V.length+1=P.length:=by
   rcases Lt i with⟨_,e,_⟩|⟨e,_⟩
   ·exact e
   ·cases e
  refine go ?_;refine Av (hF V.length U w4 V A (AO _)) rfl ?_ ?_;rotate_left
  ·
   rintro y wq⟨l,q,g,rfl⟩;refine go ?_;exact Ap ⟨F.Q l O,q,K.bind (u.bind (i.bind (Run.callE g))),rfl⟩
  rintro v w5⟨x,f,t5,p,q5,f5⟩;have h5:=A.next x q5
  have b5:=Z.E x rH;have D:=F.Q x O;have z5:=x.size;obtain⟨k,rfl,o,b7⟩:=f5.cells;refine CL (cs:=k) rfl o rF b7 (fun w6 I=>?_);have f6:=f5.new I;have h6:=h5.ext I.E;have b6:=b5.E I.E O;have z6:=I.size;have e6:=I.D;refine go ?_;refine Av (H9 E w6 t5 [41] h6.st) rfl ?_ ?_;rotate_left
  ·
   rintro y wq⟨l,q,g,rfl⟩;refine go ?_;exact Ap ⟨(D.ext I.E).Q l O,q,K.bind (u.bind (i.bind (Run.call p (Run.bindE g)))),rfl⟩
  rintro v w7⟨j,_,t7,H,q7,rfl⟩;have B:=e6.E j rH;have a:=b6.E j rH;have f7:=f6.E j rS;refine go ?_;refine Cu rfl B o ?_;refine Cv rfl rfl f7 a rfl (fun w8 c0 e b4 c z8 Q=>go ?_);refine Ar rfl rfl b4 Q.cells ⟨((D.ext I.E).Q j O).Q c rH,f,t7,K.bind (u.bind (i.bind (Run.call p (H.bind (Run.ret _ _))))),q7.E c rH,?_⟩;rw[<-e];exact(f7.E c rS).mono (fun b S=>by simp only[fresh]at S⊢;omega)
 |false=>
 refine go ?_;refine Av (Oh E w4 V A.st A.gk) rfl ?_ ?_;rotate_left
 ·
  rintro y wq⟨l,q,g,rfl⟩;refine go ?_;exact Ap ⟨F.Q l O,q,K.bind (u.bind (i.bind (Run.bindE g))),rfl⟩
 rintro v w5⟨x,s,t5,p,q5,rfl,hs⟩;have h5:=A.next x q5
 have b5:=Z.E x rH;have D:=F.Q x O;have z5:=x.size;refine go ?_;refine CL (cs:=[iV 3,AA s,iV 1,iV 0,nS]) rfl rfl rF (RY _ _ _ _ _ _ _ rfl rfl rfl rfl) (fun w6 I=>?_);have h6:=h5.ext I.E;have b6:=b5.E I.E O;have z6:=I.size;have e6:=I.D;have b8:=D.ext I.E;refine gC (HH E w6 t5 [61] h6.st) ?_;rintro _ w7⟨j,b,t7,rfl,H,q7⟩;have h7:=h6.next j q7
 have a:=b6.E j rH;have B:=e6.E j rH;have a3:=b8.Q j O;have z7:=j.size;refine go ?_;cases b with
 |true=>
  refine go ?_;refine Av (OJ E w7 t7 h7.st) rfl ?_ ?_;rotate_left
  ·
   rintro y wq⟨l,q,g,rfl⟩;refine go ?_;exact Ap ⟨a3.Q l O,q,K.bind (u.bind (i.bind (p.bind (H.bind (Run.bindE g))))),rfl⟩
  rintro v w8⟨c,n,t8,m,C,rfl,hn0,hn1⟩;have Q:=a.E c rH;have e8:=B.E c rH;have z8:=c.size;refine go ?_;refine AW rfl rfl rfl e8 O (fun w9 W=>?_);have d:=Q.E W.E rH;have e9:Blk w9 w5.heap.size 37 [iV 3,AA s,iV n,iV 0,nS]:=W.D;have z9:=W.size;refine go ?_;refine Cv rfl rfl (FAt.leaf (fresh w) w9 3 s n 0) d rfl (fun a0 k e o a5 b9 a1=>go ?_);refine Ar rfl rfl o a1.cells ⟨((a3.Q c O).Q W.E rH).Q a5 rH,_,t8,K.bind (u.bind (i.bind (p.bind (H.bind (m.bind (Run.ret _ _)))))),(C.E W.E rH).E a5 rH,?_⟩;rw[<-e];exact FAt.leaf _ _ _ _ _ _
 |false=>
 refine gC (HH E w7 t7 [33,61] h7.st) ?_;rintro _ w8⟨c,b,t8,rfl,m,C⟩;have h8:=h7.next c C
 have Q:=a.E c rH;have e8:=B.E c rH;have a4:=a3.Q c O;have z8:=c.size;refine go ?_;cases b with
 |true=>
  refine go ?_;refine Av (OJ E w8 t8 h8.st) rfl ?_ ?_;rotate_left
  ·
   rintro y wq⟨l,q,g,rfl⟩;refine go ?_;exact Ap ⟨a4.Q l O,q,K.bind (u.bind (i.bind (p.bind (H.bind (m.bind (Run.bindE g)))))),rfl⟩
  rintro v w9⟨G,n,t9,r9,q9,rfl,hn0,hn1⟩;have d:=Q.E G rH;have e9:=e8.E G rH;have z9:=G.size;refine go ?_;refine AW rfl rfl rfl e9 O (fun a0 T=>?_);have a1:=d.E T.E rH;have c1:Blk a0 w5.heap.size 37 [iV 3,AA s,iV n,iV 0,nS]:=T.D;have b9:=T.size;refine go ?_;refine Ay (out:=[iV 3,AA s,iV n,iV 0,nS]) rfl U rP (fun c4 r=>?_);have c6:=r.size;have b11:=a1.E r.E O;obtain⟨b0,a8⟩:=FsAt.fresh (ok:=fresh w) (L:=[[iV 3,AA s,iV n,iV 0,nS]]) r (FsAt.one (FAt.leaf (fresh w) a0 3 s n 0) rfl) (by simp only[fresh];omega) O;refine go ?_;refine Cv rfl rfl (FAt.node 4 [] 0 0 b0 a8) b11 rfl (fun c5 k e o a2 c7 b3=>go ?_);refine Ar rfl rfl o b3.cells ⟨(((a4.Q G O).Q T.E rH).ext r.E).Q a2 rH,_,t9,K.bind (u.bind (i.bind (p.bind (H.bind (m.bind (r9.bind (Run.ret _ _))))))),(((q9.E T.E rH).ext r.E)).E a2 rH,?_⟩;rw[<-e];obtain⟨S12,a9⟩:=FsAt.fresh (ok:=fun b=>fresh w b/\b≠w.heap.size) (L:=[[iV 3,AA s,iV n,iV 0,nS]]) r (FsAt.one (FAt.leaf _ a0 3 s n 0) rfl) (by simp only[fresh];omega) O;exact((FAt.node 4 [] 0 0 S12 a9).E a2 (by rintro b⟨_,S⟩;simpa using S)).mono fun b S=>S.1
 |false=>
  refine go ?_;refine Cv rfl rfl (FAt.leaf (fresh w) w8 3 s 1 0) Q rfl (fun w9 k e o G z9 d=>go ?_);refine Ar rfl rfl o d.cells ⟨a4.Q G rH,_,t8,K.bind (u.bind (i.bind (p.bind (H.bind (m.bind (Run.ret _ _)))))),C.E G rH,?_⟩;rw[<-e];exact FAt.leaf _ _ _ _ _ _
end
end Go.Proofs.YtjbocjodncbogaaGreatDoor
