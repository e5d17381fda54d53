/- TopOwedOnce, part 10 of 14: rules, lemmas, walks. Conditions: none. -/
import Derived.Test.YtohodbnnhlddpaaGreatDoorVO9
namespace Go.Proofs.YtohodbnnhlddpaaGreatDoor
open Go.RowKit
set_option linter.unusedVariables false
section
variable {mk:Prop}[MK mk]
abbrev BS:=Int×Bool
def tkB(s:BS)(d:Int):BS:=(s.1-1,s.2||(decide (s.1-1<0)||decide (d<1)))
def dualM(N:Int):Int:=if N=1 then 2 else if N=2 then 1 else if N=5 then 6 else if N=6 then 5 else if N=9 then 10 else if N=10 then 9 else if N=16 then 17 else if N=17 then 16 else N
def negM(G:Bool)(N:Int):Int:=if G then dualM N else N
def lnB(N v:Int)(d:Int)(s:BS):Int×LF×BS:=if(tkB s (d-1)).2 then(v,[],tkB s (d-1))else(if N=17 then 1 else v,[⟨if N=9\/N=16 then 1 else 2,[],0,0,[]⟩],tkB s (d-1))
def isLn(N:Int):Bool:=decide (N=11)||decide (N=12)||decide (N=18)||decide (N=19)
def isPs(N:Int):Bool:=decide (N=15)||decide (N=16)||decide (N=17)
def Cs(N v:Int)(G:Bool):Int:=if isPs N&&G then 1-v else v
def bdB(N:Int)(G:Bool)(g:Int->BS->Fml×BS):Nat->Int->BS->Fml×BS
 |0,d,s=>g d s
 |n+1,d,s=>if s.2 then(Ag,s)else if(tkB s d).2 then(Ag,tkB s d)else if(tkB (tkB s d) (d-1)).2 then(Ag,tkB (tkB s d) (d-1))else
  let r:=g (d-1) (tkB (tkB s d) (d-1));let q:=bdB N G g n (d-2) r.2
  (⟨negM G (Cn N),[],0,0,[r.1,⟨8,[],0,0,[q.1]⟩]⟩,q.2)
mutual
def fmB:Fml->Bool->Int->BS->Fml×BS
 | .mk op nm v b args,neg,d,s=>
  if s.2 then(Ag,s)
  else if op=4 then fm0 args (!neg) d s
  else if op=3/\neg=true then(if(tkB s d).2 then(Ag,tkB s d)else if(tkB (tkB s d) (d-1)).2 then(Ag,tkB (tkB s d) (d-1))else(⟨4,[],0,0,[⟨3,nm,v,0,[]⟩]⟩,tkB (tkB s d) (d-1)))
  else if op=13\/op=14 then bdB op neg (fm0 args neg) b.toNat d s
  else if(tkB s d).2 then(Ag,tkB s d)
  else
   let ln:=if isLn op then lnB (negM neg (Cn op)) (Cs op v neg) d (tkB s d)else(Cs op v neg,[],tkB s d)
   let r:=fmL (op==7) args neg (d-1) ln.2.2
   (⟨negM neg (Cn op),nm,ln.1,0,ln.2.1++r.1⟩,r.2)
def fm0:LF->Bool->Int->BS->Fml×BS
 | [],_,_,s=>(Ag,s)
 |a::_,neg,d,s=>fmB a neg d s
def fmL:Bool->LF->Bool->Int->BS->LF×BS
 |_,[],_,_,s=>([],s)
 |turn,a::l,neg,d,s=>let r:=fmB a (neg !=turn) d s;let q:=fmL false l neg d r.2;(r.1::q.1,q.2)
end
def bsOk(s:BS):Prop:= -1<=s.1/\s.1<=1000/\(s.2=false->0<=s.1)
theorem tk_ok{s:BS}{d:Int}(h:bsOk s)(a:s.2=false):bsOk (tkB s d)/\((tkB s d).2=false->1<=d):=by
 obtain⟨X,W,Q⟩:=h;have:=Q a;unfold tkB bsOk;simp only[a,Bool.false_or,Bool.or_eq_false_iff,decide_eq_false_iff_not];refine⟨⟨by omega,by omega,fun h=>by omega⟩,fun h=>by omega⟩
abbrev BAt(w:World)(R:Nat)(s:BS):Prop:=Blk w R 146 [iV s.1,.bool s.2]
theorem gtake_ok(w:World)(R:Nat)(s:BS)(d:Int)(S:BAt w R s)(D:bsOk s):
  Fn Zp 123 [pt R,iV d] w fun u w'=>u=.bool (!(tkB s d).2)/\Keep [R] w w'/\BAt w' R (tkB s d):=by
 obtain⟨l,ov⟩:=s;obtain⟨X,W,_⟩:=D;simp only at X W;refine AG Tryz.func123 rfl Tryz.ntmps123 (go ?_);refine AR (v:=iV (l-1)) rfl rfl rfl S O (fun c q=>?_);have m:Blk c R 146 [iV (l-1),.bool ov]:=q.D;refine go ?_;by_cases M:l-1<0
 ·refine go ?_;refine AR (v:=.bool true) rfl rfl rfl m O (fun L a=>?_);have b:Blk L R 146 [iV (l-1),.bool true]:=a.D;refine go ?_;have e:tkB (l,ov) d=(l-1,true):=by simp[tkB,M]
  rw[e];exact AB rfl ⟨rfl,q.E.trans a.E (fun x h _=>h),b⟩
 ·by_cases C:d<1
  ·refine go ?_;refine AR (v:=.bool true) rfl rfl rfl m O (fun L a=>?_);have b:Blk L R 146 [iV (l-1),.bool true]:=a.D;refine go ?_;have e:tkB (l,ov) d=(l-1,true):=by simp[tkB,C]
   rw[e];exact AB rfl ⟨rfl,q.E.trans a.E (fun x h _=>h),b⟩
  ·refine go ?_;have e:tkB (l,ov) d=(l-1,ov):=by simp[tkB,M,C]
   rw[e];exact AB rfl ⟨rfl,q.E,m⟩
theorem dual_ok(w:World)(N:Int):Fn Zp 126 [iV N] w fun u w'=>u=iV (dualM N)/\w'=w:=by
 unfold dualM;refine AG Tryz.func126 rfl Tryz.ntmps126 (go ?_);by_cases X:N=1
 ·rw[if_pos X];refine go ?_;exact AB rfl ⟨rfl,rfl⟩
 rw[if_neg X];by_cases W:N=2
 ·rw[if_pos W];refine go ?_;exact AB rfl ⟨rfl,rfl⟩
 rw[if_neg W];by_cases Q:N=5
 ·rw[if_pos Q];refine go ?_;exact AB rfl ⟨rfl,rfl⟩
 rw[if_neg Q];by_cases z:N=6
 ·rw[if_pos z];refine go ?_;exact AB rfl ⟨rfl,rfl⟩
 rw[if_neg z];by_cases S:N=9
 ·rw[if_pos S];refine go ?_;exact AB rfl ⟨rfl,rfl⟩
 rw[if_neg S];by_cases V:N=10
 ·rw[if_pos V];refine go ?_;exact AB rfl ⟨rfl,rfl⟩
 rw[if_neg V];by_cases x:N=16
 ·rw[if_pos x];refine go ?_;exact AB rfl ⟨rfl,rfl⟩
 rw[if_neg x];by_cases B:N=17
 ·rw[if_pos B];refine go ?_;exact AB rfl ⟨rfl,rfl⟩
 rw[if_neg B];exact El
set_option maxHeartbeats 1000000 in
theorem glone_ok(w:World)(R b:Nat)(s:BS)(d N v:Int)(nm:LU)(a3:R≠b)(hb:BAt w R s)(hs:bsOk s)(h0:s.2=false)(hd:0<=d)(b0:d<=1000)
  (hc:Blk w b 36 [iV N,AK nm,iV v,iV 0,.slice none 0 0]):
  Fn Zp 127 [pt R,pt b,iV d] w fun u w'=>Keep [R,b] w w'/\BAt w' R (lnB N v d s).2.2/\
   ∃a L,Blk w' b 36 [iV N,AK nm,iV (lnB N v d s).1,iV 0,a]/\w'.ownsRow w.heap.size 36 5 a (lnB N v d s).2.1.length L.flatten/\∀ok,FsAt ok w' L (lnB N v d s).2.1:=by
 have a9:=hc.lt;have a8:=hb.lt;unfold lnB;refine AG Tryz.func127 rfl Tryz.ntmps127 (go ?_);refine AE (gtake_ok w R s (d-1) hb hs) rfl ?_;rintro _ w1⟨rfl,k1,b1⟩;have c1:=hc.E k1 (by simpa using Ne.symm a3);have a0:Keep [R,b] w w1:=k1.mono fun x h=>by simp at h;simp[h]
 cases ht:(tkB s (d-1)).2 with
 |true=>
  refine go ?_;simp only[if_true];exact fin_ret0 rfl ⟨a0,b1,_,[],c1,⟨rfl,.inl ⟨rfl,rfl⟩⟩,fun ok=>FsAt.nil ok _⟩
 |false=>
  rw[if_neg Bool.false_ne_true];refine go ?_;by_cases h9:N=9
  ·rw[if_neg (show¬N=17 by omega),if_pos (show N=9\/N=16 from .inl h9)];refine go ?_;refine AX (rd 0 3 (.read 4 (.read 5 (.alt 3 (.read 6 (.alt 7 (.alt 8 (.read 9 (.read 11 (.read 12 (.alt 10 (.alt 13 .done .stop) (.alt 13 (.alt 10 .done .stop) .stop))))) .stop) .stop)) (.alt 7 (.alt 3 (.read 6 (.alt 8 (.read 9 (.read 11 (.read 12 (.alt 10 (.alt 13 .done .stop) (.alt 13 (.alt 10 .done .stop) .stop))))) .stop)) .stop) .stop))))) An Dv (fun wd I ed=>⟨fun _=>True,?_,?_⟩)
   ·trivial
   have S:=(a0).ext I;have D:=(c1).E I O;have m:=(b1).E I O;refine go ?_
   refine D_leaf (α:=Value) (.read 9 (.read 11 (.read 12 (.alt 10 (.alt 13 .done .stop) (.alt 13 (.alt 10 .done .stop) .stop))))) (fun a=>[(32,pt b),(37,.agg #[iV 1,AK [],iV 0,iV 0,.slice none 0 0]),(38,iV ((0:Nat):Int)),(40,a)])
    (fun a W=>Keep [R,b] w W/\Blk W b 36 [iV N,AK nm,iV v,iV 0,.slice none 0 0]/\BAt W R (tkB s (d-1))/\W.ownsRow w.heap.size 36 5 a 1 zero5) ?_ (fun G=>?_)
   ·rintro a f' W⟨C,V,r,H⟩;obtain⟨g,z,M,rfl,t,Q,hM,T,X⟩:=own_set (n:=0) (xs:=[]) (cs:=[iV 1,AK [],iV 0,iV 0,.slice none 0 0]) H rfl rfl V (fun g t=>by have:=(Ad H t).1;omega);have a1:g≠R:=by have:=hb.lt;omega
    have A:g≠b:=by omega
    refine go ?_;refine D_A rfl ?_ (D_E rfl ?_)
    ·refine AH (o:=0+0*5) (cs:=[iV 1,AK [],iV 0,iV 0,.slice none 0 0]) rfl rfl rfl (AW rfl) Q U (fun p i=>?_);refine wNl trivial ?_;refine go ?_;refine D_E rfl ?_;refine AR rfl rfl rfl (V.E i.E (by simpa using A.symm)) O (fun e l=>?_);refine wNl trivial ?_;obtain⟨E,j,k⟩:=T p e i l;exact Ei
    ·refine AR rfl rfl rfl V O (fun p i=>?_);refine wNl trivial ?_;refine go ?_;refine D_E rfl ?_;refine AH (o:=0+0*5) (cs:=[iV 1,AK [],iV 0,iV 0,.slice none 0 0]) rfl rfl rfl (AW rfl) (Q.E i.E EI) U (fun e l=>?_);refine wNl trivial ?_;obtain⟨E,j,k⟩:=X p e i l;exact Ei
   refine D_A rfl ?_ (D_E rfl ?_)
   ·refine AL rfl (D.cell (o:=4) rfl) ?_;refine wNl trivial ?_;refine go ?_;refine D_E rfl ?_;refine AP (out:=zero5) rfl U D4 (fun w3 Z=>?_);exact EX
   ·refine AP (out:=zero5) rfl U D4 (fun w3 Z=>?_);refine wNl trivial ?_;refine go ?_;refine D_E rfl ?_;have K:=D.E Z.E O;refine AL rfl (K.cell (o:=4) rfl) ?_;exact EX
  by_cases a6:N=16
  ·rw[if_neg (show¬N=17 by omega),if_pos (show N=9\/N=16 from .inr a6)];refine go ?_;refine AX (rd 0 3 (.read 4 (.read 5 (.alt 3 (.read 6 (.alt 7 (.alt 8 (.read 9 (.read 11 (.read 12 (.alt 10 (.alt 13 .done .stop) (.alt 13 (.alt 10 .done .stop) .stop))))) .stop) .stop)) (.alt 7 (.alt 3 (.read 6 (.alt 8 (.read 9 (.read 11 (.read 12 (.alt 10 (.alt 13 .done .stop) (.alt 13 (.alt 10 .done .stop) .stop))))) .stop)) .stop) .stop))))) An Dv (fun wd I ed=>⟨fun _=>True,?_,?_⟩)
   ·trivial
   have S:=(a0).ext I;have D:=(c1).E I O;have m:=(b1).E I O;refine go ?_
   refine D_leaf (α:=Value) (.read 9 (.read 11 (.read 12 (.alt 10 (.alt 13 .done .stop) (.alt 13 (.alt 10 .done .stop) .stop))))) (fun a=>[(32,pt b),(37,.agg #[iV 1,AK [],iV 0,iV 0,.slice none 0 0]),(38,iV ((0:Nat):Int)),(40,a)])
    (fun a W=>Keep [R,b] w W/\Blk W b 36 [iV N,AK nm,iV v,iV 0,.slice none 0 0]/\BAt W R (tkB s (d-1))/\W.ownsRow w.heap.size 36 5 a 1 zero5) ?_ (fun G=>?_)
   ·rintro a f' W⟨C,V,r,H⟩;obtain⟨g,z,M,rfl,t,Q,hM,T,X⟩:=own_set (n:=0) (xs:=[]) (cs:=[iV 1,AK [],iV 0,iV 0,.slice none 0 0]) H rfl rfl V (fun g t=>by have:=(Ad H t).1;omega);have a1:g≠R:=by have:=hb.lt;omega
    have A:g≠b:=by omega
    refine go ?_;refine D_A rfl ?_ (D_E rfl ?_)
    ·refine AH (o:=0+0*5) (cs:=[iV 1,AK [],iV 0,iV 0,.slice none 0 0]) rfl rfl rfl (AW rfl) Q U (fun p i=>?_);refine wNl trivial ?_;refine go ?_;refine D_E rfl ?_;refine AR rfl rfl rfl (V.E i.E (by simpa using A.symm)) O (fun e l=>?_);refine wNl trivial ?_;obtain⟨E,j,k⟩:=T p e i l;exact Ei
    ·refine AR rfl rfl rfl V O (fun p i=>?_);refine wNl trivial ?_;refine go ?_;refine D_E rfl ?_;refine AH (o:=0+0*5) (cs:=[iV 1,AK [],iV 0,iV 0,.slice none 0 0]) rfl rfl rfl (AW rfl) (Q.E i.E EI) U (fun e l=>?_);refine wNl trivial ?_;obtain⟨E,j,k⟩:=X p e i l;exact Ei
   refine D_A rfl ?_ (D_E rfl ?_)
   ·refine AL rfl (D.cell (o:=4) rfl) ?_;refine wNl trivial ?_;refine go ?_;refine D_E rfl ?_;refine AP (out:=zero5) rfl U D4 (fun w3 Z=>?_);exact EX
   ·refine AP (out:=zero5) rfl U D4 (fun w3 Z=>?_);refine wNl trivial ?_;refine go ?_;refine D_E rfl ?_;have K:=D.E Z.E O;refine AL rfl (K.cell (o:=4) rfl) ?_;exact EX
  rw[if_neg (show¬(N=9\/N=16) by omega)];by_cases a2:N=17
  ·rw[if_pos a2];refine go ?_;refine AR (v:=iV 1) rfl rfl rfl c1 O (fun w2 p2=>?_);have a5:Blk w2 b 36 [iV N,AK nm,iV 1,iV 0,.slice none 0 0]:=p2.D;have a4:=b1.E p2.E (by simpa using a3);have a7:Keep [R,b] w w2:=a0.trans p2.E (fun x h _=>by simp at h;simp[h]);refine go ?_;refine AX (rd 0 3 (.read 4 (.read 5 (.alt 3 (.read 6 (.alt 7 (.alt 8 (.read 9 (.read 11 (.read 12 (.alt 10 (.alt 13 .done .stop) (.alt 13 (.alt 10 .done .stop) .stop))))) .stop) .stop)) (.alt 7 (.alt 3 (.read 6 (.alt 8 (.read 9 (.read 11 (.read 12 (.alt 10 (.alt 13 .done .stop) (.alt 13 (.alt 10 .done .stop) .stop))))) .stop)) .stop) .stop))))) An Dv (fun wd I ed=>⟨fun _=>True,?_,?_⟩)
   ·trivial
   have S:=(a7).ext I;have D:=(a5).E I O;have m:=(a4).E I O;refine go ?_
   refine D_leaf (α:=Value) (.read 9 (.read 11 (.read 12 (.alt 10 (.alt 13 .done .stop) (.alt 13 (.alt 10 .done .stop) .stop))))) (fun a=>[(32,pt b),(37,.agg #[iV 2,AK [],iV 0,iV 0,.slice none 0 0]),(38,iV ((0:Nat):Int)),(40,a)])
    (fun a W=>Keep [R,b] w W/\Blk W b 36 [iV N,AK nm,iV 1,iV 0,.slice none 0 0]/\BAt W R (tkB s (d-1))/\W.ownsRow w.heap.size 36 5 a 1 zero5) ?_ (fun G=>?_)
   ·rintro a f' W⟨C,V,r,H⟩;obtain⟨g,z,M,rfl,t,Q,hM,T,X⟩:=own_set (n:=0) (xs:=[]) (cs:=[iV 2,AK [],iV 0,iV 0,.slice none 0 0]) H rfl rfl V (fun g t=>by have:=(Ad H t).1;omega);have a1:g≠R:=by have:=hb.lt;omega
    have A:g≠b:=by omega
    refine go ?_;refine D_A rfl ?_ (D_E rfl ?_)
    ·refine AH (o:=0+0*5) (cs:=[iV 2,AK [],iV 0,iV 0,.slice none 0 0]) rfl rfl rfl (AW rfl) Q U (fun p i=>?_);refine wNl trivial ?_;refine go ?_;refine D_E rfl ?_;refine AR rfl rfl rfl (V.E i.E (by simpa using A.symm)) O (fun e l=>?_);refine wNl trivial ?_;obtain⟨E,j,k⟩:=T p e i l;exact Ej
    ·refine AR rfl rfl rfl V O (fun p i=>?_);refine wNl trivial ?_;refine go ?_;refine D_E rfl ?_;refine AH (o:=0+0*5) (cs:=[iV 2,AK [],iV 0,iV 0,.slice none 0 0]) rfl rfl rfl (AW rfl) (Q.E i.E EI) U (fun e l=>?_);refine wNl trivial ?_;obtain⟨E,j,k⟩:=X p e i l;exact Ej
   refine D_A rfl ?_ (D_E rfl ?_)
   ·refine AL rfl (D.cell (o:=4) rfl) ?_;refine wNl trivial ?_;refine go ?_;refine D_E rfl ?_;refine AP (out:=zero5) rfl U D4 (fun w3 Z=>?_);exact EX
   ·refine AP (out:=zero5) rfl U D4 (fun w3 Z=>?_);refine wNl trivial ?_;refine go ?_;refine D_E rfl ?_;have K:=D.E Z.E O;refine AL rfl (K.cell (o:=4) rfl) ?_;exact EX
  ·rw[if_neg a2];refine go ?_;refine AX (rd 0 3 (.read 4 (.read 5 (.alt 3 (.read 6 (.alt 7 (.alt 8 (.read 9 (.read 11 (.read 12 (.alt 10 (.alt 13 .done .stop) (.alt 13 (.alt 10 .done .stop) .stop))))) .stop) .stop)) (.alt 7 (.alt 3 (.read 6 (.alt 8 (.read 9 (.read 11 (.read 12 (.alt 10 (.alt 13 .done .stop) (.alt 13 (.alt 10 .done .stop) .stop))))) .stop)) .stop) .stop))))) An Dv (fun wd I ed=>⟨fun _=>True,?_,?_⟩)
   ·trivial
   have S:=(a0).ext I;have D:=(c1).E I O;have m:=(b1).E I O;refine go ?_
   refine D_leaf (α:=Value) (.read 9 (.read 11 (.read 12 (.alt 10 (.alt 13 .done .stop) (.alt 13 (.alt 10 .done .stop) .stop))))) (fun a=>[(32,pt b),(37,.agg #[iV 2,AK [],iV 0,iV 0,.slice none 0 0]),(38,iV ((0:Nat):Int)),(40,a)])
    (fun a W=>Keep [R,b] w W/\Blk W b 36 [iV N,AK nm,iV v,iV 0,.slice none 0 0]/\BAt W R (tkB s (d-1))/\W.ownsRow w.heap.size 36 5 a 1 zero5) ?_ (fun G=>?_)
   ·rintro a f' W⟨C,V,r,H⟩;obtain⟨g,z,M,rfl,t,Q,hM,T,X⟩:=own_set (n:=0) (xs:=[]) (cs:=[iV 2,AK [],iV 0,iV 0,.slice none 0 0]) H rfl rfl V (fun g t=>by have:=(Ad H t).1;omega);have a1:g≠R:=by have:=hb.lt;omega
    have A:g≠b:=by omega
    refine go ?_;refine D_A rfl ?_ (D_E rfl ?_)
    ·refine AH (o:=0+0*5) (cs:=[iV 2,AK [],iV 0,iV 0,.slice none 0 0]) rfl rfl rfl (AW rfl) Q U (fun p i=>?_);refine wNl trivial ?_;refine go ?_;refine D_E rfl ?_;refine AR rfl rfl rfl (V.E i.E (by simpa using A.symm)) O (fun e l=>?_);refine wNl trivial ?_;obtain⟨E,j,k⟩:=T p e i l;exact Ej
    ·refine AR rfl rfl rfl V O (fun p i=>?_);refine wNl trivial ?_;refine go ?_;refine D_E rfl ?_;refine AH (o:=0+0*5) (cs:=[iV 2,AK [],iV 0,iV 0,.slice none 0 0]) rfl rfl rfl (AW rfl) (Q.E i.E EI) U (fun e l=>?_);refine wNl trivial ?_;obtain⟨E,j,k⟩:=X p e i l;exact Ej
   refine D_A rfl ?_ (D_E rfl ?_)
   ·refine AL rfl (D.cell (o:=4) rfl) ?_;refine wNl trivial ?_;refine go ?_;refine D_E rfl ?_;refine AP (out:=zero5) rfl U D4 (fun w3 Z=>?_);exact EX
   ·refine AP (out:=zero5) rfl U D4 (fun w3 Z=>?_);refine wNl trivial ?_;refine go ?_;refine D_E rfl ?_;have K:=D.E Z.E O;refine AL rfl (K.cell (o:=4) rfl) ?_;exact EX
theorem bd_ok{N:Int}{G:Bool}{g:Int->BS->Fml×BS}(t:∀d s,bsOk s->bsOk (g d s).2):∀(n:Nat)(d:Int)(s:BS),bsOk s->bsOk (bdB N G g n d s).2
 |0,d,s,h=>t d s h
 |n+1,d,s,h=>by
  rw[bdB]
  split
  ·exact h
  ·rename_i a;have a:s.2=false:=by simpa using a
   have R:=tk_ok (d:=d) h a
   split
   ·exact R.1
   ·rename_i X;have X:(tkB s d).2=false:=by simpa using X
    have b:=tk_ok (d:=d-1) R.1 X
    split
    ·exact b.1
    ·exact bd_ok t n _ _ (t _ _ b.1)
def FnF(R:Nat)(W:World)(b o:Nat)(G:Bool)(d:Int)(s:BS)(r:Fml×BS):Prop:=Fn Zp 79 [pt R,.pointer (some ⟨b,o,none⟩),.bool G,iV d] W fun u Z=>Keep [R] W Z/\BAt Z R r.2/\FAt (fun x=>W.heap.size<=x) Z u r.1
set_option maxHeartbeats 1000000 in
theorem gbounded_ok(R:Nat)(G:Bool)(N:Int)(g:Int->BS->Fml×BS)(b o b' o' al cc:Nat)(j:World)(hal:1<=al)(q0:j.cell? ⟨b,o+0,none⟩=some (iV N))(q4:j.cell? ⟨b,o+4,none⟩=some (.slice (some ⟨b',o',none⟩) al cc))(C:b≠R)(hbb:R<j.heap.size)(hg:∀d s,bsOk s->bsOk (g d s).2)
  (b6:∀(W:World)(d:Int)(s:BS),Keep [R] j W->0<=d->d<=1000->bsOk s->BAt W R s->FnF R W b' (o'+0*5) G d s (g d s)):
  ∀(n:Nat)(W:World)(d:Int)(s:BS),n<=9->Keep [R] j W->0<=d->d<=1000->bsOk s->BAt W R s->Fn Zp 124 [pt R,.pointer (some ⟨b,o,none⟩),iV (n:Int),.bool G,iV d] W fun u w'=>Keep [R] W w'/\BAt w' R (bdB N G g n d s).2/\FAt (fun x=>W.heap.size<=x) w' u (bdB N G g n d s).1:=by
 intro n;have e1:=World.block_lt_of_cell? j _ q0;simp only at e1
 induction n with
 |zero=>
  intro W d s _ V hd c1 D S;have z0:=V.size;have c8:=V.cell q4 ES;refine AG Tryz.func124 rfl Tryz.ntmps124 (go ?_);refine AS (L:=zero5) (fun m E=>?_);have z1:=E.size;have g0:=E.E.cell c8 O;refine go ?_;refine AE (b6 m d s (V.ext E.E) hd c1 D (S.E E.E O)) rfl ?_;rintro u w2⟨F,z,f2⟩;obtain⟨r,rfl,e2,e5⟩:=f2.cells;obtain⟨p,I,t,M,A,rfl⟩:=Ab e2;refine AH (cs:=[p,I,t,M,A]) rfl rfl rfl e5 (E.D.E F Dw) D0 (fun e f=>?_);refine go ?_;exact AU rfl rfl rfl f.D.cells ⟨(E.E.any.trans F (fun _ h _=>h)).trans f.E (fun y hy B=>by simp at hy;omega),z.E f.E Dw,(f2.E f.E (fun y hy hm=>by simp at hm;omega)).mono fun y hy=>by omega⟩
 |succ n ih=>
  intro W d s hn V hd c1 D S;have z0:=V.size;have c8:=V.cell q4 ES;have e9:=V.cell q0 ES;obtain⟨l,ov⟩:=s;refine AG Tryz.func124 rfl Tryz.ntmps124 (go ?_);refine AS (L:=zero5) (fun m E=>?_);have z1:=E.size;have b7:=S.E E.E O;refine go ?_;rw[bdB];cases ov with
  |true=>
   rw[if_pos rfl];refine go ?_;refine AH (cs:=zero5) rfl rfl rfl (AW rfl) ((E).D.E (Keep.refl [R] m) Dw) D0 (fun e f=>?_);refine go ?_;have z9:=(E).size;exact AU rfl rfl rfl f.D.cells ⟨((E).E.any.trans (Keep.refl [R] m) (fun _ h _=>h)).trans f.E (fun x h B=>by simp at h;omega),(b7).E f.E Dw,FAt.leaf _ _ 0 [] 0 0⟩
  |false=>
   rw[if_neg Bool.false_ne_true];refine go ?_;refine AE (gtake_ok m R (l,false) d b7 D) rfl ?_;rintro _ w2⟨rfl,F,z⟩;obtain⟨c3,c0⟩:=tk_ok (d:=d) D rfl;cases ht:(tkB (l,false) d).2 with
   |true=>
    rw[if_pos rfl];refine go ?_;refine AH (cs:=zero5) rfl rfl rfl (AW rfl) ((E).D.E F Dw) D0 (fun e f=>?_);refine go ?_;have z9:=(E).size;exact AU rfl rfl rfl f.D.cells ⟨((E).E.any.trans F (fun _ h _=>h)).trans f.E (fun x h B=>by simp at h;omega),(z).E f.E Dw,FAt.leaf _ _ 0 [] 0 0⟩
   |false=>
    rw[if_neg Bool.false_ne_true];have c0:=c0 ht;refine go ?_;refine AE (gtake_ok w2 R _ (d-1) z c3) rfl ?_;rintro _ w⟨rfl,k3,b8⟩;obtain⟨c4,c2⟩:=tk_ok (d:=d-1) c3 ht;have a0:Keep [R] m w:=F.trans k3 (fun _ h _=>h);cases ht3:(tkB (tkB (l,false) d) (d-1)).2 with
    |true=>
     rw[if_pos rfl];refine go ?_;refine AH (cs:=zero5) rfl rfl rfl (AW rfl) ((E).D.E a0 Dw) D0 (fun e f=>?_);refine go ?_;have z9:=(E).size;exact AU rfl rfl rfl f.D.cells ⟨((E).E.any.trans a0 (fun _ h _=>h)).trans f.E (fun x h B=>by simp at h;omega),(b8).E f.E Dw,FAt.leaf _ _ 0 [] 0 0⟩
    |false=>
     rw[if_neg Bool.false_ne_true];have c2:=c2 ht3;have g8:=a0.size;have q03:=a0.cell (E.E.cell e9 O) ES;refine go ?_;refine AE (full_ok w N) rfl ?_;rintro _ w⟨rfl,rfl⟩;refine go ?_;refine AS (L:=zero5) (fun w4 n4=>?_);refine AH (cs:=[iV (Cn N),AK [],iV 0,iV 0,.slice none 0 0]) rfl rfl rfl (AW rfl) n4.D D0 (fun w5 p5=>?_);have z4:=n4.size;have z5:=p5.size;have c6:Ext w w5:=n4.E.E p5.E O;obtain⟨i,b9⟩:∃i,i=w.heap.size:=⟨_,rfl⟩;have b4:Blk w5 i 36 [iV (Cn N),AK [],iV 0,iV 0,.slice none 0 0]:=by rw[b9];exact p5.D
     rw[<-b9];refine go ?_;refine DF (α:=Unit) (fun _=>[(0,pt R),(1,.pointer (some ⟨b,o,none⟩)),(2,iV ((n+1:Nat):Int)),(3,.bool G),(4,iV d),(10,pt W.heap.size),(11,pt i)]) (fun _ q=>Keep [i] w5 q/\Blk q i 36 [iV (negM G (Cn N)),AK [],iV 0,iV 0,.slice none 0 0]) ?_ ?_
     ·cases G with
      |false=>
       refine go ?_;exact Ao () ag ⟨Keep.refl _ _,b4⟩
      |true=>
       refine go ?_;refine AE (dual_ok w5 (Cn N)) rfl ?_;rintro _ w5⟨rfl,rfl⟩;refine go ?_;refine AR (v:=iV (dualM (Cn N))) rfl rfl rfl b4 O (fun q p6=>go ?_);exact Ao () ag ⟨p6.E,p6.D⟩
     rintro _ q f6⟨a5,d2⟩;have z6:=a5.size;have a2:Keep [R] m q:=(a0.ext c6).trans a5 (fun x h B=>by simp at h;omega);have a8:Keep [R] j q:=(V.ext E.E).trans a2 (fun x h _=>h);have d8:=(b8.E c6 O).E a5 Dw;have g1:=a8.cell q4 ES;refine go ?_;have f8:=S.lt;have z62:=a2.size;refine AE (b6 q (d-1) _ a8 U U c4 d8) rfl ?_;rintro u7 w7⟨k7,d9,f7⟩;obtain⟨f5,rfl,e4,e7⟩:=f7.cells;obtain⟨K,P,Q,X,a,rfl⟩:=Ab e4;have z7:=k7.size;refine AS (L:=zero5) (fun w8 n8=>?_);have z8:=n8.size;refine AH (cs:=[K,P,Q,X,a]) rfl rfl rfl e7 n8.D D0 (fun e f=>?_);have z9:=f.size;have a7:Ext w7 e:=n8.E.E f.E O;have d0:Blk e w7.heap.size 36 [K,P,Q,X,a]:=f.D;have c7:Keep [R] q e:=k7.ext a7;have e8:Keep [R] j e:=a8.trans c7 (fun x h _=>h);have e0:=d9.E a7 O;have f9:=f7.ext a7;refine go ?_;rw[show((n+1:Nat):Int)-1=(n:Int) by omega];refine AE (ih e (d-2) _ U e8 U U (hg _ _ c4) e0) rfl ?_;rintro g2 c9⟨a1,d7,b5⟩;obtain⟨f4,rfl,e3,e6⟩:=b5.cells;obtain⟨p,I,t,M,A,rfl⟩:=Ab e3;have g5:=a1.size;refine AS (L:=zero5) (fun g3 a9=>?_);have g6:=a9.size;refine AH (cs:=[p,I,t,M,A]) rfl rfl rfl e6 a9.D D0 (fun k b1=>?_);have g7:=b1.size;have Z:Ext c9 k:=a9.E.E b1.E O;have b13:Blk k c9.heap.size 36 [p,I,t,M,A]:=b1.D;have f1:Blk k w7.heap.size 36 [K,P,Q,X,a]:=(d0.E a1 Dw).E Z O;have d4:=(f9.E a1 (fun x T h=>by simp at h;omega)).ext Z;have d3:=b5.ext Z;refine go ?_;refine AP (out:=[p,I,t,M,A]) rfl U D4 (fun b2 a3=>?_);have g9:=a3.size;refine go ?_;refine AP (out:=[K,P,Q,X,a,iV 8,AK [],iV 0,iV 0,.slice (sm k.heap.size) 1 1]) rfl U EL (fun b3 b0=>?_);have h0:=b0.size;have c5:Ext k b3:=a3.E.trans b0.E;have a6:Keep [R] q b3:=((c7.trans a1 (fun x h _=>h)).ext Z).ext c5;have d1:Blk b3 i 36 [iV (negM G (Cn N)),AK [],iV 0,iV 0,.slice none 0 0]:=d2.E a6 Dw;refine go ?_;refine AR (v:=.slice (sm b2.heap.size) 2 2) rfl rfl rfl d1 O (fun f0 H=>?_);have f3:Blk f0 i 36 [iV (negM G (Cn N)),AK [],iV 0,iV 0,.slice (sm b2.heap.size) 2 2]:=H.D;have z15:=H.size;refine go ?_;refine AH (cs:=[iV (negM G (Cn N)),AK [],iV 0,iV 0,.slice (sm b2.heap.size) 2 2]) rfl rfl rfl (AW rfl) (((E.D.E a2 Dw).E a6 Dw).E H.E Dw) D0 (fun g4 a4=>?_);refine go ?_;have d5:FsAt (fun x=>W.heap.size<=x/\x≠W.heap.size/\x≠i) k [[p,I,t,M,A]] [(bdB N G g n (d-2) (g (d-1) (tkB (tkB (l,false) d) (d-1))).2).1]:=FsAt.one (d3.mono fun x T=>by omega) rfl;obtain⟨h1,h2⟩:=FsAt.fresh (L:=[[p,I,t,M,A]]) a3 d5 U O;have hN:=FAt.node 8 [] 0 0 h1 h2;have d6:=FsAt.two (c:=[K,P,Q,X,a]) (d:=[iV 8,AK [],iV 0,iV 0,.slice (sm k.heap.size) 1 1]) ((d4.mono (ok':=fun x=>W.heap.size<=x/\x≠W.heap.size/\x≠i) fun x T=>by omega).ext a3.E) rfl hN rfl;obtain⟨h3,h4⟩:=FsAt.fresh (L:=[[K,P,Q,X,a],[iV 8,AK [],iV 0,iV 0,.slice (sm k.heap.size) 1 1]]) b0 d6 U O;have hM:=((FAt.node (negM G (Cn N)) [] 0 0 h3 h4).E H.E (fun x T h=>by simp at h;omega)).E a4.E (fun x T h=>by simp at h;omega);refine AU rfl rfl rfl a4.D.cells ⟨?_,((((d7.E Z O).E c5 O).E H.E Dw).E a4.E Dw),hM.mono fun x T=>T.1⟩;exact(((E.E.any.trans a2 (fun _ h _=>h)).trans a6 (fun _ h _=>h)).trans H.E (fun x h B=>by simp at h;omega)).trans a4.E (fun x h B=>by simp at h;omega)
mutual
theorem fmB_ok:∀(f:Fml)(neg:Bool)(d:Int)(s:BS),bsOk s->bsOk (fmB f neg d s).2
 | .mk op nm v b args,neg,d,s,h=>by
  rw[fmB]
  split
  ·exact h
  ·rename_i h0;have h0:s.2=false:=by simpa using h0
   have t1:=(tk_ok (d:=d) h h0).1
   split
   ·exact fm0_ok args _ _ _ h
   ·split
    ·split
     ·exact t1
     ·rename_i h1;have t2:=(tk_ok (d:=d-1) t1 (by simpa using h1)).1
      split<;>exact t2
    ·split
     ·exact bd_ok (fun d s hs=>fm0_ok args neg d s hs) _ _ _ h
     ·split
      ·exact t1
      ·rename_i h1;refine fmL_ok _ args _ _ _ ?_
       split
       ·unfold lnB;have t2:=(tk_ok (d:=d-1) t1 (by simpa using h1)).1
        split<;>exact t2
       ·exact t1
theorem fm0_ok:∀(l:LF)(neg:Bool)(d:Int)(s:BS),bsOk s->bsOk (fm0 l neg d s).2
 | [],_,_,_,h=>h
 |a::_,neg,d,s,h=>fmB_ok a neg d s h
theorem fmL_ok:∀(t:Bool)(l:LF)(neg:Bool)(d:Int)(s:BS),bsOk s->bsOk (fmL t l neg d s).2
 |_,[],_,_,_,h=>h
 |t,a::l,neg,d,s,h=>fmL_ok false l neg d _ (fmB_ok a _ d s h)
end
theorem fmL_len:∀(t:Bool)(l:LF)(G:Bool)(d:Int)(s:BS),(fmL t l G d s).1.length=l.length
 |_,[],_,_,_=>rfl
 |t,a::l,G,d,s=>by rw[fmL];simp[fmL_len false l]
theorem fmL_snoc:∀(args:LF)(k:Nat)(x:Fml)(t:Bool)(G:Bool)(d:Int)(s:BS),args[k]?=some x->
  fmL t (args.take (k+1)) G d s=((fmL t (args.take k) G d s).1++[(fmB x (G !=(t&&k==0)) d (fmL t (args.take k) G d s).2).1],(fmB x (G !=(t&&k==0)) d (fmL t (args.take k) G d s).2).2)
 | [],k,x,t,G,d,s,h=>by cases h
 |a::l,0,x,t,G,d,s,h=>by
  cases h;simp[fmL]
 |a::l,k+1,x,t,G,d,s,h=>by
  have b:=fmL_snoc l k x false G d (fmB a (G !=t) d s).2 EC;simp only[List.take_succ_cons,fmL,b];have e:(t&&(k+1==0))=(false&&k==0):=by simp
  simp[e]
def lnF(N v:Int)(G:Bool)(d:Int)(s:BS):Int×LF×BS:=if isLn N then lnB (negM G (Cn N)) (Cs N v G) d s else(Cs N v G,[],s)
theorem fmB_eq(N v b:Int)(nm:LU)(args:LF)(G:Bool)(d:Int)(s:BS):fmB (.mk N nm v b args) G d s=
  if s.2 then(Ag,s)
  else if N=4 then fm0 args (!G) d s
  else if N=3/\G=true then(if(tkB s d).2 then(Ag,tkB s d)else if(tkB (tkB s d) (d-1)).2 then(Ag,tkB (tkB s d) (d-1))else(⟨4,[],0,0,[⟨3,nm,v,0,[]⟩]⟩,tkB (tkB s d) (d-1)))
  else if N=13\/N=14 then bdB N G (fm0 args G) b.toNat d s
  else if(tkB s d).2 then(Ag,tkB s d)
  else(⟨negM G (Cn N),nm,(lnF N v G d (tkB s d)).1,0,(lnF N v G d (tkB s d)).2.1++(fmL (N==7) args G (d-1) (lnF N v G d (tkB s d)).2.2).1⟩,(fmL (N==7) args G (d-1) (lnF N v G d (tkB s d)).2.2).2):=by
 rw[fmB];rfl
mutual
def okN:Fml->Bool
 | .mk op _ v b args=>(if op=4\/op=13\/op=14 then decide (1<=args.length)else true)&&decide (0<=b)&&decide (b<=9)&&decide (-9<=v)&&decide (v<=9)&&okNL args
def okNL:LF->Bool
 | []=>true
 |a::l=>okN a&&okNL l
end
theorem okNL_mem:∀{l:LF}{a:Fml},okNL l=true->a∈l->okN a=true
 | [],_,_,h=>by cases h
 |b::l,a,h,y=>by
  simp only[okNL,Bool.and_eq_true]at h;rcases List.mem_cons.1 y with rfl|y
  ·exact h.1
  ·exact okNL_mem h.2 y
theorem okN_parts{N v b:Int}{nm:LU}{args:LF}(h:okN (.mk N nm v b args)=true):(N=4\/N=13\/N=14->1<=args.length)/\0<=b/\b<=9∧ -9<=v/\v<=9/\∀a∈args,okN a=true:=by
 simp only[okN,Bool.and_eq_true,decide_eq_true_eq]at h;obtain⟨⟨⟨⟨⟨X,W⟩,Q⟩,z⟩,S⟩,V⟩:=h;refine⟨fun h=>by rw[if_pos h]at X;simpa using X,W,Q,z,S,fun a I=>okNL_mem V I⟩
set_option maxHeartbeats 4000000 in
theorem gform_ok(R:Nat):∀(n:Nat)(w:World)(b o:Nat)(f:Fml)(G:Bool)(d:Int)(s:BS),dpF f<=n->szF f<=1000->PF (fun b=>b≠R) w b o f->okN f=true->0<=d->d<=1000->bsOk s->BAt w R s->FnF R w b o G d s (fmB f G d s):=by
 intro n
 induction n with
 |zero=>intro w b o f G d s hn;rw[BQ]at hn;omega
 |succ n ih=>
 intro w b o f G d s hn hz hf hp hd b3 hs hb;unfold FnF;obtain⟨aa,cc,h6,q0,q1,q2,q3,q4,qa⟩:=hf.all;obtain⟨N,nm,v,bd,I⟩:=f;obtain⟨p1,p2,p3,p4,p5,p7⟩:=okN_parts hp;have k0:=Bz I;rw[BQ]at hn;rw[BJ]at hz;simp only[Fml.op,Fml.name,Fml.val,Fml.bound,Fml.args]at hn hz h6 q0 q1 q2 q3 q4 qa;have hbw:=World.block_lt_of_cell? w _ q0;simp only at hbw;have j0:=hb.lt;have a4:b≠R:=hf.1;obtain⟨l,ov⟩:=s;rw[fmB_eq];refine AG Tryz.func79 rfl Tryz.ntmps79 (go ?_);refine AS (L:=zero5) (fun D E=>?_);have z1:=E.size;have c1:=hb.E E.E O;have i0:=E.E.cell q0 O;have i4:=E.E.cell q4 O;have q31:=E.E.cell q3 O;refine go ?_;cases ov with
 |true=>
  rw[if_pos rfl];refine go ?_;refine AH (cs:=zero5) rfl rfl rfl (AW rfl) ((E).D.E (Keep.refl [R] D) Dw) D0 (fun w9 q=>?_);refine go ?_;have z9:=(E).size;exact AU rfl rfl rfl q.D.cells ⟨((E).E.any.trans (Keep.refl [R] D) (fun _ h _=>h)).trans q.E (fun x h B=>by simp at h;omega),(c1).E q.E Dw,FAt.leaf _ _ 0 [] 0 0⟩
 |false=>
 rw[if_neg Bool.false_ne_true];refine go ?_;by_cases h4:N=4
 ·rw[if_pos h4];obtain⟨a,ha⟩:=gl (l:=I) (k:=0) (p1 (.inl h4));obtain⟨b',o',rfl,e7⟩:=qa 0 a ha;have b4:=List.mem_of_getElem? ha;have X:=Bi b4;have h2:=BO b4
  have he:fm0 I (!G) d (l,false)=fmB a (!G) d (l,false):=by
   cases I with
   |nil=>cases ha
   |cons c l'=>cases ha;rfl
  rw[he];have:=p1 (.inl h4);refine go ?_;refine AE (ih D b' _ a (!G) d _ U U (e7.E E.E (fun _ _=>by simp)) (p7 a b4) hd b3 hs c1) rfl ?_;exact Ef
 rw[if_neg h4];by_cases h3:N=3/\G=true
 ·rw[if_pos h3];obtain⟨f7,rfl⟩:=h3;refine go ?_;refine AE (gtake_ok D R (l,false) d c1 hs) rfl ?_;rintro _ w2⟨rfl,k2,a7⟩;obtain⟨b0,c2⟩:=tk_ok (d:=d) hs rfl;cases ht:(tkB (l,false) d).2 with
  |true=>
   exact E9
  |false=>
  rw[if_neg Bool.false_ne_true];have c2:=c2 ht;refine go ?_;refine AE (gtake_ok w2 R _ (d-1) a7 b0) rfl ?_;rintro _ w3⟨rfl,k3,f8⟩;obtain⟨j7,j2⟩:=tk_ok (d:=d-1) b0 ht;have c5:Keep [R] D w3:=k2.trans k3 (fun _ h _=>h);cases ht3:(tkB (tkB (l,false) d) (d-1)).2 with
  |true=>
   rw[if_pos rfl];refine go ?_;refine AH (cs:=zero5) rfl rfl rfl (AW rfl) ((E).D.E c5 Dw) D0 (fun w9 q=>?_);refine go ?_;have z9:=(E).size;exact AU rfl rfl rfl q.D.cells ⟨((E).E.any.trans c5 (fun _ h _=>h)).trans q.E (fun x h B=>by simp at h;omega),(f8).E q.E Dw,FAt.leaf _ _ 0 [] 0 0⟩
  |false=>
  rw[if_neg Bool.false_ne_true];have z2:=k2.size;have z3:=k3.size;refine go ?_;refine AX (rd 0 9 (.alt 9 (.read 10 (.alt 11 .done .stop)) .stop)) An Dv (fun H kd ed=>⟨fun V=>Keep [w.heap.size] H V,?_,?_⟩)
  ·exact FK
  have e1:∀(i:Nat)(u:Value),w.cell? ⟨b,i,none⟩=some u->H.cell? ⟨b,i,none⟩=some u:=fun i u hu=>kd.cell (c5.cell (E.E.cell hu O) EB) O;have s1:∀V,Keep [w.heap.size] H V->V.cell? ⟨b,o+1,none⟩=some (AK nm):=fun V e=>e.cell (e1 _ _ q1) Dw;have s2:∀V,Keep [w.heap.size] H V->V.cell? ⟨b,o+2,none⟩=some (iV v):=fun V e=>e.cell (e1 _ _ q2) Dw;refine go ?_;refine D_E rfl ?_;refine AP (out:=[iV 3,AK nm,iV v,iV 0,.slice none 0 0]) rfl U D4 (fun w4 n4=>?_);refine wNl n4.E.any ?_;refine go ?_;refine D_E rfl ?_;have zd:=kd.size;have z4:=n4.size;refine AH (cs:=[iV 4,AK [],iV 0,iV 0,.slice (sm H.heap.size) 1 1]) rfl rfl rfl (AW rfl) (((E.D.E c5 Dw).E kd O).E n4.E O) D0 (fun w9 q=>?_);refine wNl (n4.E.any.trans q.E (fun _ h _=>h)) ?_;refine go ?_;have hF:FsAt (fun b=>D.heap.size<=b) H [[iV 3,AK nm,iV v,iV 0,.slice none 0 0]] [⟨3,nm,v,0,[]⟩]:=FsAt.one (FAt.leaf _ _ 3 nm v 0) rfl;obtain⟨X,h2⟩:=FsAt.fresh (L:=[[iV 3,AK nm,iV v,iV 0,.slice none 0 0]]) n4 hF U O;refine AU rfl rfl rfl q.D.cells ⟨?_,((f8.E kd O).E n4.E O).E q.E Dw,((FAt.node 4 [] 0 0 X h2).E q.E (fun y F j=>by simp at j;omega)).mono fun y F=>by omega⟩;exact((E.E.any.trans c5 (fun _ h _=>h)).ext (kd.trans n4.E)).trans q.E (fun y F B=>by simp at F;omega)
 rw[if_neg h3];refine mO1 ?_;refine mO1 ?_;refine mO1 ?_;repeat first|refine nx rfl ?_|refine nf rfl ?_
 refine DF (α:=Unit) (fun _=>[(0,pt R),(1,.pointer (some ⟨b,o,none⟩)),(2,.bool G),(3,iV d),(8,pt w.heap.size),(34,.bool false)]) (fun _ W=>W=D) ?_ ?_
 ·by_cases f7:N=3
  ·have hneg:G=false:=by
    cases G with
    |false=>rfl
    |true=>exact absurd ⟨f7,rfl⟩ h3
   subst hneg;exact FR
  ·exact FR
 rintro _ _ f1 e1;rw[e1];clear e1
 have g1:∀{a:Fml}{b' o':Nat},I[0]?=some a->aa=some ⟨b',o',none⟩->Fn Zp 124 [pt R,.pointer (some ⟨b,o,none⟩),iV bd,.bool G,iV d] D fun u w'=>Keep [R] D w'/\BAt w' R (bdB N G (fm0 I G) bd.toNat d (l,false)).2/\FAt (fun x=>D.heap.size<=x) w' u (bdB N G (fm0 I G) bd.toNat d (l,false)).1:=fun{a b' o'}ha b7=>by
  have b4:=List.mem_of_getElem? ha;have X:=Bi b4;have h2:=BO b4;have h0:=(List.getElem?_eq_some_iff.1 ha).1;obtain⟨b2,o2,e2,e7⟩:=qa 0 a ha;rw[b7]at e2;cases e2;have e:bd=((bd.toNat:Nat):Int):=by omega
  have he:fm0 I G=fmB a G:=by
   cases I with
   |nil=>cases ha
   |cons c l'=>cases ha;rfl
  have hh:=gbounded_ok R G N (fm0 I G) b o b' o' I.length cc D U i0 (by rw[<-b7];exact i4) a4 U (fun d s hs=>fm0_ok I G d s hs) (fun W d s kW h0 b3 hs hb=>by
   rw[he];exact ih W b' _ a G d s U U ((e7.E E.E (fun _ _=>by simp)).E kW (fun y F j=>by simp at j;exact F j)) (p7 a b4) h0 b3 hs hb) bd.toNat D d (l,false) U (Keep.refl _ _) hd b3 hs c1
  rw[<-e]at hh;exact hh
 by_cases h13:N=13\/N=14
 ·rw[if_pos h13];obtain⟨a,ha⟩:=gl (l:=I) (k:=0) (p1 (.inr h13));obtain⟨b',o',b7,_⟩:=qa 0 a ha;have g0:=g1 ha b7;have step:∀(Q:Prop),Q->Q:=fun _ h=>h;rcases h13 with h13|h13
  ·refine go ?_;refine AE g0 rfl ?_;exact Ef
  ·refine go ?_;refine AE g0 rfl ?_;exact Ef
 rw[if_neg h13];clear g1;have i8:¬N=13:=fun h=>h13 (.inl h);have i9:¬N=14:=fun h=>h13 (.inr h);refine go ?_;refine AE (gtake_ok D R (l,false) d c1 hs) rfl ?_;rintro _ w2⟨rfl,k2,a7⟩;obtain⟨b0,c2⟩:=tk_ok (d:=d) hs rfl;cases ht:(tkB (l,false) d).2 with
 |true=>
  exact E9
 |false=>
 rw[if_neg Bool.false_ne_true];have c2:=c2 ht;have z2:=k2.size;refine go ?_;have j9:=z1;refine AX (rd 0 4 (rd 5 8 (.alt 4 (.read 13 (.alt 14 (.alt 15 .done .stop) .stop)) (.alt 14 (.alt 4 (.read 13 (.alt 15 .done .stop)) .stop) .stop)))) An Dv (fun H kd ed=>⟨Ext H,?_,?_⟩)
 ·exact Ew
 have e0:∀(i:Nat)(u:Value),w.cell? ⟨b,i,none⟩=some u->H.cell? ⟨b,i,none⟩=some u:=fun i u hu=>kd.cell (k2.cell (E.E.cell hu O) EB) O;have s0:=e0 _ _ q0;have s1:=e0 _ _ q1;have s2:=e0 _ _ q2;refine go ?_;refine D_leaf (α:=Unit) (.alt 15 .done .stop) (fun _=>[(0,pt R),(1,.pointer (some ⟨b,o,none⟩)),(2,.bool G),(3,iV d),(8,pt w.heap.size),(9,pt H.heap.size),(106,.agg #[iV (Cn N),AK nm,iV v,iV 0,.slice none 0 0])]) (fun _ W=>New H W 36 zero5) ?_ (fun b1=>?_)
 ·rintro _ f' W n4;refine D_E rfl ?_;refine AH (cs:=[iV (Cn N),AK nm,iV v,iV 0,.slice none 0 0]) rfl rfl rfl (AW rfl) n4.D D0 (fun w5 p5=>?_);refine AA ⟨Ext H,fun _ e=>e,n4.E.E p5.E O,?_⟩;clear s0 s1 s2;have zd:=kd.size;have z4:=n4.size;have z5:=p5.size;obtain⟨A,g2⟩:∃A,A=H.heap.size:=⟨_,rfl⟩;have d0:Blk w5 A 36 [iV (Cn N),AK nm,iV v,iV 0,.slice none 0 0]:=by rw[g2];exact p5.D
  have kd5:Ext H w5:=n4.E.E p5.E O;have k15:Keep [R] D w5:=(k2.ext kd).ext kd5;have g7:Keep [R] w w5:=E.E.any.trans k15 (fun _ h _=>h);have e4:=(a7.E kd O).E kd5 O;have f5:=E.D.E k15 Dw;rw[<-g2];have j1:D.heap.size<=A:=by omega
  have hc5l:A<w5.heap.size:=d0.lt;clear n4 p5 kd5 a7 kd ed e0;refine go ?_
  refine DF (α:=Unit) (fun _=>[(0,pt R),(1,.pointer (some ⟨b,o,none⟩)),(2,.bool G),(3,iV d),(8,pt w.heap.size),(9,pt A)])
   (fun _ W=>Keep [R] w W/\BAt W R (tkB (l,false) d)/\Blk W A 36 [iV (negM G (Cn N)),AK nm,iV v,iV 0,.slice none 0 0]/\Blk W w.heap.size 36 zero5/\A<W.heap.size) ?_ ?_
  ·cases G with
   |false=>
    refine go ?_;exact Ao () ag ⟨g7,e4,d0,f5,hc5l⟩
   |true=>
    refine go ?_;refine AE (dual_ok w5 (Cn N)) rfl ?_;rintro _ w5⟨rfl,rfl⟩;refine go ?_;refine AR (v:=iV (dualM (Cn N))) rfl rfl rfl d0 O (fun w6 p6=>go ?_);exact Ao () ag ⟨g7.trans p6.E (fun x h B=>by simp at h;omega),e4.E p6.E Dw,p6.D,f5.E p6.E Dw,by have:=p6.size;omega⟩
  clear d0 e4 f5 k15;rintro _ W f6⟨kW,a3,cW,zW,lW⟩;have g8:=kW.cell q0 EB;have i3:=kW.cell q2 EB;have zz:D.heap.size<=W.heap.size:=by omega
  obtain⟨a6,g5⟩:∃a6,a6=negM G (Cn N):=⟨_,rfl⟩;rw[<-g5]at cW⊢;obtain⟨ln,a5⟩:∃ln,ln=lnF N v G d (tkB (l,false) d):=⟨_,rfl⟩;rw[<-a5];unfold lnF at a5;rw[<-g5]at a5;repeat refine nx rfl ?_
  (refine AJ (Af rfl (AM rfl (AD rfl (AL rfl Dz ?_))))<;>refine AA ?_)
  refine Q_then ?_
  refine DF (α:=Value×List (LV)) (fun _=>[(0,pt R),(1,.pointer (some ⟨b,o,none⟩)),(2,.bool G),(3,iV d),(8,pt w.heap.size),(9,pt A)])
   (fun y W=>Keep [R] w W/\BAt W R ln.2.2/\Bld D W A a6 nm ln.1 0 ln.2.1 y.1 y.2/\Blk W w.heap.size 36 zero5/\A<W.heap.size) ?_ ?_
  ·by_cases d9:N=15
   ·have hl:ln=(Cs N v G,[],tkB (l,false) d):=by rw[a5,if_neg (by simp[isLn,d9])]
    rw[hl];cases G with
    |false=>
     exact FD
    |true=>
     have hv:Cs N v true=1-v:=by simp[Cs,isPs,d9]
     exact Ep
   by_cases h16:N=16
   ·have hl:ln=(Cs N v G,[],tkB (l,false) d):=by rw[a5,if_neg (by simp[isLn,h16])]
    rw[hl];cases G with
    |false=>
     exact FD
    |true=>
     have hv:Cs N v true=1-v:=by simp[Cs,isPs,h16]
     exact Ep
   by_cases h17:N=17
   ·have hl:ln=(Cs N v G,[],tkB (l,false) d):=by rw[a5,if_neg (by simp[isLn,h17])]
    rw[hl];cases G with
    |false=>
     exact FD
    |true=>
     have hv:Cs N v true=1-v:=by simp[Cs,isPs,h17]
     exact Ep
   by_cases d7:N=11
   ·have hl:ln=lnB a6 (Cs N v G) d (tkB (l,false) d):=by rw[a5,if_pos (by simp[isLn,d7])]
    have hv:Cs N v G=v:=by simp[Cs,isPs,d7]
    exact EZ
   by_cases d8:N=12
   ·have hl:ln=lnB a6 (Cs N v G) d (tkB (l,false) d):=by rw[a5,if_pos (by simp[isLn,d8])]
    have hv:Cs N v G=v:=by simp[Cs,isPs,d8]
    exact EZ
   by_cases h18:N=18
   ·have hl:ln=lnB a6 (Cs N v G) d (tkB (l,false) d):=by rw[a5,if_pos (by simp[isLn,h18])]
    have hv:Cs N v G=v:=by simp[Cs,isPs,h18]
    exact EZ
   by_cases h19:N=19
   ·have hl:ln=lnB a6 (Cs N v G) d (tkB (l,false) d):=by rw[a5,if_pos (by simp[isLn,h19])]
    have hv:Cs N v G=v:=by simp[Cs,isPs,h19]
    exact EZ
   have hl:ln=(v,[],tkB (l,false) d):=by rw[a5,if_neg (by simp[isLn,d7,d8,h18,h19]),show Cs N v G=v by simp[Cs,isPs,d9,h16,h17]]
   rw[hl];refine go ?_;exact Ao (.slice none 0 0,[]) ag ⟨kW,a3,Bld.start cW,zW,lW⟩
  clear a3 cW zW g8 i3;rintro⟨v0,L0⟩W0 f2⟨kW0,f9,d6,i5,h5⟩;simp only at d6;have f4:=kW0.cell q4 EB;have k4:=kW0.size;obtain⟨sl,e8⟩:∃sl,sl=ln.2.2:=⟨_,rfl⟩;obtain⟨c7,d2⟩:∃c7,c7=ln.2.1:=⟨_,rfl⟩;obtain⟨vk,e9⟩:∃vk,vk=ln.1:=⟨_,rfl⟩
  have h1:bsOk sl:=by
   rw[e8,a5]
   split
   ·unfold lnB;have t2:=(tk_ok (d:=d-1) b0 ht).1
    split<;>exact t2
   ·exact b0
  have j6:c7.length<=1:=by
   rw[d2,a5]
   split
   ·unfold lnB
    split<;>simp
   ·simp
  rw[<-e8]at f9⊢;rw[<-d2,<-e9]at d6;rw[<-d2,<-e9];clear a5 e8 d2 e9;refine go ?_
  refine Ah (α:=Nat×Value×List (LV)) (fun y=>[(0,pt R),(1,.pointer (some ⟨b,o,none⟩)),(2,.bool G),(3,iV d),(8,pt w.heap.size),(9,pt A),(139,iV (I.length:Int)),(140,iV (y.1:Int))])
   (fun y W=>y.1<=I.length/\Keep [R] w W/\BAt W R (fmL (N==7) (I.take y.1) G (d-1) sl).2/\Bld D W A a6 nm vk 0 (c7++(fmL (N==7) (I.take y.1) G (d-1) sl).1) y.2.1 y.2.2/\Blk W w.heap.size 36 zero5/\A<W.heap.size) (fun y=>I.length-y.1) (0,v0,L0) ag
   ⟨by simp,kW0,by simpa[fmL]using f9,by simpa[fmL]using d6,i5,h5⟩ ?_
  rintro⟨k,v0,L0⟩W fr⟨hk,kW,a3,bW,zW,hcW⟩;simp only at hk kW a3 bW zW hcW;have f4:=kW.cell q4 EB;have g8:=kW.cell q0 EB;repeat refine nx rfl ?_
  by_cases B:k<I.length
  ·(refine AJ ?_<;>(refine Dh rfl rfl (fun hc=>?_) (fun hc=>?_)<;>try omega))
   repeat refine nx rfl ?_
   refine AJ (AY rfl (AO (AY rfl ?_)));repeat refine nx rfl ?_
   obtain⟨x,hx⟩:=gl B;obtain⟨d5,d3⟩:∃d5,d5=(G !=(N==7&&k==0)):=⟨_,rfl⟩;refine DF (α:=Unit) (fun _=>[(0,pt R),(1,.pointer (some ⟨b,o,none⟩)),(2,.bool G),(3,iV d),(8,pt w.heap.size),(9,pt A),(10,iV (k:Int)),(11,.bool d5),(139,iV (I.length:Int)),(140,iV (k:Int))]) (fun _ W'=>W'=W) ?_ ?_
   ·by_cases h7:N=7
    ·by_cases g4:k=0
     ·rw[d3,show(N==7&&k==0)=true by simp[h7,g4]];exact FR
     ·rw[d3,show(N==7&&k==0)=false by simp[g4]];exact FR
    ·rw[d3,show(N==7&&k==0)=false by simp[h7]];exact FR
   rintro _ _ f3 e3;rw[e3];clear e3;obtain⟨b',o',b7,h8⟩:=qa k x hx;subst b7;have e6:=List.mem_of_getElem? hx;have j3:=Bi e6;have k1:=BO e6;obtain⟨Rk,d1⟩:∃Rk,Rk=fmL (N==7) (I.take k) G (d-1) sl:=⟨_,rfl⟩;have hRl:Rk.1.length=k:=by rw[d1,fmL_len,List.length_take];omega
   have h9:bsOk Rk.2:=by rw[d1];exact fmL_ok _ _ _ _ _ h1
   rw[<-d1]at a3 bW;obtain⟨rx,g6⟩:∃rx,rx=fmB x (G !=(N==7&&k==0)) (d-1) Rk.2:=⟨_,rfl⟩;have a9:=fmL_snoc I k x (N==7) G (d-1) sl hx;rw[<-d1,<-g6]at a9;obtain⟨T,b8⟩:∃T,T=c7++Rk.1:=⟨_,rfl⟩;have j5:T.length+1<=1002:=by rw[b8,List.length_append,hRl];omega
   rw[<-b8]at bW
   have c4:∀W,PF (fun b=>b≠R) W b' (o'+k*5) x->BAt W R Rk.2->FnF R W b' (o'+k*5) d5 (d-1) Rk.2 rx:=fun W hp hb=>by
    rw[g6,d3];exact ih W b' _ x _ (d-1) _ U U hp (p7 x e6) U U h9 hb
   refine go ?_;refine AX (.read 0 (rd 2 10 (.alt 1 (.read 13 (.alt 12 (.alt 14 (.alt 15 (.read 16 (.read 18 (.alt 17 (.alt 19 .done .stop) (.alt 19 (.alt 17 .done .stop) .stop)))) .stop) .stop) (.alt 14 (.alt 12 (.alt 15 (.read 16 (.read 18 (.alt 17 (.alt 19 .done .stop) (.alt 19 (.alt 17 .done .stop) .stop)))) .stop) .stop) .stop))) (.alt 12 (.alt 1 (.read 13 (.alt 14 (.alt 15 (.read 16 (.read 18 (.alt 17 (.alt 19 .done .stop) (.alt 19 (.alt 17 .done .stop) .stop)))) .stop) .stop)) (.alt 14 (.alt 1 (.read 13 (.alt 15 (.read 16 (.read 18 (.alt 17 (.alt 19 .done .stop) (.alt 19 (.alt 17 .done .stop) .stop)))) .stop)) .stop) .stop)) (.alt 14 (.alt 1 (.read 13 (.alt 12 (.alt 15 (.read 16 (.read 18 (.alt 17 (.alt 19 .done .stop) (.alt 19 (.alt 17 .done .stop) .stop)))) .stop) .stop)) (.alt 12 (.alt 1 (.read 13 (.alt 15 (.read 16 (.read 18 (.alt 17 (.alt 19 .done .stop) (.alt 19 (.alt 17 .done .stop) .stop)))) .stop)) .stop) .stop)) .stop))))) An Dv (fun H kd ed=>⟨fun V=>V.cell? ⟨b,o+4,none⟩=some (.slice (some ⟨b',o',none⟩) I.length cc),?_,?_⟩)
   ·exact kd.cell f4 O
   have ca:∀V:World,V.cell? ⟨b,o+4,none⟩=some (.slice (some ⟨b',o',none⟩) I.length cc)->V.cell? ⟨b,o+4,none⟩=some (.slice (some ⟨b',o',none⟩) I.length cc):=fun V e=>e;refine go ?_;have b5:Keep [R] w H:=kW.ext kd;have S:=bW.ext kd;have b9:=zW.E kd O;have k5:=kd.size;have b6:Keep [R] H H:=Keep.refl _ _;have c9:=a3.E kd O;have c0:=S.D;have swd:H.cell? ⟨b,o+4,none⟩=some (.slice (some ⟨b',o',none⟩) I.length cc):=kd.cell f4 O;have f0:∀V,Keep [R] H V->PF (fun b=>b≠R) V b' (o'+k*5) x:=fun V e=>h8.E (b5.trans e (fun _ h _=>h)) (fun y F j=>by simp at j;exact F j);have g9:=f0 H b6
   obtain⟨vp,vc,rfl⟩:∃p c,v0=.slice p T.length c:=by
    rcases S.own.2 with⟨e,h0⟩|⟨g,i6,i7,e,_⟩
    ·exact⟨none,0,by rw[e,h0]⟩
    ·exact⟨_,_,e⟩
   have a2:∀g,(Value.slice vp T.length vc).ownBlock=some g->D.heap.size<=g/\g<H.heap.size/\g≠A:=fun g t=>⟨(Ad S.own t).1,(Ad S.own t).2,S.ne g t⟩;have z:∀y∈(Value.slice vp T.length vc).ownBlock.toList,D.heap.size<=y/\y<H.heap.size/\y≠A:=fun y F=>a2 y (Option.mem_toList.1 F)
   refine D_leaf (α:=Value×LV) (.read 16 (.read 18 (.alt 17 (.alt 19 .done .stop) (.alt 19 (.alt 17 .done .stop) .stop)))) (fun y=>[(0,pt R),(1,.pointer (some ⟨b,o,none⟩)),(2,.bool G),(3,iV d),(8,pt w.heap.size),(9,pt A),(139,iV (I.length:Int)),(140,iV (k:Int)),(166,.agg y.2.toArray),(167,iV (T.length:Int)),(169,y.1)])
    (fun y V=>Keep [R] w V/\BAt V R rx.2/\Blk V A 36 [iV a6,AK nm,iV vk,iV 0,.slice vp T.length vc]/\V.ownsRow D.heap.size 36 5 y.1 (T.length+1) (L0.flatten++zero5)/\y.2.length=5/\oneC y.2/\(∀g,y.1.ownBlock=some g->g≠A)/\
     FAt (fun b=>(D.heap.size<=b/\b≠A)/\y.1.ownBlock≠some b) V (.agg y.2.toArray) rx.1/\FsAt (fun b=>(D.heap.size<=b/\b≠A)/\y.1.ownBlock≠some b) V L0 T/\Blk V w.heap.size 36 zero5/\A<V.heap.size) ?_ (fun b1=>?_)
   ·rintro⟨P,r⟩f' V⟨kV,bV,cV,oV,a0,a1,c3,fV,sV,zV,lV⟩;simp only at oV a0 a1 c3 fV sV;obtain⟨g,cap8,M,rfl,t,bM,hM,i1,i2⟩:=own_set (cs:=r) oV (by rw[S.fs.flat]) a0 cV c3;have j4:g≠R:=by omega
    have g3:g≠A:=c3 g rfl;have d4:=kV.cell q4 EB;have j8:=kV.size;refine go ?_;refine D_A rfl ?_ (D_E rfl ?_)
    ·refine AH (o:=0+T.length*5) (cs:=r) rfl rfl a0 a1 bM U (fun w8 p8=>?_);refine wNl (p8.E.cell d4 Dw) ?_;refine D_E rfl ?_;refine AR rfl rfl rfl (cV.E p8.E (by simpa using g3.symm)) O (fun w9 q=>?_);refine wNl (q.E.cell (p8.E.cell d4 Dw) Dw) ?_;rw[Nat.zero_add]at p8;obtain⟨kE,cE,oE⟩:=i1 w8 w9 p8 q;refine go ?_;have a9:=a9;refine⟨(k+1,.slice (sm g) _ cap8,L0++[r]),⟨rfl,ag,⟨by simp only;omega,kV.trans kE (fun y F B=>by simp at F;rcases F with rfl|rfl;omega;omega),?_,⟨cE,?_,?_,fun g' e5=>c3 g' e5⟩,zV.E kE Dw,by have:=kE.size;omega⟩⟩,by simp only;omega⟩
     ·simp only;rw[a9];exact bV.E kE Dw
     ·simp only;rw[a9,<-List.append_assoc,<-b8];exact own_snoc oE
     ·exact Fm
    ·refine AR rfl rfl rfl cV O (fun w8 p8=>?_);refine wNl (p8.E.cell d4 Dw) ?_;refine D_E rfl ?_;refine AH (o:=0+T.length*5) (cs:=r) rfl rfl a0 a1 (bM.E p8.E (by simpa using g3)) U (fun w9 q=>?_);refine wNl (q.E.cell (p8.E.cell d4 Dw) Dw) ?_;rw[Nat.zero_add]at q;obtain⟨kE,cE,oE⟩:=i2 w8 w9 p8 q;refine go ?_;have a9:=a9;refine⟨(k+1,.slice (sm g) _ cap8,L0++[r]),⟨rfl,ag,⟨by simp only;omega,kV.trans kE (fun y F B=>by simp at F;rcases F with rfl|rfl;omega;omega),?_,⟨cE,?_,?_,fun g' e5=>c3 g' e5⟩,zV.E kE Dw,by have:=kE.size;omega⟩⟩,by simp only;omega⟩
     ·simp only;rw[a9];exact bV.E kE Dw
     ·simp only;rw[a9,<-List.append_assoc,<-b8];exact own_snoc oE
     ·exact Fm
   refine D_A rfl ?_ (D_A rfl ?_ (D_E rfl ?_))
   ·refine AL rfl (c0.cell (o:=4) rfl) ?_;refine wNl swd ?_;refine go ?_;refine D_A rfl ?_ (D_E rfl ?_)
    ·refine AE (c4 H g9 c9) rfl ?_;rintro u8 wA⟨kc,bA,K⟩;obtain⟨r,rfl,a0,a1⟩:=K.cells;obtain⟨x0,x1,x2,x3,x4,rfl⟩:=Ab a0;have kA:Keep [R] H wA:=b6.trans kc (fun _ h _=>h);have cA:=c0.E kc Dw;have sA:=kc.cell swd EB;have gA:FAt (fun b=>H.heap.size<=b) wA (.agg [x0,x1,x2,x3,x4].toArray) rx.1:=K.mono fun y F=>Nat.le_trans b6.size F;refine wNl sA ?_;refine D_E rfl ?_;refine AP (out:=zero5) rfl U D4 (fun wB C=>?_);have kB:Keep [R] H wB:=kA.ext C.E;have cB:=cA.E C.E O;have bB:=bA.E C.E O;have sB:=C.E.cell sA O;have oz:=C.own (n:=1) (size:=5) rfl D3 (Nat.le_refl _);refine wNl sB ?_;have gB:=gA.E C.E (fun _ _=>by simp);refine D_E rfl ?_;refine Ap (ok:=AV) (v:=.slice vp T.length vc) rfl rfl (Ac S.own kB (fun g t j=>by have:=(Ad S.own t).1;simp at j;omega)) (Aa (oz) fun _ _=>trivial) U rfl rfl (AW rfl) U U ER (fun P w8 m=>?_);refine wNl (m.E.cell sB (fun F=>by have:=(z _ F).1;omega)) ?_;have zk:=kB.size
     have Z:∀g,P.ownBlock=some g->D.heap.size<=g/\g≠A/\((Value.slice vp T.length vc).ownBlock=some g\/wB.heap.size<=g):=fun g t=>by
      rcases m.D with e|e
      ·rw[e]at t;exact⟨(a2 g t).1,(a2 g t).2.2,.inl t⟩
      ·rw[e]at t;obtain rfl:=Option.some.inj t;exact⟨by omega,by omega,.inr (Nat.le_refl _)⟩
     exact b1 (P,[x0,x1,x2,x3,x4]) _ _ ag ⟨(b5.trans kB (fun _ h _=>h)).trans m.E (fun y F B=>by have:=(z y F).1;omega),bB.E m.E (fun F=>by have:=(z _ F).1;omega),cB.E m.E (fun F=>(z _ F).2.2 rfl),m.own,rfl,a1,(fun g t=>(Z g t).2.1),
      (gB.lt.E m.E (fun y F j=>by have:=(z y j).2.1;have:=F.1;omega)).mono fun y F=>⟨⟨by have:=F.1;omega,by have:=F.1;omega⟩,fun e=>by have X:=(Z y e).2.2;have h2:=F.1;have h3:=F.2;rcases X with X|X;have:=(a2 y X).2.1;omega;omega⟩,
      ((S.fs.lt.E kB (fun y F j=>by have:=F.1.1.1;simp at j;omega)).E m.E (fun y F j=>F.1.2 (Option.mem_toList.1 j))).mono fun y F=>⟨F.1.1,fun e=>by have X:=(Z y e).2.2;have h2:=F.2;rcases X with X|X;exact F.1.2 X;omega⟩,
      (b9.E kB Dw).E m.E (fun F=>by have:=(z _ F).1;omega),by have:=m.E.size;omega⟩
    ·refine AP (out:=zero5) rfl U D4 (fun wA C=>?_);have kA:Keep [R] H wA:=b6.ext C.E;have cA:=c0.E C.E O;have bA:=c9.E C.E O;have sA:=C.E.cell swd O;have oz:=C.own (n:=1) (size:=5) rfl D3 (Nat.le_refl _);refine wNl sA ?_;have xA:=f0 wA kA;refine D_E rfl ?_;refine AE (c4 wA xA bA) rfl ?_;rintro u8 wB⟨kc,bB,K⟩;obtain⟨r,rfl,a0,a1⟩:=K.cells;obtain⟨x0,x1,x2,x3,x4,rfl⟩:=Ab a0;have kB:Keep [R] H wB:=kA.trans kc (fun _ h _=>h);have cB:=cA.E kc Dw;have sB:=kc.cell sA EB;have gB:FAt (fun b=>H.heap.size<=b) wB (.agg [x0,x1,x2,x3,x4].toArray) rx.1:=K.mono fun y F=>Nat.le_trans kA.size F;refine wNl sB ?_;have c6:=Ac oz kc (fun g t j=>by have:=(Ad oz t).1;simp at j;omega);refine D_E rfl ?_;refine Ap (ok:=AV) (v:=.slice vp T.length vc) rfl rfl (Ac S.own kB (fun g t j=>by have:=(Ad S.own t).1;simp at j;omega)) (Aa (c6) fun _ _=>trivial) U rfl rfl (AW rfl) U U ER (fun P w8 m=>?_);refine wNl (m.E.cell sB (fun F=>by have:=(z _ F).1;omega)) ?_;have zk:=kB.size
     have Z:∀g,P.ownBlock=some g->D.heap.size<=g/\g≠A/\((Value.slice vp T.length vc).ownBlock=some g\/wB.heap.size<=g):=fun g t=>by
      rcases m.D with e|e
      ·rw[e]at t;exact⟨(a2 g t).1,(a2 g t).2.2,.inl t⟩
      ·rw[e]at t;obtain rfl:=Option.some.inj t;exact⟨by omega,by omega,.inr (Nat.le_refl _)⟩
     exact b1 (P,[x0,x1,x2,x3,x4]) _ _ ag ⟨(b5.trans kB (fun _ h _=>h)).trans m.E (fun y F B=>by have:=(z y F).1;omega),bB.E m.E (fun F=>by have:=(z _ F).1;omega),cB.E m.E (fun F=>(z _ F).2.2 rfl),m.own,rfl,a1,(fun g t=>(Z g t).2.1),
      (gB.lt.E m.E (fun y F j=>by have:=(z y j).2.1;have:=F.1;omega)).mono fun y F=>⟨⟨by have:=F.1;omega,by have:=F.1;omega⟩,fun e=>by have X:=(Z y e).2.2;have h2:=F.1;have h3:=F.2;rcases X with X|X;have:=(a2 y X).2.1;omega;omega⟩,
      ((S.fs.lt.E kB (fun y F j=>by have:=F.1.1.1;simp at j;omega)).E m.E (fun y F j=>F.1.2 (Option.mem_toList.1 j))).mono fun y F=>⟨F.1.1,fun e=>by have X:=(Z y e).2.2;have h2:=F.2;rcases X with X|X;exact F.1.2 X;omega⟩,
      (b9.E kB Dw).E m.E (fun F=>by have:=(z _ F).1;omega),by have:=m.E.size;omega⟩
   ·refine AE (c4 H g9 c9) rfl ?_;rintro u8 wA⟨kc,bA,K⟩;obtain⟨r,rfl,a0,a1⟩:=K.cells;obtain⟨x0,x1,x2,x3,x4,rfl⟩:=Ab a0;have kA:Keep [R] H wA:=b6.trans kc (fun _ h _=>h);have cA:=c0.E kc Dw;have sA:=kc.cell swd EB;have gA:FAt (fun b=>H.heap.size<=b) wA (.agg [x0,x1,x2,x3,x4].toArray) rx.1:=K.mono fun y F=>Nat.le_trans b6.size F;refine wNl sA ?_;refine D_A rfl ?_ (D_E rfl ?_)
    ·refine AL rfl (cA.cell (o:=4) rfl) ?_;refine wNl sA ?_;refine go ?_;refine D_E rfl ?_;refine AP (out:=zero5) rfl U D4 (fun wB C=>?_);have kB:Keep [R] H wB:=kA.ext C.E;have cB:=cA.E C.E O;have bB:=bA.E C.E O;have sB:=C.E.cell sA O;have oz:=C.own (n:=1) (size:=5) rfl D3 (Nat.le_refl _);refine wNl sB ?_;have gB:=gA.E C.E (fun _ _=>by simp);refine D_E rfl ?_;refine Ap (ok:=AV) (v:=.slice vp T.length vc) rfl rfl (Ac S.own kB (fun g t j=>by have:=(Ad S.own t).1;simp at j;omega)) (Aa (oz) fun _ _=>trivial) U rfl rfl (AW rfl) U U ER (fun P w8 m=>?_);refine wNl (m.E.cell sB (fun F=>by have:=(z _ F).1;omega)) ?_;have zk:=kB.size
     have Z:∀g,P.ownBlock=some g->D.heap.size<=g/\g≠A/\((Value.slice vp T.length vc).ownBlock=some g\/wB.heap.size<=g):=fun g t=>by
      rcases m.D with e|e
      ·rw[e]at t;exact⟨(a2 g t).1,(a2 g t).2.2,.inl t⟩
      ·rw[e]at t;obtain rfl:=Option.some.inj t;exact⟨by omega,by omega,.inr (Nat.le_refl _)⟩
     exact b1 (P,[x0,x1,x2,x3,x4]) _ _ ag ⟨(b5.trans kB (fun _ h _=>h)).trans m.E (fun y F B=>by have:=(z y F).1;omega),bB.E m.E (fun F=>by have:=(z _ F).1;omega),cB.E m.E (fun F=>(z _ F).2.2 rfl),m.own,rfl,a1,(fun g t=>(Z g t).2.1),
      (gB.lt.E m.E (fun y F j=>by have:=(z y j).2.1;have:=F.1;omega)).mono fun y F=>⟨⟨by have:=F.1;omega,by have:=F.1;omega⟩,fun e=>by have X:=(Z y e).2.2;have h2:=F.1;have h3:=F.2;rcases X with X|X;have:=(a2 y X).2.1;omega;omega⟩,
      ((S.fs.lt.E kB (fun y F j=>by have:=F.1.1.1;simp at j;omega)).E m.E (fun y F j=>F.1.2 (Option.mem_toList.1 j))).mono fun y F=>⟨F.1.1,fun e=>by have X:=(Z y e).2.2;have h2:=F.2;rcases X with X|X;exact F.1.2 X;omega⟩,
      (b9.E kB Dw).E m.E (fun F=>by have:=(z _ F).1;omega),by have:=m.E.size;omega⟩
    ·refine AP (out:=zero5) rfl U D4 (fun wB C=>?_);have kB:Keep [R] H wB:=kA.ext C.E;have cB:=cA.E C.E O;have bB:=bA.E C.E O;have sB:=C.E.cell sA O;have oz:=C.own (n:=1) (size:=5) rfl D3 (Nat.le_refl _);refine wNl sB ?_;have gB:=gA.E C.E (fun _ _=>by simp);refine D_E rfl ?_;refine AL rfl (cB.cell (o:=4) rfl) ?_;refine wNl sB ?_;refine go ?_;refine D_E rfl ?_;refine Ap (ok:=AV) (v:=.slice vp T.length vc) rfl rfl (Ac S.own kB (fun g t j=>by have:=(Ad S.own t).1;simp at j;omega)) (Aa (oz) fun _ _=>trivial) U rfl rfl (AW rfl) U U ER (fun P w8 m=>?_);refine wNl (m.E.cell sB (fun F=>by have:=(z _ F).1;omega)) ?_;have zk:=kB.size
     have Z:∀g,P.ownBlock=some g->D.heap.size<=g/\g≠A/\((Value.slice vp T.length vc).ownBlock=some g\/wB.heap.size<=g):=fun g t=>by
      rcases m.D with e|e
      ·rw[e]at t;exact⟨(a2 g t).1,(a2 g t).2.2,.inl t⟩
      ·rw[e]at t;obtain rfl:=Option.some.inj t;exact⟨by omega,by omega,.inr (Nat.le_refl _)⟩
     exact b1 (P,[x0,x1,x2,x3,x4]) _ _ ag ⟨(b5.trans kB (fun _ h _=>h)).trans m.E (fun y F B=>by have:=(z y F).1;omega),bB.E m.E (fun F=>by have:=(z _ F).1;omega),cB.E m.E (fun F=>(z _ F).2.2 rfl),m.own,rfl,a1,(fun g t=>(Z g t).2.1),
      (gB.lt.E m.E (fun y F j=>by have:=(z y j).2.1;have:=F.1;omega)).mono fun y F=>⟨⟨by have:=F.1;omega,by have:=F.1;omega⟩,fun e=>by have X:=(Z y e).2.2;have h2:=F.1;have h3:=F.2;rcases X with X|X;have:=(a2 y X).2.1;omega;omega⟩,
      ((S.fs.lt.E kB (fun y F j=>by have:=F.1.1.1;simp at j;omega)).E m.E (fun y F j=>F.1.2 (Option.mem_toList.1 j))).mono fun y F=>⟨F.1.1,fun e=>by have X:=(Z y e).2.2;have h2:=F.2;rcases X with X|X;exact F.1.2 X;omega⟩,
      (b9.E kB Dw).E m.E (fun F=>by have:=(z _ F).1;omega),by have:=m.E.size;omega⟩
   ·refine AP (out:=zero5) rfl U D4 (fun wA C=>?_);have kA:Keep [R] H wA:=b6.ext C.E;have cA:=c0.E C.E O;have bA:=c9.E C.E O;have sA:=C.E.cell swd O;have oz:=C.own (n:=1) (size:=5) rfl D3 (Nat.le_refl _);refine wNl sA ?_;have xA:=f0 wA kA;refine D_A rfl ?_ (D_E rfl ?_)
    ·refine AL rfl (cA.cell (o:=4) rfl) ?_;refine wNl sA ?_;refine go ?_;refine D_E rfl ?_;refine AE (c4 wA xA bA) rfl ?_;rintro u8 wB⟨kc,bB,K⟩;obtain⟨r,rfl,a0,a1⟩:=K.cells;obtain⟨x0,x1,x2,x3,x4,rfl⟩:=Ab a0;have kB:Keep [R] H wB:=kA.trans kc (fun _ h _=>h);have cB:=cA.E kc Dw;have sB:=kc.cell sA EB;have gB:FAt (fun b=>H.heap.size<=b) wB (.agg [x0,x1,x2,x3,x4].toArray) rx.1:=K.mono fun y F=>Nat.le_trans kA.size F;refine wNl sB ?_;have c6:=Ac oz kc (fun g t j=>by have:=(Ad oz t).1;simp at j;omega);refine D_E rfl ?_;refine Ap (ok:=AV) (v:=.slice vp T.length vc) rfl rfl (Ac S.own kB (fun g t j=>by have:=(Ad S.own t).1;simp at j;omega)) (Aa (c6) fun _ _=>trivial) U rfl rfl (AW rfl) U U ER (fun P w8 m=>?_);refine wNl (m.E.cell sB (fun F=>by have:=(z _ F).1;omega)) ?_;have zk:=kB.size
     have Z:∀g,P.ownBlock=some g->D.heap.size<=g/\g≠A/\((Value.slice vp T.length vc).ownBlock=some g\/wB.heap.size<=g):=fun g t=>by
      rcases m.D with e|e
      ·rw[e]at t;exact⟨(a2 g t).1,(a2 g t).2.2,.inl t⟩
      ·rw[e]at t;obtain rfl:=Option.some.inj t;exact⟨by omega,by omega,.inr (Nat.le_refl _)⟩
     exact b1 (P,[x0,x1,x2,x3,x4]) _ _ ag ⟨(b5.trans kB (fun _ h _=>h)).trans m.E (fun y F B=>by have:=(z y F).1;omega),bB.E m.E (fun F=>by have:=(z _ F).1;omega),cB.E m.E (fun F=>(z _ F).2.2 rfl),m.own,rfl,a1,(fun g t=>(Z g t).2.1),
      (gB.lt.E m.E (fun y F j=>by have:=(z y j).2.1;have:=F.1;omega)).mono fun y F=>⟨⟨by have:=F.1;omega,by have:=F.1;omega⟩,fun e=>by have X:=(Z y e).2.2;have h2:=F.1;have h3:=F.2;rcases X with X|X;have:=(a2 y X).2.1;omega;omega⟩,
      ((S.fs.lt.E kB (fun y F j=>by have:=F.1.1.1;simp at j;omega)).E m.E (fun y F j=>F.1.2 (Option.mem_toList.1 j))).mono fun y F=>⟨F.1.1,fun e=>by have X:=(Z y e).2.2;have h2:=F.2;rcases X with X|X;exact F.1.2 X;omega⟩,
      (b9.E kB Dw).E m.E (fun F=>by have:=(z _ F).1;omega),by have:=m.E.size;omega⟩
    ·refine AE (c4 wA xA bA) rfl ?_;rintro u8 wB⟨kc,bB,K⟩;obtain⟨r,rfl,a0,a1⟩:=K.cells;obtain⟨x0,x1,x2,x3,x4,rfl⟩:=Ab a0;have kB:Keep [R] H wB:=kA.trans kc (fun _ h _=>h);have cB:=cA.E kc Dw;have sB:=kc.cell sA EB;have gB:FAt (fun b=>H.heap.size<=b) wB (.agg [x0,x1,x2,x3,x4].toArray) rx.1:=K.mono fun y F=>Nat.le_trans kA.size F;refine wNl sB ?_;have c6:=Ac oz kc (fun g t j=>by have:=(Ad oz t).1;simp at j;omega);refine D_E rfl ?_;refine AL rfl (cB.cell (o:=4) rfl) ?_;refine wNl sB ?_;refine go ?_;refine D_E rfl ?_;refine Ap (ok:=AV) (v:=.slice vp T.length vc) rfl rfl (Ac S.own kB (fun g t j=>by have:=(Ad S.own t).1;simp at j;omega)) (Aa (c6) fun _ _=>trivial) U rfl rfl (AW rfl) U U ER (fun P w8 m=>?_);refine wNl (m.E.cell sB (fun F=>by have:=(z _ F).1;omega)) ?_;have zk:=kB.size
     have Z:∀g,P.ownBlock=some g->D.heap.size<=g/\g≠A/\((Value.slice vp T.length vc).ownBlock=some g\/wB.heap.size<=g):=fun g t=>by
      rcases m.D with e|e
      ·rw[e]at t;exact⟨(a2 g t).1,(a2 g t).2.2,.inl t⟩
      ·rw[e]at t;obtain rfl:=Option.some.inj t;exact⟨by omega,by omega,.inr (Nat.le_refl _)⟩
     exact b1 (P,[x0,x1,x2,x3,x4]) _ _ ag ⟨(b5.trans kB (fun _ h _=>h)).trans m.E (fun y F B=>by have:=(z y F).1;omega),bB.E m.E (fun F=>by have:=(z _ F).1;omega),cB.E m.E (fun F=>(z _ F).2.2 rfl),m.own,rfl,a1,(fun g t=>(Z g t).2.1),
      (gB.lt.E m.E (fun y F j=>by have:=(z y j).2.1;have:=F.1;omega)).mono fun y F=>⟨⟨by have:=F.1;omega,by have:=F.1;omega⟩,fun e=>by have X:=(Z y e).2.2;have h2:=F.1;have h3:=F.2;rcases X with X|X;have:=(a2 y X).2.1;omega;omega⟩,
      ((S.fs.lt.E kB (fun y F j=>by have:=F.1.1.1;simp at j;omega)).E m.E (fun y F j=>F.1.2 (Option.mem_toList.1 j))).mono fun y F=>⟨F.1.1,fun e=>by have X:=(Z y e).2.2;have h2:=F.2;rcases X with X|X;exact F.1.2 X;omega⟩,
      (b9.E kB Dw).E m.E (fun F=>by have:=(z _ F).1;omega),by have:=m.E.size;omega⟩
  ·obtain rfl:k=I.length:=by omega
   rw[List.take_length]at a3 bW;have bf:=bW.D;refine go ?_;refine AH (cs:=[iV a6,AK nm,iV vk,iV 0,v0]) rfl rfl rfl ?_ zW D0 (fun w9 q=>?_)
   ·intro u hu;simp at hu;rcases hu with rfl|rfl|rfl|rfl|rfl<;>first|rfl|exact C3 bW.own
   refine go ?_;exact AU rfl rfl rfl q.D.cells ⟨kW.trans q.E (fun y F B=>by simp at F;omega),a3.E q.E Dw,(bW.fin.E q.E (fun y F j=>by have:=F.1;simp at j;omega)).mono fun y F=>by have:=F.1;omega⟩
 refine D_A rfl ?_ (D_E rfl ?_)
 ·refine AE (full_ok H N) rfl ?_;rintro _ _⟨rfl,rfl⟩;refine wNl (Ext.refl _) ?_;refine go ?_;refine D_E rfl ?_;refine AS (L:=zero5) (fun w4 n4=>?_);refine wNl n4.E ?_;exact b1 () _ _ ag n4
 ·refine AS (L:=zero5) (fun w4 n4=>?_);refine wNl n4.E ?_;refine D_E rfl ?_;refine AE (full_ok w4 N) rfl ?_;rintro _ _⟨rfl,rfl⟩;refine wNl n4.E ?_;refine go ?_;exact b1 () _ _ ag n4
theorem shaped_ok9{N v b:Int}{nm:LU}{n:Nat}(h:BX N nm v b n=true):(N=4\/N=13\/N=14->1<=n)/\0<=b/\b<=9∧ -9<=v/\v<=9:=by
 simp only[BX,Bool.and_eq_true,decide_eq_true_eq,Aq]at h;obtain⟨⟨⟨⟨⟨⟨⟨_,_⟩,Q⟩,z⟩,S⟩,V⟩,x⟩,_⟩:=h;refine⟨fun R=>?_,V,?_,by omega,?_⟩
 ·rcases R with rfl|rfl|rfl<;>(simp at Q;omega)
 ·split at x<;>omega
 ·split at S
  ·omega
  ·split at S<;>omega
theorem okN_mk{N v b:Int}{nm:LU}{args:LF}(h:BX N nm v b args.length=true)(I:okNL args=true):okN (.mk N nm v b args)=true:=by
 obtain⟨X,W,Q,z,S⟩:=shaped_ok9 h;simp only[okN,Bool.and_eq_true,decide_eq_true_eq];refine⟨⟨⟨⟨⟨?_,W⟩,Q⟩,z⟩,S⟩,I⟩
 split
 ·rename_i h;simpa using X h
 ·rfl
theorem okNL_of:∀{l:LF},(∀a∈l,okN a=true)->okNL l=true
 | [],_=>rfl
 |a::l,h=>by rw[okNL,h a O,okNL_of fun c V=>h c D9];rfl
theorem okN_of:∀(n:Nat)(f:Fml)(i:Bool),szF f<=n->n<=1000000->(De i f).all (fun x=>Dm x.1)=true->okN f=true
 |0,f,i,hz,_,_=>by rw[BJ]at hz;omega
 |n+1,.mk op nm v b args,i,hz,hn,h=>by
  rw[BJ]at hz;have H:szL args+1<=n+1:=hz
  have M:∀(l:LF)(j:Bool),(∀a∈l,a∈args)->(DH j l).all (fun x=>Dm x.1)=true->∀a∈l,okN a=true:=by
   intro l
   induction l with
   |nil=>intro j _ _ a I;cases I
   |cons a l ih=>
    intro j y h;have X:=BO (y a O);rw[DH,List.all_append,Bool.and_eq_true]at h;intro c V;rcases List.mem_cons.1 V with rfl|V
    ·exact okN_of n c j U U h.1
    ·exact ih j (fun c V=>y c D9) h.2 c V
  rw[De,List.all_cons,Bool.and_eq_true]at h;have X:=h.1;simp only at X;rw[shapeF_eq _ (by simp only[Fml.args];have:=Bz args;omega)]at X;exact okN_mk X (okNL_of (M args _ (fun a h=>h) h.2))
theorem valid_okN{f:Fml}(h:validG f=true):szF f<=60/\dpF f<=20/\okN f=true:=by
 simp only[validG,Bool.and_eq_true,decide_eq_true_eq]at h;exact⟨h.1.1,h.1.2,okN_of _ f false (Nat.le_refl _) U h.2⟩
theorem bare_okN:∀(n:Nat)(f:Fml)(i:Bool),szF f<=n->BC i f=true->okN f=true
 |0,f,i,hz,_=>by rw[BJ]at hz;omega
 |n+1,.mk op nm v b args,i,hz,h=>by
  rw[BJ]at hz;have H:szL args+1<=n+1:=hz;obtain⟨_,W,_,z⟩:=CZ h;refine okN_mk W (okNL_of fun a I=>?_);have:=BO I;exact bare_okN n a _ U (z a I)
theorem loose_okN{f:Fml}(h:BA f=true):szF f<=400/\dpF f<=60/\BC false f=true/\okN f=true:=by
 simp only[BA,Bool.and_eq_true,decide_eq_true_eq]at h;obtain⟨⟨X,W⟩,Q⟩:=h;rw[bareG_eq U]at Q;exact⟨X,W,Q,bare_okN _ f false (Nat.le_refl _) Q⟩
def kernR(f:Fml):Fml×Int:=if(validG f&&layG f)=true then(if(fmB f false 20 (60,false)).2.2=true then(Ag,2)else((fmB f false 20 (60,false)).1,0))else(Ag,30)
def notR(f:Fml):Fml:=if BA f=true then(if(fmB f true 60 (400,false)).2.2=true then Ag else(fmB f true 60 (400,false)).1)else Ag
theorem not_ok(w:World)(v:Value)(f:Fml)(K:FAt AV w v f)(C:GF w)(s:KY w)(hN:10<=w.heap.size):
  Fn Zp 47 [v] w fun u w'=>Ext w w'/\FAt (fun b=>w.heap.size<=b) w' u (notR f):=by
 obtain⟨c,rfl,a1,o⟩:=K.cells;obtain⟨T,x1,x2,x3,a,rfl⟩:=Ab a1;have D:=K.lt;refine AG Tryz.func47 rfl Tryz.ntmps47 (go ?_);refine Ai (L:=[T,x1,x2,x3,a]) rfl (fun w1 E=>?_);refine AS (L:=zero5) (fun j N=>go ?_);have z1:=E.size;have z2:=N.size;have h:=E.E.trans N.E;have m:Blk j w.heap.size 36 [T,x1,x2,x3,a]:=E.D.E N.E O;have d:=N.D;have a4:PF AV j w.heap.size 0 f:=⟨trivial,_,rfl,m.cells,(D.ext h).mono fun _ _=>trivial⟩;refine AE (loose_ok j _ _ f a4 (C.ext h) (s.E h O) (Nat.le_trans hN h.size)) rfl ?_;rintro _ V⟨rfl,i⟩;have z3:=i.size;unfold notR;cases hl:BA f with
 |false=>
  rw[if_neg Bool.false_ne_true];refine go ?_;refine AH (cs:=zero5) rfl rfl rfl (AW rfl) (d.E i O) D0 (fun Z n=>go ?_);exact AU rfl rfl rfl n.D.cells ⟨(h.trans i).E n.E Dw,FAt.leaf _ _ 0 [] 0 0⟩
 |true=>
  rw[if_pos rfl];obtain⟨hz,hd,a8,a3⟩:=loose_okN hl;refine go ?_;refine Ai (L:=[iV 400,.bool false]) rfl (fun W I=>?_);have H:=(h.trans i).trans I.E;have z5:=I.size;have F:Ext j W:=i.trans I.E;have a0:=m.E F O;have a5:PF (fun b=>b≠V.heap.size) W w.heap.size 0 f:=⟨by omega,_,rfl,a0.cells,(D.ext H).mono fun b hb=>by have:=hb.2;omega⟩;refine go ?_;refine AE (gform_ok V.heap.size _ W w.heap.size 0 f true 60 (400,false) (Nat.le_refl _) U a5 a3 U U ⟨by simp,by simp,by simp⟩ I.D) rfl ?_;rintro u X⟨Q,k,P⟩;obtain⟨r,rfl,a2,o⟩:=P.cells;obtain⟨t,x,A,M,q,rfl⟩:=Ab a2;obtain⟨R,hR⟩:∃R,R=fmB f true 60 (400,false):=⟨_,rfl⟩;rw[<-hR]at k P⊢;obtain⟨g,l,ov⟩:=R;simp only at k P⊢;have z6:=Q.size;refine AS (L:=zero5) (fun w7 G=>?_);refine AH (cs:=[t,x,A,M,q]) rfl rfl rfl o G.D D0 (fun p S=>?_);have e:Ext X p:=G.E.E S.E O;have a7:=k.E e O;have a6:Blk p X.heap.size 36 [t,x,A,M,q]:=S.D;have B:Blk p w1.heap.size 36 zero5:=((d.E F O).E Q Dw).E e O;have z:Ext w p:=(H.E Q Dw).trans e;refine go ?_;cases ov with
  |true=>
   rw[if_pos rfl];refine go ?_;refine AH (cs:=zero5) rfl rfl rfl (AW rfl) (B) D0 (fun Z n=>go ?_);exact AU rfl rfl rfl n.D.cells ⟨z.E n.E Dw,FAt.leaf _ _ 0 [] 0 0⟩
  |false=>
   rw[if_neg Bool.false_ne_true];refine go ?_;refine AH (cs:=[t,x,A,M,q]) rfl rfl rfl o B D0 (fun Z n=>go ?_);exact AU rfl rfl rfl n.D.cells ⟨z.E n.E Dw,((P.ext e).E n.E (fun y hy hm=>by simp at hm;omega)).mono fun y hy=>by omega⟩
theorem gkernel_ok(w:World)(v:Value)(f:Fml)(K:FAt AV w v f)(C:GF w)(hK:KY w)(G:10<=w.heap.size):
  Fn Zp 57 [v] w fun u w'=>∃c:Value,u=.tuple #[c,iV (kernR f).2]/\Ext w w'/\FAt (fun b=>w.heap.size<=b) w' c (kernR f).1:=by
 obtain⟨c,rfl,a2,o⟩:=K.cells;obtain⟨T,x1,x2,x3,x4,rfl⟩:=Ab a2;have a4:=K.lt;refine AG Tryz.func57 rfl Tryz.ntmps57 (go ?_);refine Ai (L:=[T,x1,x2,x3,x4]) rfl (fun w1 k=>?_);refine AS (L:=zero5) (fun s N=>?_);have z1:=k.size;have z2:=N.size;have i:=k.E.trans N.E;have m:Blk s w.heap.size 36 [T,x1,x2,x3,x4]:=k.D.E N.E O;have d:=N.D;refine go ?_;refine AE (fvalid_ok s _ f (K.ext i) (C.ext i) (hK.E i O) (Nat.le_trans G i.size)) rfl ?_;rintro _ w3⟨rfl,h⟩;have z3:=h.size;have E:=i.trans h;have a7:=m.E h O;have D:=d.E h O;unfold kernR;cases hv:validG f with
 |false=>
  rw[Bool.false_and,if_neg Bool.false_ne_true];refine go ?_;refine AH (cs:=zero5) rfl rfl rfl (AW rfl) (D) D0 (fun t n=>go ?_);exact Cp rfl rfl rfl n.D.cells ⟨_,rfl,E.E n.E Dw,FAt.leaf _ _ 0 [] 0 0⟩
 |true=>
 rw[Bool.true_and];obtain⟨hz,hd,a5⟩:=valid_okN hv;refine go ?_;refine AE (flay_ok w3 _ f (K.ext E) (C.ext E) (Nat.le_trans G E.size) U) rfl ?_;rintro _ w4⟨rfl,a⟩;have z4:=a.size;have V:=E.trans a;have a1:=D.E a O;cases hl:layG f with
 |false=>
  rw[if_neg Bool.false_ne_true];refine go ?_;refine AH (cs:=zero5) rfl rfl rfl (AW rfl) (a1) D0 (fun t n=>go ?_);exact Cp rfl rfl rfl n.D.cells ⟨_,rfl,V.E n.E Dw,FAt.leaf _ _ 0 [] 0 0⟩
 |true=>
  rw[if_pos rfl];refine go ?_;refine Ai (L:=[iV 60,.bool false]) rfl (fun W I=>?_);have H:=V.trans I.E;have z5:=I.size;have S:Ext s W:=(h.trans a).trans I.E;have a0:=m.E S O;have a6:PF (fun b=>b≠w4.heap.size) W w.heap.size 0 f:=⟨by omega,_,rfl,a0.cells,(a4.ext H).mono fun b hb=>by have:=hb.2;omega⟩;refine go ?_;refine AE (gform_ok w4.heap.size _ W w.heap.size 0 f false 20 (60,false) (Nat.le_refl _) U a6 a5 U U ⟨by simp,by simp,by simp⟩ I.D) rfl ?_;rintro u w6⟨Q,j,P⟩;obtain⟨r,rfl,a3,o⟩:=P.cells;obtain⟨x,A,B,M,q,rfl⟩:=Ab a3;obtain⟨R,hR⟩:∃R,R=fmB f false 20 (60,false):=⟨_,rfl⟩;rw[<-hR]at j P⊢;obtain⟨g,l,ov⟩:=R;simp only at j P⊢;have z6:=Q.size;refine AS (L:=zero5) (fun w7 X=>?_);refine AH (cs:=[x,A,B,M,q]) rfl rfl rfl o X.D D0 (fun p Z=>?_);have e:Ext w6 p:=X.E.E Z.E O;have a9:=j.E e O;have a8:Blk p w6.heap.size 36 [x,A,B,M,q]:=Z.D;have F:Blk p w1.heap.size 36 zero5:=((d.E S O).E Q Dw).E e O;have z:Ext w p:=(H.E Q Dw).trans e;refine go ?_;cases ov with
  |true=>
   rw[if_pos rfl];refine go ?_;refine AH (cs:=zero5) rfl rfl rfl (AW rfl) (F) D0 (fun t n=>go ?_);exact Cp rfl rfl rfl n.D.cells ⟨_,rfl,z.E n.E Dw,FAt.leaf _ _ 0 [] 0 0⟩
  |false=>
   rw[if_neg Bool.false_ne_true];refine go ?_;refine AH (cs:=[x,A,B,M,q]) rfl rfl rfl o F D0 (fun t n=>go ?_);exact Cp rfl rfl rfl n.D.cells ⟨_,rfl,z.E n.E Dw,((P.ext e).E n.E (fun y hy hm=>by simp at hm;omega)).mono fun y hy=>by omega⟩
end
def Db(N:Int)(l:LF):Fml:=if l.all BA=true then(if BA (Dr N (l.map As))=true then Dr N (l.map As)else Ag)else Ag
theorem sz_cons:∀{l:LF},(∀x∈l,BA x=true)->szL (l.map As)<=400*l.length
 | [],_=>by simp[szL]
 |a::l,h=>by
  obtain⟨X,_,Q⟩:=BG (h a O);have z:=canon_sz (Cy Q);have S:=sz_cons fun x T=>h x (List.mem_cons_of_mem _ T);simp only[List.map_cons,szL,List.length_cons];omega
theorem connect_ok(w:World)(N:Int)(a7:N=5\/N=6)(a:Option Addr)(cap:Nat)(l:LF)(hl:SlAt fmlR AV w (.slice a l.length cap) l)(hn:l.length<=200\/szL l<=1000)(C:GF w)(hK:KY w)(hN:10<=w.heap.size):
  Fn Zp 80 [iV N,.slice a l.length cap] w fun u w'=>Ext w w'/\FAt (fun b=>w.heap.size<=b/\Unm w' b) w' u (Db N l):=by
 have b0:=Bz l;refine AG Tryz.func80 rfl Tryz.ntmps80 (go ?_);refine AS (L:=zero5) (fun w1 E=>?_);have z1:=E.size;have b1:=E.D;refine go ?_
 refine Ah (α:=Nat) (fun k=>[(0,iV N),(1,.slice a l.length cap),(4,pt w.heap.size),(8,iV (l.length:Int)),(9,iV (k:Int))])
  (fun k W=>k<=l.length/\Ext w W/\Blk W w.heap.size 36 zero5/\(∀x∈l.take k,BA x=true)/\w.heap.size<W.heap.size) (fun k=>l.length-k) 0 ag ⟨by omega,E.E,b1,by simp,by omega⟩ ?_
 rintro k W fr⟨hk,d,v,s,hsz⟩;refine go ?_;by_cases B:k<l.length
 ·obtain⟨b,o,x0,x1,x2,x3,x4,rfl,A,m⟩:=hl.c5 B;obtain⟨x,T⟩:=gl B;rw[List.getD_eq_getElem?_getD,T]at m;have a6:=List.mem_of_getElem? T;refine go ?_;refine AE (loose_ok W b (o+k*5) x ⟨trivial,_,rfl,A.E d O,m.ext d⟩ (C.ext d) (hK.E d O) (Nat.le_trans hN d.size)) rfl ?_;rintro _ j⟨rfl,c⟩;have e3:=d.trans c;have z3:=c.size;cases hx3:BA x with
  |false=>
   have t:Db N l=Ag:=by
    unfold Db;rw[if_neg];intro h;rw[List.all_eq_true.1 h x a6]at hx3;cases hx3
   rw[t];refine go ?_;refine AH (cs:=zero5) rfl rfl rfl (AW rfl) (v.E c O) D0 (fun w9 n=>go ?_);exact AU rfl rfl rfl n.D.cells ⟨(e3).E n.E mSx,(FAt.leaf _ _ 0 [] 0 0).mono fun _ h=>h⟩
  |true=>
   refine go ?_;refine⟨k+1,⟨rfl,ag,⟨by omega,e3,v.E c O,?_,by omega⟩⟩,by omega⟩;intro y F;rw[List.take_add_one,T]at F;rcases List.mem_append.1 F with F|F
   ·exact s y F
   ·simp at F;rw[F];exact hx3
 ·obtain rfl:k=l.length:=by omega
  rw[List.take_length]at s
  have a5:ArgC W a l:=fun k x T V kV=>by
   have B:=(List.getElem?_eq_some_iff.1 T).1;obtain⟨b,o,x0,x1,x2,x3,x4,rfl,A,m⟩:=hl.c5 B;rw[List.getD_eq_getElem?_getD,T]at m;obtain⟨l1,l2,l3⟩:=BG (s x (List.mem_of_getElem? T));exact⟨b,o,rfl,canon_ok 60 V b (o+k*5) x l2 U ⟨trivial,_,rfl,A.E (d.trans kV) O,m.ext (d.trans kV)⟩ (Cy l3)⟩
  refine go ?_;refine AE (canons_ok W l a cap U a5) rfl ?_;rintro _ Q⟨K,g,rfl,a4⟩;have z2:=K.size
  have b2:szL (l.map As)<=80000:=by
   have h1:=sz_cons s;have h2:=szL_map As l fun x T=>canon_sz (Cy (BG (s x T)).2.2);omega
  have a2:(l.map As).length=l.length:=by simp
  have a8:∀x∈l.map As,Sh x:=fun x T=>by
   obtain⟨y,F,rfl⟩:=List.mem_map.1 T;exact cf_sh (canon_cf (Cy (BG (s y F)).2.2))
  have hj:=join_ok Q N a7 (sm g) l.length (l.map As) (fun b=>(W.heap.size<=b/\Unm Q b)/\b<Q.heap.size) (by rw[a2];exact SlAt.lt EM a4) (fun b S=>S.1.2) U a8;rw[a2]at hj;refine go ?_;refine AE hj rfl ?_;rintro u j⟨c,f⟩;have z3:=c.size
  have f:FAt (fun b=>W.heap.size<=b/\Unm j b) j u (Dr N (l.map As)):=by
   obtain⟨r,rfl,a1,D⟩:=f.cells;exact f.mono fun b S=>S.elim (fun h=>⟨h.1.1,h.1.2.eq (c.block b h.2 O)⟩) fun h=>⟨by omega,h.2⟩
  obtain⟨r,rfl,a1,D⟩:=f.cells;obtain⟨R,I,X,M,q,rfl⟩:=Ab a1;obtain⟨G,a0⟩:∃G,G=Dr N (l.map As):=⟨_,rfl⟩;rw[<-a0]at f
  have t:Db N l=if BA G=true then G else Ag:=by
   unfold Db;rw[if_pos (List.all_eq_true.2 s),a0]
  rw[t];refine AS (L:=zero5) (fun w7 n7=>?_);refine AH (cs:=[R,I,X,M,q]) rfl rfl rfl D n7.D D0 (fun p p8=>?_);have e:Ext j p:=n7.E.E p8.E O;have z8:=e.size;have H:Blk p j.heap.size 36 [R,I,X,M,q]:=p8.D;have z:Ext w p:=((d.trans K).trans c).trans e;have a3:=v.E ((K.trans c).trans e) O;have f8:=f.unm e (fun _ _=>by simp);refine go ?_;refine AE (loose_ok p j.heap.size 0 G ⟨trivial,_,rfl,H.cells,f8.mono fun _ _=>trivial⟩ (C.ext z) (hK.E z O) (Nat.le_trans hN z.size)) rfl ?_;rintro _ w9⟨rfl,i⟩;have z9:=i.size;have Z:=a3.E i O;have a9:=H.E i O;cases hGl:BA G with
  |false=>
   rw[if_neg Bool.false_ne_true];refine go ?_;refine AH (cs:=zero5) rfl rfl rfl (AW rfl) (Z) D0 (fun w9 n=>go ?_);exact AU rfl rfl rfl n.D.cells ⟨(z.trans i).E n.E mSx,(FAt.leaf _ _ 0 [] 0 0).mono fun _ h=>h⟩
  |true=>
   rw[if_pos rfl];refine go ?_;refine AH (cs:=[R,I,X,M,q]) rfl rfl rfl D Z D0 (fun b3 P=>go ?_);exact AU rfl rfl rfl P.D.cells ⟨(z.trans i).E P.E mSx,((f8.unm i (fun _ _=>by simp)).unm P.E (fun y F t=>by rw[List.mem_singleton]at t;omega)).mono fun y F=>⟨by omega,F.2⟩⟩
theorem andor_ok(w:World)(j:Int)(a:Option Addr)(cap:Nat)(l:LF)(h:SlAt fmlR AV w (.slice a l.length cap) l)(G:l.length<=200\/szL l<=1000)(C:GF w)(s:KY w)(e:10<=w.heap.size):
  Fn Zp 48 [.slice a l.length cap] w (fun u w'=>Ext w w'/\FAt (fun b=>w.heap.size<=b/\Unm w' b) w' u (Db 5 l))/\Fn Zp 49 [.slice a l.length cap] w fun u w'=>Ext w w'/\FAt (fun b=>w.heap.size<=b/\Unm w' b) w' u (Db 6 l):=by
 constructor
 ·refine AG Tryz.func48 rfl Tryz.ntmps48 (go ?_);refine AS (L:=zero5) (fun R E=>go ?_);refine AE (connect_ok R 5 (.inl rfl) a cap l (h.ext E.E) G (C.ext E.E) (s.E E.E O) (Nat.le_trans e E.E.size)) rfl ?_;exact Ey
 ·refine AG Tryz.func49 rfl Tryz.ntmps49 (go ?_);refine AS (L:=zero5) (fun R E=>go ?_);refine AE (connect_ok R 6 (.inr rfl) a cap l (h.ext E.E) G (C.ext E.E) (s.E E.E O) (Nat.le_trans e E.E.size)) rfl ?_;exact Ey
theorem fm_over(f:Fml)(G:Bool)(d:Int){s:BS}(h:s.2=true):(fmB f G d s).2.2=true:=by
 obtain⟨N,p,v,b,i⟩:=f;rw[fmB_eq,h];exact h
theorem fmL_over:∀(t:Bool)(l:LF)(G:Bool)(d:Int){s:BS},s.2=true->(fmL t l G d s).2.2=true
 |_,[],_,_,_,h=>h
 |t,a::l,G,d,s,h=>fmL_over false l G d (fm_over a _ d h)
theorem loose_ops{N:Int}(h:DC N=true):Cn N=N/\isLn N=false/\(N==7)=false/\¬(N=13\/N=14):=by
 rcases Bg h with rfl|rfl|rfl|rfl|rfl|rfl|rfl|rfl|rfl|rfl|rfl|rfl<;>exact⟨rfl,rfl,rfl,by decide⟩
def pm(G:Bool)(p:Prop):Prop:=if G=true then¬p else p
theorem yest_not(v:Int)(s:v=0\/v=1)(p:Nat->Prop)(t:Nat):yestS (1-v) (fun i=>¬p i) t↔¬yestS v p t:=by
 cases t with
 |zero=>show(1-v=1)↔¬(v=1);omega
 |succ t=>exact Iff.rfl
theorem since_not(v:Int)(s:v=0\/v=1)(p q:Nat->Prop)(t:Nat):BP (1-v) (fun i=>¬p i) (fun i=>¬q i) t↔¬DR v p q t:=by
 rw[trig_not,Classical.not_not];rcases s with rfl|rfl<;>exact Iff.rfl
theorem trig_neg(v:Int)(s:v=0\/v=1)(p q:Nat->Prop)(t:Nat):DR (1-v) (fun i=>¬p i) (fun i=>¬q i) t↔¬BP v p q t:=by
 have h:=trig_not (1-v) (fun i=>¬p i) (fun i=>¬q i) t;rw[h];have e:(fun i=>¬¬p i)=p:=by funext i;exact propext Classical.not_not
 have R:(fun i=>¬¬q i)=q:=by funext i;exact propext Classical.not_not
 rw[e,R];rcases s with rfl|rfl<;>exact Iff.rfl
theorem until_not(p q:Nat->Prop)(t:Nat):CX (fun i=>¬p i) (fun i=>¬q i) t↔¬relS p q t:=by rw[rel_not,Classical.not_not]
theorem rel_neg(p q:Nat->Prop)(t:Nat):relS (fun i=>¬p i) (fun i=>¬q i) t↔¬CX p q t:=by
 rw[rel_not];have e:(fun i=>¬¬p i)=p:=by funext i;exact propext Classical.not_not
 have R:(fun i=>¬¬q i)=q:=by funext i;exact propext Classical.not_not
 rw[e,R]
theorem op_neg(s:Wd){N v:Int}{nm:LU}(h:N=1\/N=2\/N=5\/N=6\/N=8\/N=9\/N=10\/N=15\/N=16\/N=17)(a:v=0\/v=1){ps qs:List (Nat->Prop)}(M:Aq N ps.length=true)
  (T:qs=ps.map fun p i=>¬p i)(t:Nat):opS s (negM true N) nm (Cs N v true) 0 qs t↔¬opS s N nm v 0 ps t:=by
 subst T;rcases h with rfl|rfl|rfl|rfl|rfl|rfl|rfl|rfl|rfl|rfl
 ·simp[opS,opP,negM,dualM]
 ·simp[opS,opP,negM,dualM]
 ·simp only[opS,opP,negM,dualM];simp;exact⟨fun⟨_,⟨p,hp,e⟩,h⟩=>⟨p,hp,by rw[<-e]at h;exact h⟩,fun⟨p,hp,h⟩=>⟨_,⟨p,hp,rfl⟩,h⟩⟩
 ·simp[opS,opP,negM,dualM]
 ·obtain⟨p,rfl⟩:∃p,ps=[p]:=by
   match ps,M with
   | [p],_=>exact⟨p,rfl⟩
   | [],h=>cases h
   |_::_::_,h=>simp[Aq]at h
  simp[opS,opP,negM,dualM]
 all_goals
  first
  |(obtain⟨p,q,rfl⟩:∃p q,ps=[p,q]:=(by match ps,M with| [p,q],_=>exact⟨p,q,rfl⟩| [],h=>simp[Aq]at h| [_],h=>simp[Aq]at h|_::_::_::_,h=>simp[Aq]at h);first|exact rel_neg p q t|exact until_not p q t|exact trig_neg v a p q t|exact since_not v a p q t)
  |(obtain⟨p,rfl⟩:∃p,ps=[p]:=(by match ps,M with| [p],_=>exact⟨p,rfl⟩| [],h=>cases h|_::_::_,h=>simp[Aq]at h);exact yest_not v a p t)
theorem op_pos(s:Wd){N v:Int}{nm:LU}:opS s (negM false N) nm (Cs N v false) 0=opS s N nm v 0:=by
 have e:Cs N v false=v:=by simp[Cs]
 rw[e];rfl
mutual
theorem fm_sem(s:Wd):∀(f:Fml)(i neg:Bool)(d:Int)(st:BS),BC i f=true->(fmB f neg d st).2.2=false->∀t,sem s (fmB f neg d st).1 t↔pm neg (sem s f t)
 | .mk op nm v b args,i,neg,d,st,hb,ho,t=>by
  obtain⟨h1,h2,h3,h4⟩:=CZ hb;obtain⟨e1,e2,e3,e4⟩:=loose_ops h1;have ha:=BR h2;have hsh:=Cy hb;obtain⟨hb0,⟨_,_,_,_,hneg⟩,_⟩:=sh_iff.1 hsh;rw[fmB_eq]at ho⊢;by_cases c0:st.2=true
  ·rw[if_pos c0]at ho;rw[c0]at ho;cases ho
  rw[if_neg c0]at ho⊢;by_cases c4:op=4
  ·rw[if_pos c4]at ho⊢;subst c4;obtain⟨a,rfl⟩:=Cv (l:=args) (by simpa[Aq]using ha);rw[fm0]at ho⊢;have hI:=fm_sem s a _ (!neg) d st (h4 a O) ho t;rw[hI];have hn:sem s (.mk 4 nm v b [a]) t↔¬sem s a t:=by simp[sem,semL,opS,opP]
   unfold pm;cases neg<;>simp[hn]
  rw[if_neg c4]at ho⊢;by_cases c3:op=3/\neg=true
  ·rw[if_pos c3]at ho⊢;obtain⟨rfl,rfl⟩:=c3;by_cases t1:(tkB st d).2=true
   ·rw[if_pos t1]at ho;rw[t1]at ho;cases ho
   rw[if_neg t1]at ho⊢;by_cases t2:(tkB (tkB st d) (d-1)).2=true
   ·rw[if_pos t2]at ho;rw[t2]at ho;cases ho
   rw[if_neg t2];simp[sem,semL,opS,opP,pm]
  rw[if_neg c3,if_neg e4]at ho⊢;by_cases t1:(tkB st d).2=true
  ·rw[if_pos t1]at ho;rw[t1]at ho;cases ho
  rw[if_neg t1]at ho⊢;have eL:lnF op v neg d (tkB st d)=(Cs op v neg,[],tkB st d):=by unfold lnF;rw[e2];rfl
  rw[eL]at ho⊢;rw[e3]at ho⊢;rw[e1];simp only[List.nil_append]at ho⊢;have hI:=fmL_sem s args _ neg (d-1) (tkB st d) (fun a ha=>h4 a ha) ho;rw[sem_mk,sem_mk,hb0,hI];cases neg with
  |false=>
   rw[op_pos]
   have e:args.map (fun a t=>pm false (sem s a t))=args.map (sem s):=by
    refine List.map_congr_left fun a _=>?_
    funext t
    simp[pm]
   rw[e];simp[pm]
  |true=>
   have hop:op=1\/op=2\/op=5\/op=6\/op=8\/op=9\/op=10\/op=15\/op=16\/op=17:=by
    have:=Bg h1;have:¬op=3:=fun e=>c3 ⟨e,rfl⟩;omega
   have hvv:v=0\/v=1:=by
    simp only[BX,Bool.and_eq_true,decide_eq_true_eq]at h2;obtain⟨⟨⟨⟨⟨⟨⟨q1,q2⟩,q3⟩,q4⟩,q5⟩,q6⟩,q7⟩,q8⟩:=h2
    split at q5
    ·omega
    ·split at q5<;>omega
   have:=op_neg s (nm:=nm) hop hvv (ps:=args.map (sem s)) (qs:=args.map fun a t=>pm true (sem s a t)) (by rw[List.length_map];exact ha) (by
    rw[List.map_map];refine List.map_congr_left fun a _=>?_
    funext t
    simp[pm]) t
   rw[this];simp[pm]
theorem fmL_sem(s:Wd):∀(l:LF)(i neg:Bool)(d:Int)(st:BS),(∀a∈l,BC i a=true)->(fmL false l neg d st).2.2=false->(fmL false l neg d st).1.map (sem s)=l.map fun a t=>pm neg (sem s a t)
 | [],_,_,_,_,_,_=>rfl
 |a::l,i,neg,d,st,hl,ho=>by
  rw[fmL]at ho⊢;have e:(neg !=false)=neg:=by simp
  simp only[e]at ho⊢
  have h1:(fmB a neg d st).2.2=false:=by
   cases h:(fmB a neg d st).2.2 with
   |false=>rfl
   |true=>rw[fmL_over false l neg d h]at ho;cases ho
  rw[List.map_cons,List.map_cons,fmL_sem s l i neg d _ (fun c hc=>hl c (by simp[hc])) ho]
  congr 1
  funext t
  exact propext (fm_sem s a i neg d st (hl a O) h1 t)
end
theorem notR_sem(s:Wd){f:Fml}(h:(notR f).op≠0)(t:Nat):BA f=true/\(sem s (notR f) t↔¬sem s f t):=by
 unfold notR at h⊢;by_cases M:BA f=true
 ·rw[if_pos M]at h⊢;by_cases R:(fmB f true 60 (400,false)).2.2=true
  ·rw[if_pos R]at h;exact absurd rfl h
  ·rw[if_neg R];exact⟨M,(fm_sem s f _ true 60 (400,false) (BG M).2.2 (by simpa using R) t).trans (by simp[pm])⟩
 ·rw[if_neg M]at h;exact absurd rfl h
theorem is_bd{k:LU->Int->Bool}{N:Int}{G:Bool}(A:N=13\/N=14){g:Int->BS->Fml×BS}(t:∀d s,isB k (g d s).1=true):∀(n:Nat)(d:Int)(s:BS),isB k (bdB N G g n d s).1=true
 |0,d,s=>t d s
 |n+1,d,s=>by
  rw[bdB]
  split
  ·rfl
  split
  ·rfl
  split
  ·rfl
  have Q:negM G (Cn N)≠3:=by rcases A with rfl|rfl<;>cases G<;>decide
  refine is_iff.2 ⟨fun e=>absurd e Q,fun a I=>?_⟩;simp only[List.mem_cons,List.not_mem_nil,or_false]at I;rcases I with rfl|rfl
  ·exact t _ _
  ·refine is_iff.2 ⟨fun e=>absurd e D7,fun a I=>?_⟩;simp only[List.mem_cons,List.not_mem_nil,or_false]at I;rw[I];exact is_bd A t n _ _
theorem neg_three{G:Bool}{N:Int}(h:negM G (Cn N)=3):N=3:=by
 unfold negM dualM Cn at h;repeat' split at h
 all_goals omega
mutual
theorem is_fm{k:LU->Int->Bool}:∀(f:Fml)(neg:Bool)(d:Int)(s:BS),isB k f=true->isB k (fmB f neg d s).1=true
 | .mk op nm v b args,neg,d,s,hk=>by
  obtain⟨k1,k2⟩:=is_iff.1 hk;rw[fmB_eq]
  split
  ·rfl
  split
  ·exact is_fm0 args _ d s k2
  split
  ·rename_i h3
   split
   ·rfl
   split
   ·rfl
   refine is_iff.2 ⟨fun e=>absurd e D7,fun a ha=>?_⟩;simp only[List.mem_cons,List.not_mem_nil,or_false]at ha;rw[ha];exact is_iff.2 ⟨fun _=>k1 h3.1,fun a ha=>by cases ha⟩
  split
  ·rename_i h13;exact is_bd h13 (fun d s=>is_fm0 args neg d s k2) _ _ _
  split
  ·rfl
  refine is_iff.2 ⟨fun e=>?_,fun a ha=>?_⟩
  ·have h3:=neg_three e;subst h3;have:(lnF 3 v neg d (tkB s d)).1=v:=by simp[lnF,isLn,Cs,isPs]
   rw[this];exact k1 rfl
  ·rcases List.mem_append.1 ha with ha|ha
   ·unfold lnF at ha
    split at ha
    ·unfold lnB at ha
     split at ha
     ·cases ha
     ·simp only[List.mem_cons,List.not_mem_nil,or_false]at ha;rw[ha]
      split<;>rfl
    ·cases ha
   ·exact is_fmL _ args neg _ _ k2 a ha
theorem is_fm0{k:LU->Int->Bool}:∀(l:LF)(neg:Bool)(d:Int)(s:BS),(∀a∈l,isB k a=true)->isB k (fm0 l neg d s).1=true
 | [],_,_,_,_=>rfl
 |a::_,neg,d,s,h=>is_fm a neg d s (h a O)
theorem is_fmL{k:LU->Int->Bool}:∀(t:Bool)(l:LF)(neg:Bool)(d:Int)(s:BS),(∀a∈l,isB k a=true)->∀c∈(fmL t l neg d s).1,isB k c=true
 |_,[],_,_,_,_,c,hc=>by cases hc
 |t,a::l,neg,d,s,h,c,hc=>by
  rw[fmL]at hc;rcases List.mem_cons.1 hc with rfl|hc
  ·exact is_fm a _ d s (h a O)
  ·exact is_fmL false l neg d _ (fun a ha=>h a (by simp[ha])) c hc
end
theorem is_notR{k:LU->Int->Bool}{f:Fml}(h:isB k f=true):isB k (notR f)=true:=by
 unfold notR
 split
 ·split
  ·rfl
  ·exact is_fm f _ _ _ h
 ·rfl
mutual
def allNd(p:Fml->Bool):Fml->Bool
 | .mk op nm v b args=>p (.mk op nm v b args)&&allNdL p args
def allNdL(p:Fml->Bool):LF->Bool
 | []=>true
 |a::l=>allNd p a&&allNdL p l
end
theorem allNdL_iff(p:Fml->Bool):∀{l:LF},allNdL p l=true↔∀a∈l,allNd p a=true
 | []=>by simp[allNdL]
 |a::l=>by rw[allNdL,Bool.and_eq_true,allNdL_iff p];simp
theorem allNd_eq(p:Fml->Bool)(f:Fml):allNd p f=(p f&&allNdL p f.args):=by cases f;rfl
structure TnG(yv:Value)(X:List Nat)(B N:Nat)(p:Fml->Bool)(J D:World->Prop):Prop where
 fn:∃y,yv=.func (.yield y) #[] #[]
 ext:∀{W W':World},J W->Ext W W'->J W'
 step:∀{W:World}{b o:Nat}{f:Fml},J W->PF (fun b=>b∉X/\b<B) W b o f->szF f<=N->YldP Zp yv [.pointer (some ⟨b,o,none⟩)] W (fun v W'=>v=.bool (p f)/\Keep X W W'/\if p f=true then J W' else D W') fun _ _=>False
abbrev tvV(B D:Nat):Value:=.func (.func 185) #[] #[pt B,pt D]
theorem gvisit_ok{yv:Value}{X:List Nat}{B N:Nat}{p:Fml->Bool}{q D:World->Prop}(H:TnG yv X B N p q D)(d c:Nat)(P:d∉X)(C:c∉X):∀(n:Nat)(w:World)(b o:Nat)(f:Fml),dpF f<=n->szF f<=N->PF (fun b=>b∉X/\b<B) w b o f->
  Blk w d 102 [yv]->Blk w c 102 [tvV d c]->q w->
  Fn Zp 185 [.pointer (some ⟨b,o,none⟩),pt d,pt c] w fun v w'=>v=.bool (allNd p f)/\Keep X w w'/\if allNd p f=true then q w' else D w':=by
 intro n
 induction n with
 |zero=>intro w b o f G;rw[BQ]at G;omega
 |succ n ih=>
 intro w b o f G hz K m b2 hJ;rw[BQ]at G;have hzz:=BJ f;obtain⟨y,rfl⟩:=H.fn;rw[allNd_eq];refine AG Tryz.func185 rfl Tryz.ntmps185 (go ?_);refine W_yield rfl rfl (H.step hJ K hz) ?_;rintro _ w1⟨rfl,i,r⟩;have L:=K.E i (fun _ h=>h.1);have b11:=m.E i P;have a1:=b2.E i C;obtain⟨a0,a6,a7,a8,_⟩:=L.arg;cases hp:p f with
 |false=>
  rw[hp,if_neg Bool.false_ne_true]at r;rw[Bool.false_and];refine go ?_;exact AB rfl ⟨rfl,i,by rw[if_neg Bool.false_ne_true];exact r⟩
 |true=>
 rw[hp,if_pos rfl]at r;rw[Bool.true_and];refine go ?_;refine Ah (α:=Nat) (fun k=>[(0,.pointer (some ⟨b,o,none⟩)),(1,pt d),(2,pt c),(14,iV (f.args.length:Int)),(15,iV (k:Int))]) (fun k W=>k<=f.args.length/\Keep X w W/\q W/\PF (fun b=>b∉X/\b<B) W b o f/\Blk W d 102 [.func (.yield y) #[] #[]]/\Blk W c 102 [tvV d c]/\∀a∈f.args.take k,allNd p a=true) (fun k=>f.args.length-k) 0 ag ⟨by omega,i,r,L,b11,a1,by simp⟩ ?_;rintro k W fr⟨b0,S,Q,F,M,A,s⟩;refine go ?_;by_cases a5:k<f.args.length
 ·obtain⟨x,T⟩:=gl a5;obtain⟨aa,cc,_,a2,a3⟩:=F.arg;obtain⟨z,l,rfl,a4⟩:=a3 k x T;have u:=List.mem_of_getElem? T;have a9:=Bi u;have b1:=BO u;refine go ?_;refine AX (rd 0 7 (.alt 7 (.read 8 .done) .stop)) An Dv (fun t I ed=>⟨Keep X t,?_,?_⟩)
  ·exact FK
  have ca:∀V,Keep X t V->V.cell? ⟨c,0,none⟩=some (tvV d c):=fun V e=>((A.E I O).E e C).cell rfl;have cb:∀V,Keep X t V->V.cell? ⟨b,o+4,none⟩=some (.slice (some ⟨z,l,none⟩) f.args.length cc):=fun V e=>e.cell (I.cell a2 O) F.1.1;refine go ?_;refine D_E rfl ?_;refine Az (v1:=[]) (v2:=[pt d,pt c]) (vs:=[.pointer (some ⟨z,l+k*5,none⟩)]) rfl (ih t z (l+k*5) x U U (a4.E I (fun _ _=>by simp)) (M.E I O) (A.E I O) (H.ext Q I)) rfl ?_;rintro _ w4⟨rfl,j,R⟩;refine wNl j ?_;have Z:=(S.trans I (fun x h=>by cases h)).trans j (fun x h _=>h);refine go ?_;cases hpx:allNd p x with
  |false=>
   rw[hpx,if_neg Bool.false_ne_true]at R
   have E:allNdL p f.args=false:=by
    rw[<-Bool.not_eq_true,allNdL_iff];intro h;rw[h x u]at hpx;cases hpx
   rw[E];refine go ?_;exact AB rfl ⟨rfl,Z,by rw[if_neg Bool.false_ne_true];exact R⟩
  |true=>
   rw[hpx,if_pos rfl]at R;refine go ?_;refine⟨k+1,⟨rfl,ag,⟨by omega,Z,R,(F.E I (fun _ _=>by simp)).E j (fun _ h=>h.1),(M.E I O).E j P,(A.E I O).E j C,fun a g=>?_⟩⟩,by omega⟩;rw[List.take_add_one,T]at g;rcases List.mem_append.1 g with g|g
   ·exact s a g
   ·simp at g;rw[g];exact hpx
 ·obtain rfl:k=f.args.length:=by omega
  rw[List.take_length]at s;have E:=(allNdL_iff p).2 s;rw[E];refine go ?_;exact AB rfl ⟨rfl,S,by rw[if_pos rfl];exact Q⟩
theorem gnodesIt_ok{k:Value}{X:List Nat}{N:Nat}{p:Fml->Bool}{i D:World->Prop}(w:World)(Q b o:Nat)(f:Fml)(H:TnG k X w.heap.size N p i D)(r:Blk w Q 96 [.pointer (some ⟨b,o,none⟩)])(s:PF (fun b=>b∉X/\b<w.heap.size) w b o f)(z:szF f<=N)(l:i w)(W:∀x∈X,x<w.heap.size):
  Fn Zp 184 [k,pt Q] w fun _ w'=>Keep X w w'/\if allNd p f=true then i w' else D w':=by
 have F:∀{c:Nat},w.heap.size<=c->c∉X:=fun h T=>by have:=W _ T;omega
 obtain⟨y,rfl⟩:=H.fn;refine AG Tryz.func184 rfl Tryz.ntmps184 (go ?_);refine Ai (L:=[.func (.yield y) #[] #[]]) rfl (fun R E=>go ?_);refine AS (fun B j=>go ?_);refine AR (v:=tvV w.heap.size R.heap.size) rfl rfl rfl j.D O (fun e K=>?_);have C:=E.size;have M:=j.size;have A:=K.size;have G:Ext R e:=j.E.E K.E O;have g:Ext w e:=E.E.trans G;have d:Blk e w.heap.size 102 [.func (.yield y) #[] #[]]:=E.D.E G O;have m:Blk e R.heap.size 102 [tvV w.heap.size R.heap.size]:=K.D;have n:=(r.E g O).cell (o:=0) rfl;refine go ?_;refine Az (v1:=[]) (v2:=[pt w.heap.size,pt R.heap.size]) (vs:=[.pointer (some ⟨b,o,none⟩)]) rfl (gvisit_ok H w.heap.size R.heap.size (F (Nat.le_refl _)) (F U) (dpF f) e b o f (Nat.le_refl _) z (s.E g (fun _ _=>by simp)) d m (H.ext l g)) rfl ?_;rintro _ u⟨rfl,a,q⟩;refine go ?_;exact BF rfl ⟨(g.any:Keep X w e).trans a (fun y t _=>t),q⟩
theorem gnodes_ok(w:World)(b o:Nat):Fn Zp 138 [.pointer (some ⟨b,o,none⟩)] w fun v w'=>v=.func (.func 184) #[] #[pt w.heap.size]/\New w w' 96 [.pointer (some ⟨b,o,none⟩)]:=by
 refine AG Tryz.func138 rfl Tryz.ntmps138 (go ?_);refine Ai (L:=[.pointer (some ⟨b,o,none⟩)]) rfl (fun R E=>go ?_);exact AB rfl ⟨rfl,E⟩
def isPstE(N:Int):Bool:=decide (N=15)||decide (N=16)||decide (N=17)||decide (N=18)||decide (N=19)
def ndOk(S:List Sgn)(f:Fml):Bool:=if f.op=3 then knS S f.name f.val else if isPstE f.op=true then f.args.all pastG else true
theorem find_cases(S:List Sgn)(nm:LU):(Di S nm= -1/\∀v,knS S nm v=false)\/∃(i:Nat)(s:Sgn),Di S nm=(i:Int)/\S[i]?=some s/\∀v,knS S nm v=decide (v<s.size):=by
 unfold Di knS;cases hi:S.findIdx? (fun y=>decide (y.name=nm))with
 |none=>exact .inl ⟨rfl,fun _=>rfl⟩
 |some i=>
  obtain⟨B, -⟩:=List.findIdx?_eq_some_iff_getElem.1 hi;refine .inr ⟨i,S[i],rfl,List.getElem?_eq_getElem B,fun v=>?_⟩;simp[List.getElem?_eq_getElem B]
theorem gnodeErr_ok(w:World)(L:Option Addr)(K:Nat)(S:List Sgn)(b o:Nat)(f:Fml)(j:SlAt sgnR AV w (.slice L S.length K) S)(X:PF AV w b o f)(C:GF w)(G:10<=w.heap.size)(R:dpF f<=5000):Fn Zp 139 [.slice L S.length K,.pointer (some ⟨b,o,none⟩)] w fun u w'=>∃e:Int,u=iV e/\Ext w w'/\(e=0↔ndOk S f=true):=by
 obtain⟨aa,cc,a5,q0,q1,q2,q3,q4,qa⟩:=X.all;unfold ndOk;refine AG Tryz.func139 rfl Tryz.ntmps139 (go ?_);by_cases Q:f.op=3
 ·rw[if_pos Q];refine go ?_;refine AE (sigFind_ok w _ S f.name j) rfl ?_;rintro _ w5⟨rfl,rfl⟩;rcases find_cases S f.name with⟨y,P⟩|⟨i,s,y,D,P⟩
  ·rw[y,P];refine go ?_;exact AB rfl ⟨70,rfl,Ext.refl _,by simp⟩
  ·rw[y,P];have a3:=(List.getElem?_eq_some_iff.1 D).1;obtain⟨_,sb,so,rfl,_,a0⟩:=j.sig D;have M:=a0 2 _ rfl;refine go ?_;refine AX (rd 0 10 .done) An Dv (fun H c ed=>⟨Ext H,?_,?_⟩)
   ·exact Ew
   have s1:H.cell? ⟨b,o+2,none⟩=some (iV f.val):=c.cell q2 O;have s2:H.cell? ⟨sb,so+i*3+2,none⟩=some (iV s.size):=c.cell M O;by_cases q:f.val<s.size
   ·refine go ?_;exact AB rfl ⟨0,rfl,c,by simp[q]⟩
   ·refine go ?_;exact AB rfl ⟨71,rfl,c,by simp[q]⟩
 rw[if_neg Q];cases v:isPstE f.op with
 |false=>
  rw[if_neg Bool.false_ne_true];have v:=v;simp only[isPstE,Bool.or_eq_false_iff,decide_eq_false_iff_not]at v;obtain⟨⟨⟨⟨r,F⟩,d⟩,t⟩,a1⟩:=v;refine go ?_;exact AB rfl ⟨0,rfl,Ext.refl _,by simp⟩
 |true=>
  rw[if_pos rfl];refine mO1 ?_;refine mO1 ?_;refine mO1 ?_;iterate 4 (first|refine nx rfl ?_|refine nf rfl ?_)
  refine DF (α:=Unit) (fun _=>[(0,.slice L S.length K),(1,.pointer (some ⟨b,o,none⟩)),(31,.bool true)]) (fun _ W=>W=w) ?_ ?_
  ·have v:=v;simp only[isPstE,Bool.or_eq_true,decide_eq_true_eq]at v;by_cases r:f.op=15
   ·exact FR
   by_cases F:f.op=16
   ·exact FR
   by_cases d:f.op=17
   ·exact FR
   by_cases t:f.op=18
   ·exact FR
   exact FR
  rintro _ _ f3 E;rw[E];clear E;refine go ?_;refine Ah (α:=Nat) (fun k=>[(0,.slice L S.length K),(1,.pointer (some ⟨b,o,none⟩)),(41,iV (f.args.length:Int)),(42,iV (k:Int))]) (fun k W=>k<=f.args.length/\Ext w W/\∀a∈f.args.take k,pastG a=true) (fun k=>f.args.length-k) 0 ag ⟨by omega,Ext.refl _,by simp⟩ ?_;rintro k W fr⟨a4,V,g⟩;have a6:=V.cell q4 O;refine go ?_;by_cases Z:k<f.args.length
  ·obtain⟨x,T⟩:=gl Z;obtain⟨b',o',rfl,B⟩:=qa k x T;have n:=List.mem_of_getElem? T;have a2:=Bi n;rw[BQ]at R;obtain⟨_,x5,z,N,l⟩:=B;obtain⟨x0,x1,x2,x3,x4,rfl⟩:=Ab z;have m:=N.E V O;refine go ?_;refine AQ rfl Dx m ?_;refine AE (fpast_ok W _ x (l.ext V) (C.ext V) (Nat.le_trans G V.size) U) rfl ?_;rintro _ w4⟨rfl,p⟩;cases B:pastG x with
   |false=>
    have A:f.args.all pastG=false:=by
     rw[<-Bool.not_eq_true,List.all_eq_true];intro h;rw[h x n]at B;cases B
    rw[A];refine go ?_;exact AB rfl ⟨72,rfl,V.trans p,by simp⟩
   |true=>
    refine go ?_;refine⟨k+1,⟨rfl,ag,⟨by omega,V.trans p,fun a I=>?_⟩⟩,by omega⟩;rw[List.take_add_one,T]at I;rcases List.mem_append.1 I with I|I
    ·exact g a I
    ·simp at I;rw[I];exact B
  ·obtain rfl:k=f.args.length:=by omega
   rw[List.take_length]at g;refine go ?_;exact AB rfl ⟨0,rfl,V,by simpa using g⟩
def fmOk(S:List Sgn)(f:Fml):Bool:=A5 S&&validG f&&allNd (ndOk S) f&&decide ((kernR f).2=0)
theorem gtyping_ok(w:World)(sa:Option Addr)(K:Nat)(S:List Sgn)(v:Value)(f:Fml)(hS:SlAt sgnR AV w (.slice sa S.length K) S)(hf:FAt AV w v f)(hG:GF w)(hK:KY w)(hN:10<=w.heap.size):
  Fn Zp 93 [.slice sa S.length K,v] w fun u w'=>∃e:Int,u=iV e/\Ext w w'/\(e=0↔fmOk S f=true):=by
 have b1:=hf.lt;obtain⟨c,rfl,a9,c2⟩:=hf.cells;obtain⟨x0,x1,x2,x3,x4,rfl⟩:=Ab a9;unfold fmOk;refine DB Tryz.func93 rfl Tryz.ntmps93 nlr Dv (go ?_);refine Ai (L:=[.slice sa S.length K]) rfl (fun w1 n1=>?_);refine Ai (L:=[x0,x1,x2,x3,x4]) rfl (fun I n2=>?_);refine AS (fun w3 n3=>?_);have z1:=n1.size;have z2:=n2.size;have z3:=n3.size;have a3:=n2.E.trans n3.E;have k3:Ext w w3:=n1.E.trans a3;have bs:=n1.D.E a3 O;have bf:=n2.D.E n3.E O;have be:Blk w3 I.heap.size 43 [iV 0]:=n3.D;refine go ?_;refine AE (Dt w3 _ S (hS.ext k3) (hK.E k3 O)) rfl ?_;rintro _ w4⟨rfl,k4⟩;have z4:=k4.size;have V:=k3.trans k4;have b9:=bf.E k4 O;have a8:=be.E k4 O;cases hv:A5 S with
 |false=>
  refine go ?_;refine AR (v:=iV 1) rfl rfl rfl (a8) O (fun Z n=>go ?_);exact BB (A9 rfl (n.D.cell (o:=0) rfl) ⟨1,rfl,V.E n.E Dw,by simp⟩)
 |true=>
 refine go ?_;refine AE (fvalid_ok w4 _ f (hf.ext V) (hG.ext V) (hK.E V O) (Nat.le_trans hN V.size)) rfl ?_;rintro _ w5⟨rfl,k5⟩;have z5:=k5.size;have e5:=V.trans k5;have a1:=k4.trans k5;have i:=bs.E a1 O;have t:=bf.E a1 O;have g:=be.E a1 O;cases hvf:validG f with
 |false=>
  refine go ?_;refine AR (v:=iV 30) rfl rfl rfl (g) O (fun Z n=>go ?_);exact BB (A9 rfl (n.D.cell (o:=0) rfl) ⟨30,rfl,e5.E n.E Dw,by simp⟩)
 |true=>
 obtain⟨b5,c0,_⟩:=valid_okN hvf;simp only[Bool.true_and];refine go ?_;refine AE (gnodes_ok w5 w1.heap.size 0) rfl ?_;rintro _ q⟨rfl,F⟩;refine go ?_;have z6:=F.size;have b6:=F.D;have e6:=e5.trans F.E;replace i:=i.E F.E O;replace t:=t.E F.E O;replace g:=g.E F.E O;refine C_range [] [pt w5.heap.size] rfl Dv fun a7 b8 a6 P C k7 s7 m7 r7=>?_;replace b6:=b6.E k7 O;replace i:=i.E k7 O;replace t:=t.E k7 O;replace g:=g.E k7 O;have e7:=e6.trans k7;have hp7:PF (fun b=>b∉[I.heap.size,q.heap.size+1]/\b<P.heap.size) P w1.heap.size 0 f:=⟨by simp;omega,_,rfl,t.cells,(b1.ext e7).mono fun b hb=>by have:=hb.2;simp;omega⟩;obtain⟨a0,p⟩:∃a0:World->Prop,∀W,a0 W↔(Ext w W/\Blk W w.heap.size 22 [.slice sa S.length K]/\Blk W w1.heap.size 36 [x0,x1,x2,x3,x4]/\Blk W I.heap.size 43 [iV 0]/\a7 W/\W.heap[q.heap.size]?=some (.deferred (some []))/\P.heap.size<=W.heap.size):=⟨_,fun _=>Iff.rfl⟩;obtain⟨D,hD⟩:∃D:World->Prop,∀W,D W↔(Ext w W/\(∃e:Int,e≠0/\Blk W I.heap.size 43 [iV e])/\a6 .ret W/\W.heap[q.heap.size]?=some (.deferred (some []))/\P.heap.size<=W.heap.size):=⟨_,fun _=>Iff.rfl⟩
 have H:TnG (.func (.yield (q.heap.size+1)) #[] #[]) [I.heap.size,q.heap.size+1] P.heap.size 60 (ndOk S) a0 D:=by
  refine⟨⟨_,rfl⟩,fun z k=>?_,fun{W b o x}z hp hz=>?_⟩
  ·obtain⟨y,r,M,N,X,m,j7⟩:=(p _).1 z;exact(p _).2 ⟨y.trans k,r.E k O,M.E k O,N.E k O,C.rdy X k O,(k.block _ U O).trans m,Nat.le_trans j7 k.size⟩
  ·obtain⟨y,r,M,N,X,m,j7⟩:=(p _).1 z;refine YldP.mono (R:=fun v W'=>v=.bool (ndOk S x)/\Keep [I.heap.size,q.heap.size+1] W W'/\if ndOk S x=true then a0 W' else D W') (Y:=fun _ _=>False) (C.round X rfl ?_) (fun v W' h=>h) (fun _ _ h=>h);refine go ?_;refine⟨X,fun W2 B c5 y2=>?_⟩;have A:=y.E B Dw;replace r:=r.E B Dw;replace M:=M.E B Dw;replace N:=N.E B Dw;replace m:=(B.block _ U O).trans m;have b3:=(hp.E B (fun b h=>by have:=h.1;simp at this⊢;omega)).mono (ok':=AV) (fun _ _=>trivial);have c1:=dp_sz x;refine go ?_;refine AE (gnodeErr_ok W2 sa K S b o x (hS.ext A) b3 (hG.ext A) (Nat.le_trans hN A.size) U) rfl ?_;rintro _ W3⟨e,rfl,j,he⟩;have q3:=B.trans j (fun x h=>by cases h);have zq:=q3.size;by_cases s:e=0
   ·have T:=he.1 s;subst s;refine go ?_;refine Q_rnd (C.bsy y2 j O) fun W4 Q s4 y4=>⟨by rw[T],(q3.trans Q (fun x h _=>h)).mono (fun x T=>by simp at T;simp[T]),(if_pos T).mpr<|(p _).2 ⟨(A.trans j).E Q Dw,(r.E j O).E Q Dw,(M.E j O).E Q Dw,(N.E j O).E Q Dw,y4,(Q.block _ U O).trans ((j.block _ U O).trans m),by omega⟩⟩
   ·have T:ndOk S x=false:=by rw[<-Bool.not_eq_true,<-he];exact s
    refine go ?_;refine AR (v:=iV e) rfl rfl rfl (N.E j O) O (fun W5 G=>go ?_);have zp:=G.E.size;refine Q_rnd_ret (C.bsy (C.bsy y2 j O) G.E Dw) fun W4 Q s4 y4=>⟨by rw[T],((q3.mono (fun x T=>by simp at T;simp[T])).trans G.E (fun x T _=>by simp at T;simp[T])).trans Q (fun x T _=>by simp at T;simp[T]),(if_neg (by rw[T];simp)).mpr<|(hD _).2 ⟨((A.trans j).E G.E Dw).E Q Dw,⟨e,s,G.D.E Q Dw⟩,y4,(Q.block _ U O).trans ((G.E.block _ U Dw).trans ((j.block _ U O).trans m)),by omega⟩⟩
 refine Fn.mono (gnodesIt_ok P w5.heap.size w1.heap.size 0 f H b6 hp7 b5 ((p _).2 ⟨e7,i,t,g,r7,m7,Nat.le_refl _⟩) (fun x T=>by simp at T;omega)) ?_;rintro v w8⟨_,z⟩;clear b6 i t g;cases ha:allNd (ndOk S) f with
 |false=>
  rw[ha,if_neg Bool.false_ne_true]at z;obtain⟨y,⟨e,s,r⟩,M,N,X⟩:=(hD _).1 z;refine .inr ⟨.ret,M,fun Z a s9=>?_⟩;clear p hD H z C;dsimp only[behind];refine go ?_;refine B0 ((a.block _ U O).trans N) fun a5 l a4=>?_;exact BB (A9 rfl (((r.E a Dw).E l Dw).cell (o:=0) rfl) ⟨e,rfl,(y.E a Dw).E l Dw,by simp[s]⟩)
 |true=>
 rw[ha,if_pos rfl]at z;obtain⟨y,r,M,N,X,m,j7⟩:=(p _).1 z;refine .inl ⟨X,fun Z a s9=>?_⟩;clear p hD H z C;replace M:=M.E a Dw;replace N:=N.E a Dw;replace m:=(a.block _ U O).trans m;have E:=y.E a Dw;refine go ?_;refine AE (gkernel_ok Z _ f (hf.ext E) (hG.ext E) (hK.E E O) (Nat.le_trans hN E.size)) rfl ?_;rintro u c3⟨cu,rfl,k10,fu⟩;obtain⟨cs,rfl,b0,b2⟩:=fu.cells;obtain⟨y0,y1,y2,y3,y4,rfl⟩:=Ab b0;refine go ?_;refine Au (cs:=[y0,y1,y2,y3,y4]) rfl rfl Dx b2 (fun c4 b7=>?_);have d:=k10.trans b7.E;have zz:=d.size;have b4:=N.E d O;have a2:=(d.block _ U O).trans m;refine go ?_;by_cases s:(kernR f).2=0
 ·refine go ?_;refine AR (v:=iV 0) rfl rfl rfl (b4) O (fun Z n=>go ?_);refine B0 ((n.E.block _ U Dw).trans a2) fun a5 l a4=>?_;exact BB (A9 rfl ((n.D.E l Dw).cell (o:=0) rfl) ⟨0,rfl,((E.trans d).E n.E Dw).E l Dw,by simp[s]⟩)
 ·refine go ?_;refine AR (v:=iV 2) rfl rfl rfl (b4) O (fun Z n=>go ?_);refine B0 ((n.E.block _ U Dw).trans a2) fun a5 l a4=>?_;exact BB (A9 rfl ((n.D.E l Dw).cell (o:=0) rfl) ⟨2,rfl,((E.trans d).E n.E Dw).E l Dw,by simp[s]⟩)
end Go.Proofs.YtohodbnnhlddpaaGreatDoor
