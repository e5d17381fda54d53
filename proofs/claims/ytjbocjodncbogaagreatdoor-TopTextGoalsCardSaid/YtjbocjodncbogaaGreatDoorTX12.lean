/- TopTextGoals, part 12 of 16: rules, lemmas, walks. Conditions: none. -/
import Derived.Test.YtjbocjodncbogaaGreatDoorTX11
import Derived.Lib.Builder
import Derived.Lib.AppendStr
import Derived.Lib.UnsafeStr
import Derived.Laws.Externs
namespace Go.Proofs.YtjbocjodncbogaaGreatDoor
open Go.RowKit
set_option linter.unusedVariables false
theorem numT_len{n:Int}(h:n<=9999):(Ci n).length<=4:=digs_len U
theorem numB_of{n:Int}(t:0<=n)(Z:n<=9999):numB n=true:=by simp[numB,t,Z]
theorem signOf_ok(w:World)(s:Sty)(b o:Nat)(f:Fml)(av:Value)(t:Cells w b o (fcC f av))(F:Cb f.op=some s)(a0:nodeC s f=true)(X:GP w):
  FnP Zp 160 [Bu s,.pointer (some ⟨b,o,none⟩)] w (fun v w'=>v=AL (sgT f.op f.name f.val f.bound)/\Ext w w'/\(f.op=3->BH f.name=true)) (fun V w'=>V=unp/\Ext w w'/\f.op=3/\BH f.name=false):=by
 have a7:s.sign.length<=5:=by
  rcases op_cases F with h|h|h|h|h|h|h|h|h|h|h|h|h|h|h|h|h|h|h<;>rw[h]at F<;>simp[Cb,styL,List.lookup]at F<;>subst F<;>decide
 have x:Br f.op=s:=by unfold Br;rw[F];rfl
 simp only[nodeC,Bool.and_eq_true,decide_eq_true_eq]at a0;obtain⟨⟨⟨_,C,h2⟩,h3,h4⟩,_⟩:=a0;refine Az Tryz.func160 rfl Tryz.ntmps160 nlr EO (go ?_);refine A3 (L:=Ct s) rfl (fun w1 n1=>?_);have d:=n1.D;have Z:=n1.E;have fo:=Z.cell (t 0 _ rfl) O;refine go ?_;by_cases I:f.op=3
 ·have y:=F;rw[I]at y;simp[Cb,styL,List.lookup]at y;have hu:s.usual=1:=by rw[<-y]
  have hv:s.val=9999:=by rw[<-y]
  have E:s.sign=[61]:=by rw[<-y]
  refine go ?_;by_cases a2:f.val=1
  ·refine CQ (rd 0 7 .done) Ap EO (by repeat (first|exact Be|refine BI ?_|refine CM ?_)) (fun N M H=>⟨Ext N,?_,?_⟩)
   ·exact FQ
   have P:=d.E M O;have j:∀W,Ext N W->W.cell? ⟨b,o+1,none⟩=some (AL f.name):=fun W e=>((Z.trans M).trans e).cell (t 1 _ rfl) O;have D:∀W,Ext N W->W.cell? ⟨b,o+2,none⟩=some (iV f.val):=fun W e=>((Z.trans M).trans e).cell (t 2 _ rfl) O;have g:∀W,Ext N W->W.cell? ⟨b,o+3,none⟩=some (iV f.bound):=fun W e=>((Z.trans M).trans e).cell (t 3 _ rfl) O;have c:∀W,Ext N W->W.cell? ⟨w.heap.size,0+0,none⟩=some (AL s.sign):=fun W e=>(P.E e O).cell rfl;have l:∀W,Ext N W->W.cell? ⟨w.heap.size,0+8,none⟩=some (iV (s.usual:Int)):=fun W e=>(P.E e O).cell rfl;((refine D_R rfl rfl (fun W a=>AX rfl dz) ?_)<;>(refine D_R rfl rfl (fun W a=>AG rfl dz) ?_)<;>(refine D_R rfl rfl (fun W a=>AB rfl dz) ?_)<;>(refine D_R rfl rfl (fun W a=>AH rfl (D W a) dz) ?_)<;>(refine D_R rfl rfl (fun W a=>AB rfl dz) ?_)<;>(refine D_R rfl rfl (fun W a=>AH rfl (l W a) dz) ?_)<;>(refine D_eql rfl rfl rfl rfl (fun T=>?_) (fun T=>?_)<;>try omega)<;>refine Bc ?_)
   refine go ?_;have fn1:=j _ (Ext.refl _);refine go ?_;refine Ag (wname_ok _ f.name (X.gk.ext (Z.trans M))) rfl ?_ ?_;rotate_left
   ·rintro V A⟨rfl,S,rfl⟩;refine go ?_;exact Ab ⟨rfl,Z.trans M,I,S⟩
   rintro v A⟨rfl,S,rfl⟩;refine go ?_;have e:sgT f.op f.name f.val f.bound=f.name:=by simp[sgT,I,a2]
   exact AC rfl ⟨by rw[e];rfl,Z.trans M,fun _=>S⟩
  ·refine CQ (rd 0 7 .done) Ap EO (by repeat (first|exact Be|refine BI ?_|refine CM ?_)) (fun N M H=>⟨Ext N,?_,?_⟩)
   ·exact FQ
   have P:=d.E M O;have j:∀W,Ext N W->W.cell? ⟨b,o+1,none⟩=some (AL f.name):=fun W e=>((Z.trans M).trans e).cell (t 1 _ rfl) O;have D:∀W,Ext N W->W.cell? ⟨b,o+2,none⟩=some (iV f.val):=fun W e=>((Z.trans M).trans e).cell (t 2 _ rfl) O;have g:∀W,Ext N W->W.cell? ⟨b,o+3,none⟩=some (iV f.bound):=fun W e=>((Z.trans M).trans e).cell (t 3 _ rfl) O;have c:∀W,Ext N W->W.cell? ⟨w.heap.size,0+0,none⟩=some (AL s.sign):=fun W e=>(P.E e O).cell rfl;have l:∀W,Ext N W->W.cell? ⟨w.heap.size,0+8,none⟩=some (iV (s.usual:Int)):=fun W e=>(P.E e O).cell rfl;((refine D_R rfl rfl (fun W a=>AX rfl dz) ?_)<;>(refine D_R rfl rfl (fun W a=>AG rfl dz) ?_)<;>(refine D_R rfl rfl (fun W a=>AB rfl dz) ?_)<;>(refine D_R rfl rfl (fun W a=>AH rfl (D W a) dz) ?_)<;>(refine D_R rfl rfl (fun W a=>AB rfl dz) ?_)<;>(refine D_R rfl rfl (fun W a=>AH rfl (l W a) dz) ?_)<;>(refine D_eql rfl rfl rfl rfl (fun T=>?_) (fun T=>?_)<;>try omega)<;>refine Bc ?_)
   refine go ?_;replace Z:=Z.trans M;replace d:=P;clear j D g c l P M H;refine CQ (rd 0 4 (.read 5 (.read 6 (rd 8 4 (.alt 4 (.read 7 (.alt 12 (.read 13 (.read 14 .done)) .stop)) .stop))))) Ap EO (by repeat (first|exact Be|refine BI ?_|refine CM ?_)) (fun N M H=>⟨Ext N,?_,?_⟩)
   ·exact FQ
   have P:=d.E M O;have j:∀W,Ext N W->W.cell? ⟨b,o+1,none⟩=some (AL f.name):=fun W e=>((Z.trans M).trans e).cell (t 1 _ rfl) O;have D:∀W,Ext N W->W.cell? ⟨b,o+2,none⟩=some (iV f.val):=fun W e=>((Z.trans M).trans e).cell (t 2 _ rfl) O;have g:∀W,Ext N W->W.cell? ⟨b,o+3,none⟩=some (iV f.bound):=fun W e=>((Z.trans M).trans e).cell (t 3 _ rfl) O;have c:∀W,Ext N W->W.cell? ⟨w.heap.size,0+0,none⟩=some (AL s.sign):=fun W e=>(P.E e O).cell rfl;have l:∀W,Ext N W->W.cell? ⟨w.heap.size,0+8,none⟩=some (iV (s.usual:Int)):=fun W e=>(P.E e O).cell rfl;((refine D_R rfl rfl (fun W a=>AX rfl dz) ?_)<;>(refine D_R rfl rfl (fun W a=>AG rfl dz) ?_)<;>(refine D_R rfl rfl (fun W a=>AB rfl dz) ?_)<;>(refine D_R rfl rfl (fun W a=>AH rfl (j W a) dz) ?_)<;>(refine D_R rfl rfl (fun W a=>AB rfl dz) ?_)<;>(refine D_R rfl rfl (fun W a=>AH rfl (c W a) dz) ?_)<;>(refine D_R rfl rfl (fun W a=>AX rfl dz) ?_)<;>(refine D_R rfl rfl (fun W a=>AG rfl dz) ?_)<;>(refine D_R rfl rfl (fun W a=>AB rfl dz) ?_)<;>(refine D_R rfl rfl (fun W a=>AH rfl (D W a) dz) ?_))
   refine D_E rfl ?_;refine Ag (wname_ok N f.name (X.gk.ext (Z.trans M))) rfl ?_ ?_;rotate_left
   ·rintro V A⟨rfl,S,rfl⟩;refine go ?_;exact Ab ⟨rfl,Z.trans M,I,S⟩
   rintro v A⟨rfl,S,rfl⟩;have a6:=(CL S).2.1;refine AA ⟨Ext A,fun _ e=>e,Ext.refl _,?_⟩;(apply D_R rfl rfl;(intro W a;(refine EB rfl rfl Eg ?_);exact AA ⟨rfl,rfl,rfl⟩))
   refine D_E rfl ?_;refine Ag (wnumber_ok A f.val (X.ext (Z.trans M))) rfl ?_ ?_;rotate_left
   ·rintro V z⟨rfl,i,rfl⟩;rw[numB_of C U]at i;cases i
   rintro v z⟨rfl,_,k⟩;have m:=numT_len (n:=f.val) U;refine AA ⟨Ext z,fun _ e=>k.trans e,Ext.refl _,?_⟩;(apply D_R rfl rfl;(intro W a;(refine EB rfl rfl Eg ?_);exact AA ⟨rfl,rfl,rfl⟩))
   ((refine D_R rfl rfl (fun W a=>AO (BC rfl dz)) ?_)<;>refine Bc ?_)
   repeat refine nx rfl ?_
   have e:sgT f.op f.name f.val f.bound=f.name++s.sign++Ci f.val:=by simp[sgT,I,a2,E]
   exact AC rfl ⟨by rw[e];rfl,(Z.trans M).trans k,fun _=>S⟩
 by_cases u:f.op=13\/f.op=14
 ·have a5:s.bound=9999:=by
   rcases u with h|h<;>rw[h]at F<;>simp[Cb,styL,List.lookup]at F<;>rw[<-F]
  have G:sgT f.op f.name f.val f.bound=s.sign++Ci f.bound++[93,32]:=by simp[sgT,I,u,x]
  refine go ?_;rcases u with a3|a4
  ·refine go ?_;refine CQ (rd 0 6 (.alt 6 (rd 7 3 .done) .stop)) Ap EO (by repeat (first|exact Be|refine BI ?_|refine CM ?_)) (fun N M H=>⟨Ext N,?_,?_⟩)
   ·exact FQ
   have P:=d.E M O;have j:∀W,Ext N W->W.cell? ⟨b,o+1,none⟩=some (AL f.name):=fun W e=>((Z.trans M).trans e).cell (t 1 _ rfl) O;have D:∀W,Ext N W->W.cell? ⟨b,o+2,none⟩=some (iV f.val):=fun W e=>((Z.trans M).trans e).cell (t 2 _ rfl) O;have g:∀W,Ext N W->W.cell? ⟨b,o+3,none⟩=some (iV f.bound):=fun W e=>((Z.trans M).trans e).cell (t 3 _ rfl) O;have c:∀W,Ext N W->W.cell? ⟨w.heap.size,0+0,none⟩=some (AL s.sign):=fun W e=>(P.E e O).cell rfl;have l:∀W,Ext N W->W.cell? ⟨w.heap.size,0+8,none⟩=some (iV (s.usual:Int)):=fun W e=>(P.E e O).cell rfl;((refine D_R rfl rfl (fun W a=>AB rfl dz) ?_)<;>(refine D_R rfl rfl (fun W a=>AH rfl (c W a) dz) ?_)<;>(refine D_R rfl rfl (fun W a=>AX rfl dz) ?_)<;>(refine D_R rfl rfl (fun W a=>AG rfl dz) ?_)<;>(refine D_R rfl rfl (fun W a=>AB rfl dz) ?_)<;>(refine D_R rfl rfl (fun W a=>AH rfl (g W a) dz) ?_))
   refine D_E rfl ?_;refine Ag (wnumber_ok N f.bound (X.ext (Z.trans M))) rfl ?_ ?_;rotate_left
   ·rintro V z⟨rfl,i,rfl⟩;rw[numB_of h3 U]at i;cases i
   exact FO
  ·refine go ?_;refine CQ (rd 0 6 (.alt 6 (rd 7 3 .done) .stop)) Ap EO (by repeat (first|exact Be|refine BI ?_|refine CM ?_)) (fun N M H=>⟨Ext N,?_,?_⟩)
   ·exact FQ
   have P:=d.E M O;have j:∀W,Ext N W->W.cell? ⟨b,o+1,none⟩=some (AL f.name):=fun W e=>((Z.trans M).trans e).cell (t 1 _ rfl) O;have D:∀W,Ext N W->W.cell? ⟨b,o+2,none⟩=some (iV f.val):=fun W e=>((Z.trans M).trans e).cell (t 2 _ rfl) O;have g:∀W,Ext N W->W.cell? ⟨b,o+3,none⟩=some (iV f.bound):=fun W e=>((Z.trans M).trans e).cell (t 3 _ rfl) O;have c:∀W,Ext N W->W.cell? ⟨w.heap.size,0+0,none⟩=some (AL s.sign):=fun W e=>(P.E e O).cell rfl;have l:∀W,Ext N W->W.cell? ⟨w.heap.size,0+8,none⟩=some (iV (s.usual:Int)):=fun W e=>(P.E e O).cell rfl;((refine D_R rfl rfl (fun W a=>AB rfl dz) ?_)<;>(refine D_R rfl rfl (fun W a=>AH rfl (c W a) dz) ?_)<;>(refine D_R rfl rfl (fun W a=>AX rfl dz) ?_)<;>(refine D_R rfl rfl (fun W a=>AG rfl dz) ?_)<;>(refine D_R rfl rfl (fun W a=>AB rfl dz) ?_)<;>(refine D_R rfl rfl (fun W a=>AH rfl (g W a) dz) ?_))
   refine D_E rfl ?_;refine Ag (wnumber_ok N f.bound (X.ext (Z.trans M))) rfl ?_ ?_;rotate_left
   ·rintro V z⟨rfl,i,rfl⟩;rw[numB_of h3 U]at i;cases i
   exact FO
 by_cases B:f.op=15
 ·have r:=F;rw[B]at r;simp[Cb,styL,List.lookup]at r;have hu:s.usual=0:=by rw[<-r]
  have E:s.sign=[89,32]:=by rw[<-r]
  refine go ?_;by_cases a1:f.val=0
  ·refine CQ (rd 0 7 .done) Ap EO (by repeat (first|exact Be|refine BI ?_|refine CM ?_)) (fun N M H=>⟨Ext N,?_,?_⟩)
   ·exact FQ
   have P:=d.E M O;have j:∀W,Ext N W->W.cell? ⟨b,o+1,none⟩=some (AL f.name):=fun W e=>((Z.trans M).trans e).cell (t 1 _ rfl) O;have D:∀W,Ext N W->W.cell? ⟨b,o+2,none⟩=some (iV f.val):=fun W e=>((Z.trans M).trans e).cell (t 2 _ rfl) O;have g:∀W,Ext N W->W.cell? ⟨b,o+3,none⟩=some (iV f.bound):=fun W e=>((Z.trans M).trans e).cell (t 3 _ rfl) O;have c:∀W,Ext N W->W.cell? ⟨w.heap.size,0+0,none⟩=some (AL s.sign):=fun W e=>(P.E e O).cell rfl;have l:∀W,Ext N W->W.cell? ⟨w.heap.size,0+8,none⟩=some (iV (s.usual:Int)):=fun W e=>(P.E e O).cell rfl;((refine D_R rfl rfl (fun W a=>AX rfl dz) ?_)<;>(refine D_R rfl rfl (fun W a=>AG rfl dz) ?_)<;>(refine D_R rfl rfl (fun W a=>AB rfl dz) ?_)<;>(refine D_R rfl rfl (fun W a=>AH rfl (D W a) dz) ?_)<;>(refine D_R rfl rfl (fun W a=>AB rfl dz) ?_)<;>(refine D_R rfl rfl (fun W a=>AH rfl (l W a) dz) ?_)<;>(refine D_neq rfl rfl rfl rfl (fun T=>?_) (fun T=>?_)<;>try omega)<;>refine Bc ?_)
   refine go ?_;have Q:=c _ (Ext.refl _);refine go ?_;have e:sgT f.op f.name f.val f.bound=s.sign:=by simp[sgT,B,a1,E]
   exact GE
  ·refine CQ (rd 0 7 .done) Ap EO (by repeat (first|exact Be|refine BI ?_|refine CM ?_)) (fun N M H=>⟨Ext N,?_,?_⟩)
   ·exact FQ
   have P:=d.E M O;have j:∀W,Ext N W->W.cell? ⟨b,o+1,none⟩=some (AL f.name):=fun W e=>((Z.trans M).trans e).cell (t 1 _ rfl) O;have D:∀W,Ext N W->W.cell? ⟨b,o+2,none⟩=some (iV f.val):=fun W e=>((Z.trans M).trans e).cell (t 2 _ rfl) O;have g:∀W,Ext N W->W.cell? ⟨b,o+3,none⟩=some (iV f.bound):=fun W e=>((Z.trans M).trans e).cell (t 3 _ rfl) O;have c:∀W,Ext N W->W.cell? ⟨w.heap.size,0+0,none⟩=some (AL s.sign):=fun W e=>(P.E e O).cell rfl;have l:∀W,Ext N W->W.cell? ⟨w.heap.size,0+8,none⟩=some (iV (s.usual:Int)):=fun W e=>(P.E e O).cell rfl;((refine D_R rfl rfl (fun W a=>AX rfl dz) ?_)<;>(refine D_R rfl rfl (fun W a=>AG rfl dz) ?_)<;>(refine D_R rfl rfl (fun W a=>AB rfl dz) ?_)<;>(refine D_R rfl rfl (fun W a=>AH rfl (D W a) dz) ?_)<;>(refine D_R rfl rfl (fun W a=>AB rfl dz) ?_)<;>(refine D_R rfl rfl (fun W a=>AH rfl (l W a) dz) ?_)<;>(refine D_neq rfl rfl rfl rfl (fun T=>?_) (fun T=>?_)<;>try omega)<;>refine Bc ?_)
   refine go ?_;have e:sgT f.op f.name f.val f.bound=[90,32]:=by simp[sgT,B,a1]
   exact GE
 by_cases q:f.op=16\/f.op=17
 ·have a8:s.val=9999:=by
   rcases q with h|h<;>rw[h]at F<;>simp[Cb,styL,List.lookup]at F<;>rw[<-F]
  refine go ?_;rcases q with R|K
  ·refine go ?_;by_cases p:f.val=(s.usual:Int)
   ·refine CQ (rd 0 7 .done) Ap EO (by repeat (first|exact Be|refine BI ?_|refine CM ?_)) (fun N M H=>⟨Ext N,?_,?_⟩)
    ·exact FQ
    have P:=d.E M O;have j:∀W,Ext N W->W.cell? ⟨b,o+1,none⟩=some (AL f.name):=fun W e=>((Z.trans M).trans e).cell (t 1 _ rfl) O;have D:∀W,Ext N W->W.cell? ⟨b,o+2,none⟩=some (iV f.val):=fun W e=>((Z.trans M).trans e).cell (t 2 _ rfl) O;have g:∀W,Ext N W->W.cell? ⟨b,o+3,none⟩=some (iV f.bound):=fun W e=>((Z.trans M).trans e).cell (t 3 _ rfl) O;have c:∀W,Ext N W->W.cell? ⟨w.heap.size,0+0,none⟩=some (AL s.sign):=fun W e=>(P.E e O).cell rfl;have l:∀W,Ext N W->W.cell? ⟨w.heap.size,0+8,none⟩=some (iV (s.usual:Int)):=fun W e=>(P.E e O).cell rfl;((refine D_R rfl rfl (fun W a=>AX rfl dz) ?_)<;>(refine D_R rfl rfl (fun W a=>AG rfl dz) ?_)<;>(refine D_R rfl rfl (fun W a=>AB rfl dz) ?_)<;>(refine D_R rfl rfl (fun W a=>AH rfl (D W a) dz) ?_)<;>(refine D_R rfl rfl (fun W a=>AB rfl dz) ?_)<;>(refine D_R rfl rfl (fun W a=>AH rfl (l W a) dz) ?_)<;>(refine D_eql rfl rfl rfl rfl (fun T=>?_) (fun T=>?_)<;>try omega)<;>refine Bc ?_)
    repeat refine nx rfl ?_
    have Q:=c _ (Ext.refl _);(refine AJ (AB rfl ?_)<;>refine AH rfl (Blk.cell ER EQ) ?_)
    refine EB rfl rfl EP ?_;((refine AO ?_;refine BC rfl ?_))
    repeat refine nx rfl ?_
    have e:sgT f.op f.name f.val f.bound=s.sign++[32]:=by
     unfold sgT;rw[x];simp[R,p]
    exact GE
   ·refine CQ (rd 0 7 .done) Ap EO (by repeat (first|exact Be|refine BI ?_|refine CM ?_)) (fun N M H=>⟨Ext N,?_,?_⟩)
    ·exact FQ
    have P:=d.E M O;have j:∀W,Ext N W->W.cell? ⟨b,o+1,none⟩=some (AL f.name):=fun W e=>((Z.trans M).trans e).cell (t 1 _ rfl) O;have D:∀W,Ext N W->W.cell? ⟨b,o+2,none⟩=some (iV f.val):=fun W e=>((Z.trans M).trans e).cell (t 2 _ rfl) O;have g:∀W,Ext N W->W.cell? ⟨b,o+3,none⟩=some (iV f.bound):=fun W e=>((Z.trans M).trans e).cell (t 3 _ rfl) O;have c:∀W,Ext N W->W.cell? ⟨w.heap.size,0+0,none⟩=some (AL s.sign):=fun W e=>(P.E e O).cell rfl;have l:∀W,Ext N W->W.cell? ⟨w.heap.size,0+8,none⟩=some (iV (s.usual:Int)):=fun W e=>(P.E e O).cell rfl;((refine D_R rfl rfl (fun W a=>AX rfl dz) ?_)<;>(refine D_R rfl rfl (fun W a=>AG rfl dz) ?_)<;>(refine D_R rfl rfl (fun W a=>AB rfl dz) ?_)<;>(refine D_R rfl rfl (fun W a=>AH rfl (D W a) dz) ?_)<;>(refine D_R rfl rfl (fun W a=>AB rfl dz) ?_)<;>(refine D_R rfl rfl (fun W a=>AH rfl (l W a) dz) ?_)<;>(refine D_eql rfl rfl rfl rfl (fun T=>?_) (fun T=>?_)<;>try omega)<;>refine Bc ?_)
    refine go ?_;replace Z:=Z.trans M;replace d:=P;clear j D g c l P M H;refine CQ (rd 0 7 (.alt 7 (rd 8 3 .done) .stop)) Ap EO (by repeat (first|exact Be|refine BI ?_|refine CM ?_)) (fun N M H=>⟨Ext N,?_,?_⟩)
    ·exact FQ
    have P:=d.E M O;have j:∀W,Ext N W->W.cell? ⟨b,o+1,none⟩=some (AL f.name):=fun W e=>((Z.trans M).trans e).cell (t 1 _ rfl) O;have D:∀W,Ext N W->W.cell? ⟨b,o+2,none⟩=some (iV f.val):=fun W e=>((Z.trans M).trans e).cell (t 2 _ rfl) O;have g:∀W,Ext N W->W.cell? ⟨b,o+3,none⟩=some (iV f.bound):=fun W e=>((Z.trans M).trans e).cell (t 3 _ rfl) O;have c:∀W,Ext N W->W.cell? ⟨w.heap.size,0+0,none⟩=some (AL s.sign):=fun W e=>(P.E e O).cell rfl;have l:∀W,Ext N W->W.cell? ⟨w.heap.size,0+8,none⟩=some (iV (s.usual:Int)):=fun W e=>(P.E e O).cell rfl;((refine D_R rfl rfl (fun W a=>AB rfl dz) ?_)<;>(refine D_R rfl rfl (fun W a=>AH rfl (c W a) dz) ?_))
    (apply D_R rfl rfl;(intro W a;(refine EB rfl rfl Eg ?_);exact AA ⟨rfl,rfl,rfl⟩))
    ((refine D_R rfl rfl (fun W a=>AX rfl dz) ?_)<;>(refine D_R rfl rfl (fun W a=>AG rfl dz) ?_)<;>(refine D_R rfl rfl (fun W a=>AB rfl dz) ?_)<;>(refine D_R rfl rfl (fun W a=>AH rfl (D W a) dz) ?_))
    refine D_E rfl ?_;refine Ag (wnumber_ok N f.val (X.ext (Z.trans M))) rfl ?_ ?_;rotate_left
    ·rintro V z⟨rfl,i,rfl⟩;rw[numB_of C U]at i;cases i
    rintro v z⟨rfl,_,k⟩;have m:=numT_len (n:=f.val) U;refine AA ⟨Ext z,fun _ e=>k.trans e,Ext.refl _,?_⟩;(apply D_R rfl rfl;(intro W a;(refine EB rfl rfl Eg ?_);exact AA ⟨rfl,rfl,rfl⟩))
    (apply D_R rfl rfl;(intro W a;(refine EB rfl rfl Eg ?_);exact AA ⟨rfl,rfl,rfl⟩))
    ((refine D_R rfl rfl (fun W a=>AO (BC rfl dz)) ?_)<;>refine Bc ?_)
    repeat refine nx rfl ?_
    have e:sgT f.op f.name f.val f.bound=s.sign++[91]++Ci f.val++[93,32]:=by
     unfold sgT;rw[x];simp[R,p]
    exact AC rfl ⟨by rw[e];rfl,(Z.trans M).trans k,fun h=>absurd h I⟩
  ·refine go ?_;by_cases p:f.val=(s.usual:Int)
   ·refine CQ (rd 0 7 .done) Ap EO (by repeat (first|exact Be|refine BI ?_|refine CM ?_)) (fun N M H=>⟨Ext N,?_,?_⟩)
    ·exact FQ
    have P:=d.E M O;have j:∀W,Ext N W->W.cell? ⟨b,o+1,none⟩=some (AL f.name):=fun W e=>((Z.trans M).trans e).cell (t 1 _ rfl) O;have D:∀W,Ext N W->W.cell? ⟨b,o+2,none⟩=some (iV f.val):=fun W e=>((Z.trans M).trans e).cell (t 2 _ rfl) O;have g:∀W,Ext N W->W.cell? ⟨b,o+3,none⟩=some (iV f.bound):=fun W e=>((Z.trans M).trans e).cell (t 3 _ rfl) O;have c:∀W,Ext N W->W.cell? ⟨w.heap.size,0+0,none⟩=some (AL s.sign):=fun W e=>(P.E e O).cell rfl;have l:∀W,Ext N W->W.cell? ⟨w.heap.size,0+8,none⟩=some (iV (s.usual:Int)):=fun W e=>(P.E e O).cell rfl;((refine D_R rfl rfl (fun W a=>AX rfl dz) ?_)<;>(refine D_R rfl rfl (fun W a=>AG rfl dz) ?_)<;>(refine D_R rfl rfl (fun W a=>AB rfl dz) ?_)<;>(refine D_R rfl rfl (fun W a=>AH rfl (D W a) dz) ?_)<;>(refine D_R rfl rfl (fun W a=>AB rfl dz) ?_)<;>(refine D_R rfl rfl (fun W a=>AH rfl (l W a) dz) ?_)<;>(refine D_eql rfl rfl rfl rfl (fun T=>?_) (fun T=>?_)<;>try omega)<;>refine Bc ?_)
    repeat refine nx rfl ?_
    have Q:=c _ (Ext.refl _);(refine AJ (AB rfl ?_)<;>refine AH rfl (Blk.cell ER EQ) ?_)
    refine EB rfl rfl EP ?_;((refine AO ?_;refine BC rfl ?_))
    repeat refine nx rfl ?_
    have e:sgT f.op f.name f.val f.bound=s.sign++[32]:=by
     unfold sgT;rw[x];simp[K,p]
    exact GE
   ·refine CQ (rd 0 7 .done) Ap EO (by repeat (first|exact Be|refine BI ?_|refine CM ?_)) (fun N M H=>⟨Ext N,?_,?_⟩)
    ·exact FQ
    have P:=d.E M O;have j:∀W,Ext N W->W.cell? ⟨b,o+1,none⟩=some (AL f.name):=fun W e=>((Z.trans M).trans e).cell (t 1 _ rfl) O;have D:∀W,Ext N W->W.cell? ⟨b,o+2,none⟩=some (iV f.val):=fun W e=>((Z.trans M).trans e).cell (t 2 _ rfl) O;have g:∀W,Ext N W->W.cell? ⟨b,o+3,none⟩=some (iV f.bound):=fun W e=>((Z.trans M).trans e).cell (t 3 _ rfl) O;have c:∀W,Ext N W->W.cell? ⟨w.heap.size,0+0,none⟩=some (AL s.sign):=fun W e=>(P.E e O).cell rfl;have l:∀W,Ext N W->W.cell? ⟨w.heap.size,0+8,none⟩=some (iV (s.usual:Int)):=fun W e=>(P.E e O).cell rfl;((refine D_R rfl rfl (fun W a=>AX rfl dz) ?_)<;>(refine D_R rfl rfl (fun W a=>AG rfl dz) ?_)<;>(refine D_R rfl rfl (fun W a=>AB rfl dz) ?_)<;>(refine D_R rfl rfl (fun W a=>AH rfl (D W a) dz) ?_)<;>(refine D_R rfl rfl (fun W a=>AB rfl dz) ?_)<;>(refine D_R rfl rfl (fun W a=>AH rfl (l W a) dz) ?_)<;>(refine D_eql rfl rfl rfl rfl (fun T=>?_) (fun T=>?_)<;>try omega)<;>refine Bc ?_)
    refine go ?_;replace Z:=Z.trans M;replace d:=P;clear j D g c l P M H;refine CQ (rd 0 7 (.alt 7 (rd 8 3 .done) .stop)) Ap EO (by repeat (first|exact Be|refine BI ?_|refine CM ?_)) (fun N M H=>⟨Ext N,?_,?_⟩)
    ·exact FQ
    have P:=d.E M O;have j:∀W,Ext N W->W.cell? ⟨b,o+1,none⟩=some (AL f.name):=fun W e=>((Z.trans M).trans e).cell (t 1 _ rfl) O;have D:∀W,Ext N W->W.cell? ⟨b,o+2,none⟩=some (iV f.val):=fun W e=>((Z.trans M).trans e).cell (t 2 _ rfl) O;have g:∀W,Ext N W->W.cell? ⟨b,o+3,none⟩=some (iV f.bound):=fun W e=>((Z.trans M).trans e).cell (t 3 _ rfl) O;have c:∀W,Ext N W->W.cell? ⟨w.heap.size,0+0,none⟩=some (AL s.sign):=fun W e=>(P.E e O).cell rfl;have l:∀W,Ext N W->W.cell? ⟨w.heap.size,0+8,none⟩=some (iV (s.usual:Int)):=fun W e=>(P.E e O).cell rfl;((refine D_R rfl rfl (fun W a=>AB rfl dz) ?_)<;>(refine D_R rfl rfl (fun W a=>AH rfl (c W a) dz) ?_))
    (apply D_R rfl rfl;(intro W a;(refine EB rfl rfl Eg ?_);exact AA ⟨rfl,rfl,rfl⟩))
    ((refine D_R rfl rfl (fun W a=>AX rfl dz) ?_)<;>(refine D_R rfl rfl (fun W a=>AG rfl dz) ?_)<;>(refine D_R rfl rfl (fun W a=>AB rfl dz) ?_)<;>(refine D_R rfl rfl (fun W a=>AH rfl (D W a) dz) ?_))
    refine D_E rfl ?_;refine Ag (wnumber_ok N f.val (X.ext (Z.trans M))) rfl ?_ ?_;rotate_left
    ·rintro V z⟨rfl,i,rfl⟩;rw[numB_of C U]at i;cases i
    rintro v z⟨rfl,_,k⟩;have m:=numT_len (n:=f.val) U;refine AA ⟨Ext z,fun _ e=>k.trans e,Ext.refl _,?_⟩;(apply D_R rfl rfl;(intro W a;(refine EB rfl rfl Eg ?_);exact AA ⟨rfl,rfl,rfl⟩))
    (apply D_R rfl rfl;(intro W a;(refine EB rfl rfl Eg ?_);exact AA ⟨rfl,rfl,rfl⟩))
    ((refine D_R rfl rfl (fun W a=>AO (BC rfl dz)) ?_)<;>refine Bc ?_)
    repeat refine nx rfl ?_
    have e:sgT f.op f.name f.val f.bound=s.sign++[91]++Ci f.val++[93,32]:=by
     unfold sgT;rw[x];simp[K,p]
    exact AC rfl ⟨by rw[e];rfl,(Z.trans M).trans k,fun h=>absurd h I⟩
 ·refine go ?_;have Q:w1.cell? ⟨w.heap.size,0+0,none⟩=some (AL s.sign):=d.cell rfl;refine go ?_;have e:sgT f.op f.name f.val f.bound=s.sign:=by simp[sgT,I,u,B,q,x]
  exact AC rfl ⟨by rw[e];rfl,Z,fun h=>absurd h I⟩
inductive Pc where
 |txt (t:LU)
 |sub (f:Fml) (n:Nat)
def subC(b o n:Nat):LV:=[AL [],.pointer (some ⟨b,o,none⟩),iV (n:Int)]
def txtC(t:LU):LV:=[AL t,.pointer none,iV 0]
def pcFits(ok:Nat->Prop)(w:World)(c:LV):Pc->Prop
 | .txt t=>c=txtC t
 | .sub f n=>∃b o,c=subC b o n/\PF ok w b o f
def pcR:Rp Pc where
 fits:=pcFits
 size:=3
 len {ok w c a} h:=by
  cases a with
  |txt t=>have h:c=txtC t:=h;subst h;rfl
  |sub f n=>obtain⟨b,o,rfl,_⟩:=h;rfl
 one {ok w c a} h:=by
  cases a with
  |txt t=>
   have h:c=txtC t:=h;subst h;intro u g;simp[txtC]at g;rcases g with rfl|rfl|rfl<;>rfl
  |sub f n=>obtain⟨b,o,rfl,_⟩:=h;intro u g;simp[subC]at g;rcases g with rfl|rfl|rfl<;>rfl
 E {ok X w w' c a} h k hX:=by
  cases a with
  |txt t=>exact h
  |sub f n=>obtain⟨b,o,e,y⟩:=h;exact⟨b,o,e,y.E k hX⟩
 lt {ok w c a} h:=by
  cases a with
  |txt t=>exact h
  |sub f n=>obtain⟨b,o,e,y⟩:=h;exact⟨b,o,e,y.lt⟩
 mono {ok ok' w c a} h hk:=by
  cases a with
  |txt t=>exact h
  |sub f n=>obtain⟨b,o,e,y⟩:=h;exact⟨b,o,e,y.mono hk⟩
def argP(next:Nat)(D:LU):LF->List Pc
 | []=>[]
 |a::l=>.txt D:: .sub a next::argP next D l
def DA(first next:Nat)(D:LU):LF->List Pc
 | []=>[]
 |a::l=>.sub a first::argP next D l
theorem argP_len(next:Nat)(D:LU):∀l,(argP next D l).length=2*l.length
 | []=>rfl
 |a::l=>by simp[argP,argP_len next D l];omega
theorem argP_snoc(next:Nat)(D:LU)(a:Fml):∀l,argP next D (l++[a])=argP next D l++[.txt D,.sub a next]
 | []=>rfl
 |c::l=>by simp[argP,argP_snoc next D a l]
theorem argsP_snoc{first next:Nat}{D:LU}{a:Fml}{l:LF}(h:l≠[]):DA first next D (l++[a])=DA first next D l++[.txt D,.sub a next]:=by
 cases l with
 |nil=>exact absurd rfl h
 |cons c l=>simp[DA,argP_snoc]
theorem argsP_len(first next:Nat)(D:LU)(l:LF):(DA first next D l).length<=2*l.length:=by
 cases l with
 |nil=>simp[DA]
 |cons a l=>simp[DA,argP_len];omega
def Dd(s:Sty)(n:Nat):List Pc:=if s.level<n then[.txt [40]]else[]
def Dz(s:Sty)(n:Nat):List Pc:=if s.level<n then[.txt [41]]else[]
def C9(D:LU)(k:Nat):List Pc:=if k<2 then[.txt D]else[]
def pcs(s:Sty)(n:Nat)(f:Fml):List Pc:=
 Dd s n++C9 (sgT f.op f.name f.val f.bound) f.args.length++DA s.first s.next (sgT f.op f.name f.val f.bound) f.args++Dz s n
structure PS(C B:Nat)(v:Value)(L:List (LV))(ps:List Pc)(W:World):Prop where
 own:W.ownsRow B 160 3 v ps.length L.flatten
 rs:RsAt pcR (fun b=>b<C) W L ps
 le:C<=B
theorem PS.ext{C B:Nat}{v:Value}{L:List (LV)}{l:List Pc}{W Z:World}(h:PS C B v L l W)(k:Ext W Z):PS C B v L l Z:=⟨As h.own k,h.rs.ext k,h.le⟩
theorem PS.app{C B:Nat}{v v2:Value}{L M:List (LV)}{l qs:List Pc}{W1 j:World}(h:PS C B v L l W1)(a:Apd W1 j B 160 3 v v2 (l.length+qs.length) (L.flatten++M.flatten))(K:RsAt pcR (fun b=>b<C) W1 M qs):PS C B v2 (L++M) (l++qs) j:=by
 have c:∀b,b<C->b∉v.ownBlock.toList:=fun b S V=>by
  have:=(An h.own (Option.mem_toList.1 V)).1;have:=h.le;omega
 refine⟨?_,(h.rs.E a.E c).app (K.E a.E c),h.le⟩;rw[List.length_append,List.flatten_append];exact a.own
theorem PS.nil{C B:Nat}(h:C<=B)(W:World):PS C B (.slice none 0 0) [] [] W:=⟨⟨by simp,.inl ⟨rfl,rfl⟩⟩,RsAt.nil,h⟩
theorem txt_fits(ok:Nat->Prop)(w:World)(t:LU):RsAt pcR ok w [txtC t] [.txt t]:=RsAt.one (R:=pcR) (a:=.txt t) rfl
theorem PS.form{C B:Nat}{v:Value}{L:List (LV)}{l:List Pc}{W:World}(h:PS C B v L l W):∃a c,v=.slice a l.length c:=by
 rcases h.own.2 with⟨rfl,t⟩|⟨g,E,G,rfl,_⟩
 ·exact⟨none,0,by rw[t]⟩
 ·exact Gq
def outP:Pc->LU
 | .txt t=>t
 | .sub f n=>prF n f
theorem out_argP(next:Nat)(D:LU):∀l,(argP next D l).flatMap outP=prR next D l
 | []=>by simp[argP,prR]
 |a::l=>by simp[argP,prR,outP,out_argP next D l]
theorem out_pcs{f:Fml}{s:Sty}(F:Cb f.op=some s)(n:Nat):(pcs s n f).flatMap outP=prF n f:=by
 have P:Br f.op=s:=by unfold Br;rw[F];rfl
 cases f with
 |mk op nm v b args=>
  have P:Br op=s:=P;simp only[prF,P]
  have Q:(C9 (sgT op nm v b) args.length++DA s.first s.next (sgT op nm v b) args).flatMap outP=prA s.first s.next (sgT op nm v b) args:=by
   cases args with
   |nil=>simp[C9,DA,prA,outP]
   |cons a l=>
    cases l with
    |nil=>simp[C9,DA,argP,prA,prR,outP]
    |cons c l=>
     have W:¬(l.length+1+1<2):=by omega
     simp[C9,DA,prA,outP,out_argP,W]
  have e:pcs s n (.mk op nm v b args)=Dd s n++(C9 (sgT op nm v b) args.length++DA s.first s.next (sgT op nm v b) args)++Dz s n:=by
   show Dd s n++C9 (sgT op nm v b) args.length++DA s.first s.next (sgT op nm v b) args++Dz s n=_
   simp
  rw[e,List.flatMap_append,List.flatMap_append,Q];by_cases K:s.level<n
  ·simp[Dd,Dz,K,wrapT,outP]
  ·simp[Dd,Dz,K,wrapT]
theorem split_node{f:Fml}{s:Sty}(F:Cb f.op=some s):DX f.op f.name f.val f.bound f.args.length=(nodeC s f&&(!decide (f.op=3)||BH f.name)):=by
 unfold DX nodeC;rw[F];by_cases R:f.op=3
 ·simp only[R,if_true,decide_true,Bool.not_true,Bool.false_or,Bool.true_or,Bool.and_true]
  congr 1
  rw[Bool.eq_iff_iff];simp only[Bool.and_eq_true,decide_eq_true_eq];constructor
  ·rintro⟨a,b,c,d,e,g⟩;exact⟨⟨⟨a,b⟩,c,d⟩,e,g⟩
  ·rintro⟨⟨⟨a,b⟩,c,d⟩,e,g⟩;exact⟨a,b,c,d,e,g⟩
 ·simp only[R,if_false,decide_false,Bool.not_false,Bool.false_or,Bool.true_or,Bool.and_true];rw[Bool.eq_iff_iff];simp only[Bool.and_eq_true,decide_eq_true_eq];constructor
  ·rintro⟨⟨a,b,c,d,e,g⟩,k⟩;exact⟨⟨⟨⟨a,b⟩,c,d⟩,e,g⟩,k⟩
  ·rintro⟨⟨⟨⟨a,b⟩,c,d⟩,e,g⟩,k⟩;exact⟨⟨a,b,c,d,e,g⟩,k⟩
set_option maxHeartbeats 3200000 in
theorem pieces_ok(w:World)(C:Nat)(hC:C<=w.heap.size)(s:Sty)(b o n:Nat)(f:Fml)(hf:PF (fun b=>b<C) w b o f)(F:Cb f.op=some s)(hn:n<=9)(hk:f.args.length<=1000000)(hG:GP w):
  FnP Zp 104 [Bu s,.pointer (some ⟨b,o,none⟩),iV (n:Int)] w
   (fun v w'=>Ext w w'/\DX f.op f.name f.val f.bound f.args.length=true/\∃L B,w.heap.size<=B/\PS C B v L (pcs s n f) w')
   (fun ch w'=>ch=unp/\Ext w w'/\DX f.op f.name f.val f.bound f.args.length=false):=by
 obtain⟨_,a,c,LA,a4,b7,a0⟩:=hf.form;have d2:(sgT f.op f.name f.val f.bound).length<=1000000\/True:=.inr trivial;refine Az Tryz.func104 rfl Tryz.ntmps104 nlr EO (go ?_);refine A3 (L:=Ct s) rfl (fun Q A=>?_);have b1:=A.D;have h:=A.E;refine go ?_;refine Ag (prcheck_ok Q s b o f a c (a4.E h O)) rfl ?_ ?_;rotate_left
 ·rintro ch w2⟨rfl,q,hb⟩;refine go ?_;exact Ab ⟨rfl,h.trans q,by rw[split_node F,hb];rfl⟩
 rintro _ w2⟨rfl,q,a3⟩;repeat refine nx rfl ?_
 have b2:=b1.E q O;have b3:=q;have z1:=A.size;replace q:=h.trans q;have z2:=q.size;refine AJ (AO (Ay rfl ?_));repeat refine nx rfl ?_
 have l1:w2.cell? ⟨w.heap.size,0+1,none⟩=some (iV (s.level:Int)):=b2.cell rfl;refine CA (α:=Value×List (LV)) (fun x=>[(1,.pointer (some ⟨b,o,none⟩)),(2,iV (n:Int)),(3,.pointer (sm w.heap.size)),(7,x.1),(16,.bool (decide (s.level<n)))]) (fun x W=>x=(.slice none 0 0,[])/\w2=W) ?_ ?_
 ·by_cases K:s.level<n
  ·rw[decide_eq_true K];refine go ?_;exact Aj (_,_) ag ⟨rfl,rfl⟩
  ·rw[decide_eq_false K];refine go ?_;exact Aj (_,_) ag ⟨rfl,rfl⟩
 rintro _ _ f3⟨rfl,rfl⟩;refine CA (α:=Value×List (LV)) (fun x=>[(1,.pointer (some ⟨b,o,none⟩)),(2,iV (n:Int)),(3,.pointer (sm w.heap.size)),(7,x.1)]) (fun x W=>Ext Q W/\PS C Q.heap.size x.1 x.2 (Dd s n) W) ?_ ?_
 ·by_cases K:s.level<n
  ·rw[decide_eq_true K];refine go ?_;have d0:([]:List Pc).length=0:=rfl;refine AP (out:=txtC [40]) rfl U EO (fun w3 n3=>?_);have m:=(n3).own (n:=1) (size:=3) rfl ET (Nat.le_refl _);have l:=(PS.nil (Nat.le_trans hC A.E.size) w2).ext (n3).E;have zA:=(n3).size;refine Ax (ok:=Af) (v:=.slice none 0 0) rfl rfl l.own (Aa m fun _ _=>trivial) U rfl rfl Eu U U U (fun v3 w4 j=>?_);have i:Ext Q w4:=((b3).trans (n3).E).E j.E (fun y E=>(An l.own (Option.mem_toList.1 E)).1);refine go ?_;refine Aj (v3,[]++[txtC [40]]) ag ⟨i,?_⟩;rw[Dd,if_pos K];exact l.app (qs:=[.txt [40]]) (M:=[txtC [40]]) (by simpa using j) (txt_fits _ _ _)
  ·rw[decide_eq_false K];refine go ?_;refine Aj (_,[]) ag ⟨b3,?_⟩;rw[Dd,if_neg K];exact PS.nil (Nat.le_trans hC A.E.size) _
 rintro⟨v,L⟩w5 f5⟨z,t⟩;simp only at t⊢;refine go ?_;have T:∀W,Ext Q W->Blk W w.heap.size 163 (Ct s):=fun W e=>b1.E e O;have b5:=T w5 z;refine go ?_;refine Ag (signOf_ok w5 s b o f _ (a4.E (h.trans z) O) F a3 (hG.ext (h.trans z))) rfl ?_ ?_;rotate_left
 ·rintro ch w6⟨rfl,N,X,hb⟩;refine go ?_;exact Ab ⟨rfl,(h.trans z).trans N,by rw[split_node F,a3];simp[X,hb]⟩
 rintro _ w6⟨rfl,N,c5⟩
 have a9:DX f.op f.name f.val f.bound f.args.length=true:=by
  rw[split_node F,a3];by_cases X:f.op=3
  ·simp[c5 X]
  ·simp[X]
 ((refine AO ?_;refine BC rfl ?_))
 repeat refine nx rfl ?_
 have G:Ext Q w6:=z.trans N;have d3:=G.size;replace t:=t.ext N;clear z N b5;generalize c7:sgT f.op f.name f.val f.bound=sg;have V:∀W,Ext Q W->W.cell? ⟨b,o+4,none⟩=some (.slice a f.args.length c):=fun W e=>e.cell (h.cell (a4 4 _ rfl) O) O;have fa6:=V w6 G;have d1:(Dd s n).length<=1:=by unfold Dd;split<;>simp
 refine CA (α:=Unit) (fun _=>[(1,.pointer (some ⟨b,o,none⟩)),(2,iV (n:Int)),(3,.pointer (sm w.heap.size)),(7,v),(8,AL sg),(29,.bool (decide (f.args.length<2)))]) (fun _ W=>w6=W) ?_ ?_
 ·by_cases K:f.args.length<2
  ·rw[decide_eq_true K];exact FK
  ·rw[decide_eq_false K];exact FK
 rintro _ _ f6 rfl;refine CA (α:=Value×List (LV)) (fun x=>[(1,.pointer (some ⟨b,o,none⟩)),(2,iV (n:Int)),(3,.pointer (sm w.heap.size)),(7,x.1),(8,AL sg)]) (fun x W=>Ext Q W/\PS C Q.heap.size x.1 x.2 (Dd s n++C9 sg f.args.length) W) ?_ ?_
 ·by_cases K:f.args.length<2
  ·rw[decide_eq_true K];refine go ?_;refine AP (out:=txtC sg) rfl U EO (fun w7 n7=>?_);have m:=(n7).own (n:=1) (size:=3) rfl ET (Nat.le_refl _);have l:=(t).ext (n7).E;have zA:=(n7).size;refine Ax (ok:=Af) (v:=v) rfl rfl l.own (Aa m fun _ _=>trivial) U rfl rfl Eu U U U (fun v7 P j=>?_);have i:Ext Q P:=((G).trans (n7).E).E j.E (fun y E=>(An l.own (Option.mem_toList.1 E)).1);refine go ?_;refine Aj (v7,L++[txtC sg]) ag ⟨i,?_⟩;rw[C9,if_pos K];exact l.app (qs:=[.txt sg]) (M:=[txtC sg]) (by simpa using j) (txt_fits _ _ _)
  ·rw[decide_eq_false K];refine go ?_;refine Aj (v,L) ag ⟨G,?_⟩;rw[C9,if_neg K,List.append_nil];exact t
 clear t G fa6;rintro⟨v0,L0⟩w7 f7⟨k7,a1⟩;simp only at a1⊢;refine go ?_;have b6:=V w7 k7;refine go ?_
 have c8:(Dd s n++C9 sg f.args.length).length<=2:=by
  rw[List.length_append];have:(C9 sg f.args.length).length<=1:=by unfold C9;split<;>simp
  omega
 refine Ar (α:=Nat×Value×List (LV)) (fun x=>[(1,.pointer (some ⟨b,o,none⟩)),(2,iV (n:Int)),(3,.pointer (sm w.heap.size)),(7,x.2.1),(8,AL sg),(39,iV (f.args.length:Int)),(40,iV (x.1:Int))])
  (fun x W=>x.1<=f.args.length/\Ext Q W/\PS C Q.heap.size x.2.1 x.2.2 (Dd s n++C9 sg f.args.length++DA s.first s.next sg (f.args.take x.1)) W) (fun x=>f.args.length-x.1)
  (0,v0,L0) ag ⟨by simp,k7,by simp only[List.take_zero,DA,List.append_nil];exact a1⟩ ?_
 clear a1 k7 b6;rintro⟨k,v8,S⟩P f8⟨c2,g,u⟩;simp only at c2 g u⊢;refine go ?_;have z8:=g.size;by_cases a7:k<f.args.length
 ·obtain⟨x,hx⟩:∃x,f.args[k]?=some x:=⟨_,List.getElem?_eq_getElem a7⟩;obtain⟨D,a5⟩:∃D,LA[k]?=some D:=⟨_,List.getElem?_eq_getElem (by rw[a0.1];exact a7)⟩;obtain⟨I,H,rfl,b9,c0⟩:=b7.fml a0.2.1 a5 a7;have b0:∀W,Ext w W->PF (fun b=>b<C) W I (H+k*5) x:=fun W e=>⟨b9,D,a0.2.1 D (List.mem_of_getElem? a5),c0.E e O,(a0.2.2 k D x a5 hx).ext e⟩;have htk:f.args.take (k+1)=f.args.take k++[x]:=by rw[List.take_add_one,hx];rfl
  have b8:=argsP_len s.first s.next sg (f.args.take k)
  have htl:(f.args.take k).length=k:=by simp;omega
  have c4:(Dd s n++C9 sg f.args.length++DA s.first s.next sg (f.args.take k)).length<=2+2*k:=by rw[List.length_append];omega
  have g2:∀W,Ext Q W->W.cell? ⟨w.heap.size,0+2,none⟩=some (iV (s.first:Int)):=fun W e=>(T W e).cell rfl;have g3:∀W,Ext Q W->W.cell? ⟨w.heap.size,0+3,none⟩=some (iV (s.next:Int)):=fun W e=>(T W e).cell rfl;refine go ?_;by_cases c9:0<k
  ·refine go ?_;refine Ac (rd 0 12 (.alt 12 (.alt 13 (.read 14 .done) .stop) .stop)) Ap EO (fun wd r ed=>⟨Ext Q,?_,?_⟩)
   ·exact g.trans r
   have a2:=u.ext r;have p:=g.trans r;have zd:=p.size;((refine D_R rfl rfl (fun W d=>Cq dz) ?_)<;>(refine D_R rfl rfl (fun W d=>BC rfl dz) ?_)<;>(apply D_R rfl rfl;(intro W d;refine BO EQ EQ ?_;exact AA ⟨rfl,rfl,rfl⟩))<;>(refine D_R rfl rfl (fun W d=>AX rfl dz) ?_)<;>(refine D_R rfl rfl (fun W d=>AG rfl dz) ?_)<;>(refine D_R rfl rfl (fun W d=>AB rfl dz) ?_)<;>(refine D_R rfl rfl (fun W d=>AH rfl (V W d) dz) ?_)<;>(refine D_R rfl rfl (fun W d=>AS rfl dz) ?_)<;>(apply D_R rfl rfl;(intro W d;refine CG rfl rfl rfl U ?_;exact AA ⟨rfl,rfl,rfl⟩))<;>(refine D_R rfl rfl (fun W d=>AB rfl dz) ?_)<;>(refine D_R rfl rfl (fun W d=>AH rfl (g3 W d) dz) ?_)<;>(apply D_R rfl rfl;(intro W d;refine BO EQ EQ ?_;exact AA ⟨rfl,rfl,rfl⟩)))
   refine D_E rfl ?_;refine AP (out:=txtC sg++subC I (H+k*5) s.next) rfl U EO (fun wA Z=>?_);have m:=Z.own (n:=2) (size:=3) rfl ET (Nat.le_refl _);have l:=a2.ext Z.E;have zA:=Z.size;refine AA ⟨Ext Q,fun _ e=>e,p.trans Z.E,?_⟩;refine D_E rfl ?_;refine Ax (ok:=Af) (v:=v8) rfl rfl l.own (Aa m fun _ _=>trivial) U rfl rfl Eu U U U (fun vB wB j=>?_);have i:Ext Q wB:=(p.trans Z.E).E j.E (fun y E=>(An l.own (Option.mem_toList.1 E)).1);refine AA ⟨Ext Q,fun _ e=>e,i,?_⟩;refine go ?_;refine⟨(k+1,vB,S++[txtC sg,subC I (H+k*5) s.next]),⟨rfl,⟨rfl,rfl,rfl,rfl,rfl,rfl,?_,trivial⟩,⟨by simp only;omega,i,?_⟩⟩,by simp only;omega⟩
   ·show iV ((k:Int)+1)=_;rw[Int.natCast_add];rfl
   ·simp only
    have c6:f.args.take k≠[]:=by
     intro h0;rw[h0]at htl;simp at htl;omega
    rw[htk,argsP_snoc c6,<-List.append_assoc];refine l.app (qs:=[.txt sg,.sub x s.next]) (M:=[txtC sg,subC I (H+k*5) s.next]) (by simpa using j) ?_;exact(txt_fits _ _ _).snoc (a:=Pc.sub x s.next) ⟨I,H+k*5,rfl,b0 _ (h.trans (p.trans Z.E))⟩
  ·have c1:k=0:=by omega
   subst c1;refine go ?_;refine Ac (rd 0 10 (.alt 10 (.alt 11 (.read 12 .done) .stop) .stop)) Ap EO (fun wd r ed=>⟨Ext Q,?_,?_⟩)
   ·exact g.trans r
   have a2:=u.ext r;have p:=g.trans r;have zd:=p.size;((refine D_R rfl rfl (fun W d=>Cq dz) ?_)<;>(refine D_R rfl rfl (fun W d=>AX rfl dz) ?_)<;>(refine D_R rfl rfl (fun W d=>AG rfl dz) ?_)<;>(refine D_R rfl rfl (fun W d=>AB rfl dz) ?_)<;>(refine D_R rfl rfl (fun W d=>AH rfl (V W d) dz) ?_)<;>(refine D_R rfl rfl (fun W d=>AS rfl dz) ?_)<;>(apply D_R rfl rfl;(intro W d;refine CG rfl rfl rfl U ?_;exact AA ⟨rfl,rfl,rfl⟩))<;>(refine D_R rfl rfl (fun W d=>AB rfl dz) ?_)<;>(refine D_R rfl rfl (fun W d=>AH rfl (g2 W d) dz) ?_)<;>(apply D_R rfl rfl;(intro W d;refine BO EQ EQ ?_;exact AA ⟨rfl,rfl,rfl⟩)))
   refine D_E rfl ?_;refine AP (out:=subC I (H+0*5) s.first) rfl U EO (fun wA Z=>?_);have m:=Z.own (n:=1) (size:=3) rfl ET (Nat.le_refl _);have l:=a2.ext Z.E;have zA:=Z.size;refine AA ⟨Ext Q,fun _ e=>e,p.trans Z.E,?_⟩;refine D_E rfl ?_;refine Ax (ok:=Af) (v:=v8) rfl rfl l.own (Aa m fun _ _=>trivial) U rfl rfl (by intro y E;simp[txtC,subC]at E;rcases E with rfl|rfl|rfl<;>rfl) U U U (fun vB wB j=>?_);have i:Ext Q wB:=(p.trans Z.E).E j.E (fun y E=>(An l.own (Option.mem_toList.1 E)).1);refine AA ⟨Ext Q,fun _ e=>e,i,?_⟩;refine go ?_;refine⟨(0+1,vB,S++[subC I (H+0*5) s.first]),⟨rfl,ag,⟨by simp only;omega,i,?_⟩⟩,by simp only;omega⟩;simp only;rw[htk,List.take_zero,List.nil_append];rw[List.take_zero]at l j;simp only[DA,argP,List.append_nil]at l j⊢;refine l.app (qs:=[.sub x s.first]) (M:=[subC I (H+0*5) s.first]) (by simpa using j) ?_;exact RsAt.one (R:=pcR) (a:=Pc.sub x s.first) ⟨I,H+0*5,rfl,b0 _ (h.trans (p.trans Z.E))⟩
 ·have c3:k=f.args.length:=by omega
  subst c3;rw[List.take_length]at u;have b8:=argsP_len s.first s.next sg f.args
  have c4:(Dd s n++C9 sg f.args.length++DA s.first s.next sg f.args).length<=2+2*f.args.length:=by rw[List.length_append];omega
  refine go ?_;have l8:P.cell? ⟨w.heap.size,0+1,none⟩=some (iV (s.level:Int)):=(T P g).cell rfl;have a8:pcs s n f=Dd s n++C9 sg f.args.length++DA s.first s.next sg f.args++Dz s n:=by unfold pcs;rw[c7]
  by_cases K:s.level<n
  ·refine go ?_;refine AP (out:=txtC [41]) rfl U EO (fun w9 n9=>?_);have m:=(n9).own (n:=1) (size:=3) rfl ET (Nat.le_refl _);have l:=(u).ext (n9).E;have zA:=(n9).size;refine Ax (ok:=Af) (v:=v8) rfl rfl l.own (Aa m fun _ _=>trivial) U rfl rfl Eu U U U (fun v9 b4 j=>?_);have i:Ext Q b4:=((g).trans (n9).E).E j.E (fun y E=>(An l.own (Option.mem_toList.1 E)).1);refine go ?_
   have a6:PS C Q.heap.size v9 (S++[txtC [41]]) (pcs s n f) b4:=by
    rw[a8,Dz,if_pos K];exact l.app (qs:=[.txt [41]]) (M:=[txtC [41]]) (by simpa using j) (txt_fits _ _ _)
   exact AC rfl ⟨h.trans i,a9,_,_,A.E.size,a6⟩
  ·refine go ?_
   have a6:PS C Q.heap.size v8 S (pcs s n f) P:=by
    rw[a8,Dz,if_neg K,List.append_nil];exact u
   exact AC rfl ⟨h.trans g,a9,_,_,A.E.size,a6⟩
theorem splice_front{d X c:LV}{k:Nat}:splice (d++X) (d.length+k) c=d++splice X k c:=by
 simp only[splice];rw[List.take_length_add_append,Nat.add_assoc,List.drop_length_add_append,List.append_assoc]
theorem splice_row{c rest:LV}(T:c.length=3):∀(M:List (LV))(i:Nat),(∀d∈M,d.length=3)->i<M.length->splice (M.flatten++rest) (i*3) c=(M.set i c).flatten++rest
 | [],i,_,h=>by simp at h
 |d::M,0,hM,_=>by
  have C:=hM d O;simp only[splice,List.flatten_cons,List.set_cons_zero,Nat.zero_mul,List.take_zero,List.nil_append,Nat.zero_add,List.append_assoc];rw[show c.length=d.length by omega,List.drop_left]
 |d::M,i+1,hM,h=>by
  have C:=hM d O;have a:=splice_row (rest:=rest) T M i (fun x V=>hM x (by simp[V])) Ed;rw[List.flatten_cons,List.set_cons_succ,List.flatten_cons,List.append_assoc,show(i+1)*3=d.length+i*3 by rw[C,Nat.succ_mul];omega,splice_front,a,List.append_assoc]
theorem own_rows{w:World}{B e n cap:Nat}{a:Option Addr}{L:List (LV)}(h:w.ownsRow B e 3 (.slice a n cap) n L.flatten)(I:0<n):
  ∃g rest,a=some ⟨g,0,none⟩/\B<=g/\Blk w g e (L.flatten++rest)/\∀(W:World)(M:List (LV)),Blk W g e (M.flatten++rest)->M.flatten.length=L.flatten.length->W.ownsRow B e 3 (.slice a n cap) n M.flatten:=by
 obtain⟨K,p⟩:=h;rcases p with⟨_,rfl⟩|⟨g,V,G,p,c,f,Z,d,R,b⟩
 ·omega
 ·cases p;refine⟨g,G.toList.drop (n*3),rfl,c,?_,fun W M S s=>⟨by rw[s];exact K,.inr ⟨g,cap,(M.flatten++G.toList.drop (n*3)).toArray,rfl,c,S,Z,d,?_,?_⟩⟩⟩
  ·rw[<-b,List.take_append_drop];simpa[Blk]using f
  ·have:G.toList.length=G.size:=by simp
   have C:n*3<=G.toList.length:=by
    have:=congrArg List.length b;rw[List.length_take,K]at this;omega
   simp only[List.size_toArray,List.length_append,List.length_drop];rw[s,K];omega
  ·rw[show n*3=M.flatten.length by rw[s,K]];simp
theorem row_cells{w:World}{g:Nat}{T:TypeId}{M:List (LV)}{rest:LV}(h:Blk w g T (M.flatten++rest))(A:∀d∈M,d.length=3){i:Nat}{c:LV}(a:M[i]?=some c):Cells w g (0+i*3) c:=by
 intro j u b;have Z:=CR 3 M i j c u A a b;have x:=(List.getElem?_eq_some_iff.1 Z).1;have:=h.cells (i*3+j) u (by rw[List.getElem?_append_left x];exact Z);rw[show 0+i*3+j=0+(i*3+j) by omega];exact this
def RevK(L M:List (LV))(k:Nat):Prop:=M.length=L.length/\∀x,x<L.length->M[x]?=if x<k\/L.length<=x+k then L[L.length-1-x]? else L[x]?
theorem RevK.done{L M:List (LV)}{k:Nat}(h:RevK L M k)(W:L.length<=2*k+1):M=L.reverse:=by
 refine List.ext_getElem? fun x=>?_;by_cases V:x<L.length
 ·rw[h.2 x V,List.getElem?_reverse V]
  split
  ·rfl
  ·rw[show L.length-1-x=x by omega]
 ·rw[List.getElem?_eq_none (by rw[h.1];omega),List.getElem?_eq_none EP]
theorem RevK.step{L M:List (LV)}{k:Nat}{c d:LV}(h:RevK L M k)(W:2*k+1<L.length)(T:L[k]?=some c)(C:L[L.length-1-k]?=some d):RevK L ((M.set k d).set (L.length-1-k) c) (k+1):=by
 refine⟨by simp[h.1],fun x V=>?_⟩;by_cases Z:x=L.length-1-k
 ·subst Z;rw[List.getElem?_set_self (by simp[h.1];omega),if_pos U];rw[show L.length-1-(L.length-1-k)=k by omega,T]
 ·rw[List.getElem?_set_ne (Ne.symm Z)];by_cases R:x=k
  ·subst R;rw[List.getElem?_set_self (by rw[h.1];omega),if_pos U,C]
  ·rw[List.getElem?_set_ne (Ne.symm R),h.2 x V];by_cases B:x<k\/L.length<=x+k
   ·rw[if_pos B,if_pos U]
   ·rw[if_neg B,if_neg U]
set_option maxHeartbeats 1600000 in
theorem reverse_ok(w:World)(C B:Nat)(v:Value)(L:List (LV))(l:List Pc)(h:PS C B v L l w):
  Fn Zp 105 [v] w fun _ w'=>PS C B v L.reverse l.reverse w'/\Keep v.ownBlock.toList w w':=by
 obtain⟨a,u,rfl⟩:=h.form;have Q:L.length=l.length:=h.rs.1;have A:∀d∈L,d.length=3:=h.rs.len
 have a4:∀W,Keep (Value.slice a l.length u).ownBlock.toList w W->RsAt pcR (fun b=>b<C) W L.reverse l.reverse:=fun W k=>by
  have hX:∀b,b<C->b∉(Value.slice a l.length u).ownBlock.toList:=fun b hb V=>by
   have:=(An h.own (Option.mem_toList.1 V)).1;have:=h.le;omega
  have F:=h.rs.E k hX;refine⟨by simp[Q],fun i c p T y=>?_⟩;have hi:i<L.length:=by have:=(List.getElem?_eq_some_iff.1 T).1;simpa using this
  rw[List.getElem?_reverse hi]at T;rw[List.getElem?_reverse U,<-Q]at y;exact F.2 _ c p T y
 refine AN Tryz.func105 rfl Tryz.ntmps105 (go ?_)
 have b0:l.length<=9223372036854775807:=by
  obtain⟨_,D⟩:=h.own;rcases D with⟨_,h0⟩|⟨g,a5,a6,D,hB,hg,h1,h2,h3,h4⟩
  ·omega
  ·cases D;simp only[maxLen]at h2;omega
 refine go ?_;by_cases I:l.length=0
 ·have a3:l=[]:=List.length_eq_zero_iff.1 I;have a0:L=[]:=List.length_eq_zero_iff.1 U;refine Ar (α:=Unit) (fun _=>[(2,iV 0),(3,iV (-1))]) (fun _ W=>W=w) (fun _=>0) () ⟨rfl,congrArg (Value.int .i64) (by rw[I];rfl),trivial⟩ rfl ?_;rintro _ W f1 rfl;refine go ?_;refine A1 rfl ⟨?_,Keep.refl _ _⟩;subst a3;subst a0;exact h
 ·obtain⟨g,X,rfl,a7,a2,a1⟩:=own_rows h.own U
  refine Ar (α:=Nat×List (LV)) (fun x=>[(0,.slice (sm g) l.length u),(2,iV (x.1:Int)),(3,iV ((l.length:Int)-1-(x.1:Int)))])
   (fun x W=>2*x.1<=l.length/\Keep [g] w W/\Blk W g 160 (x.2.flatten++X)/\(∀d∈x.2,d.length=3)/\RevK L x.2 x.1) (fun x=>l.length-x.1) (0,L) ⟨rfl,rfl,congrArg (Value.int .i64) O,trivial⟩
   ⟨by simp,Keep.refl _ _,a2,A,rfl,fun x V=>by rw[if_neg (by simp only;omega)]⟩ ?_
  rintro⟨k,M⟩w1 f1⟨hk,Z,n,N,z⟩;simp only at hk Z n N z⊢;refine go ?_;by_cases a9:2*k+1<l.length
  ·obtain⟨c,q⟩:∃c,L[k]?=some c:=⟨_,List.getElem?_eq_getElem U⟩;obtain⟨d,r⟩:∃d,L[L.length-1-k]?=some d:=⟨_,List.getElem?_eq_getElem U⟩;have R:M[k]?=some c:=by rw[z.2 k U,if_neg U];exact q
   have K:M[l.length-1-k]?=some d:=by
    rw[z.2 _ U,if_neg U,<-Q];exact r
   have S:=A c (List.mem_of_getElem? q);have f:=A d (List.mem_of_getElem? r);have ej:(l.length:Int)-1-(k:Int)=((l.length-1-k:Nat):Int):=by omega
   rw[ej];refine go ?_;refine Ac (rd 0 7 (rd 8 3 (.alt 7 (.alt 11 (.read 12 (.alt 13 (.read 14 (.alt 15 .done .stop)) .stop)) .stop) (.alt 11 (.alt 7 (.read 12 (.alt 13 (.read 14 (.alt 15 .done .stop)) .stop)) .stop) .stop)))) Ap EO (fun wd G ed=>⟨fun _=>True,?_,?_⟩)
   ·trivial
   have P:=n.E G O
   have oc:oneC c:=by
    obtain⟨p,y⟩:∃p,l[k]?=some p:=⟨_,List.getElem?_eq_getElem U⟩;exact pcR.one (h.rs.2 _ c p q y)
   have od:oneC d:=by
    obtain⟨p,y⟩:∃p,l[L.length-1-k]?=some p:=⟨_,List.getElem?_eq_getElem U⟩;exact pcR.one (h.rs.2 _ d p r y)
   have H:M.length=l.length:=by rw[z.1,Q]
   have a8:(M.flatten++X).length>=l.length*3:=by
    rw[List.length_append,Bw 3 _ N,H];omega
   refine go ?_;refine D_A rfl ?_ (D_E rfl ?_)
   ·refine AQ rfl f (row_cells P N K) ?_;refine wNl trivial ?_;refine D_E rfl ?_;refine AQ rfl S (row_cells P N R) ?_;refine wNl trivial ?_;refine go ?_;refine D_E rfl ?_;refine AI (cs:=d) rfl rfl f od P U (fun w2 s=>?_);have j:=s.D;rw[Nat.zero_add,splice_row f M k N U]at j
    have m:∀x∈M.set k d,x.length=3:=fun x V=>by
     rcases List.mem_or_eq_of_mem_set V with V|rfl
     ·exact N x V
     ·exact f
    refine wNl trivial ?_;(apply D_R rfl rfl;(intro W hW;refine CG (k:=l.length-1-k) rfl rfl rfl U ?_;exact AA ⟨rfl,rfl,rfl⟩))
    refine D_E rfl ?_;refine AI (cs:=c) rfl rfl S oc j (by rw[List.length_append,Bw 3 _ m,List.length_set,H];omega) (fun w3 t=>?_);have o:=t.D;rw[Nat.zero_add,splice_row S (M.set k d) (l.length-1-k) m Ey]at o
    have E:∀x∈(M.set k d).set (l.length-1-k) c,x.length=3:=fun x V=>by
     rcases List.mem_or_eq_of_mem_set V with V|rfl
     ·exact m x V
     ·exact S
    refine wNl trivial ?_;refine go ?_;refine⟨(k+1,(M.set k d).set (l.length-1-k) c),⟨rfl,⟨rfl,?_,?_,trivial⟩,⟨by simp only;omega,((Z.ext G).trans s.E O).trans t.E O,o,E,?_⟩⟩,by simp only;omega⟩
    ·show iV ((k:Int)+1)=_;rw[Int.natCast_add];rfl
    ·exact Gb
    ·simp only;rw[<-Q];exact z.step U q r
   ·refine AQ rfl S (row_cells P N R) ?_;refine wNl trivial ?_;refine D_E rfl ?_;refine AQ rfl f (row_cells P N K) ?_;refine wNl trivial ?_;refine go ?_;refine D_E rfl ?_;refine AI (cs:=d) rfl rfl f od P U (fun w2 s=>?_);have j:=s.D;rw[Nat.zero_add,splice_row f M k N U]at j
    have m:∀x∈M.set k d,x.length=3:=fun x V=>by
     rcases List.mem_or_eq_of_mem_set V with V|rfl
     ·exact N x V
     ·exact f
    refine wNl trivial ?_;(apply D_R rfl rfl;(intro W hW;refine CG (k:=l.length-1-k) rfl rfl rfl U ?_;exact AA ⟨rfl,rfl,rfl⟩))
    refine D_E rfl ?_;refine AI (cs:=c) rfl rfl S oc j (by rw[List.length_append,Bw 3 _ m,List.length_set,H];omega) (fun w3 t=>?_);have o:=t.D;rw[Nat.zero_add,splice_row S (M.set k d) (l.length-1-k) m Ey]at o
    have E:∀x∈(M.set k d).set (l.length-1-k) c,x.length=3:=fun x V=>by
     rcases List.mem_or_eq_of_mem_set V with V|rfl
     ·exact m x V
     ·exact S
    refine wNl trivial ?_;refine go ?_;refine⟨(k+1,(M.set k d).set (l.length-1-k) c),⟨rfl,⟨rfl,?_,?_,trivial⟩,⟨by simp only;omega,((Z.ext G).trans s.E O).trans t.E O,o,E,?_⟩⟩,by simp only;omega⟩
    ·show iV ((k:Int)+1)=_;rw[Int.natCast_add];rfl
    ·exact Gb
    ·simp only;rw[<-Q];exact z.step U q r
  ·refine go ?_;have e:=z.done U;subst e;have kw:Keep (Value.slice (sm g) l.length u).ownBlock.toList w w1:=Z.mono (by simp[Value.ownBlock]);refine A1 rfl ⟨⟨?_,a4 _ kw,h.le⟩,kw⟩;rw[List.length_reverse];exact a1 w1 _ n (by rw[Bw 3 _ N,Bw 3 _ A,List.length_reverse])
section
attribute [local semireducible] WC AT B6 BK Bz Cx DZ By
variable {P:Program}{all:Array Oper}{Z:Fr->DS->List PanicEntry->World->Prop}{K:Fr->DS->World->Prop}{rest:List Oper}{f:Fr}{ds:DS}{w:World}{d:Nat}{ty:TypeId}{pos:String}{af:Array Edge}
theorem blk_shape{b:Nat}{T:TypeId}{L:LV}(h:Blk w b T L):w.shape? b=some (T,L.length):=by
 have h:w.heap[b]?=some (.cells L.toArray T (0,0)):=h;simp[World.shape?,h]
theorem W_toUnsafe{S D e A:TypeId}{x:Operand}{b:Nat}{L:LV}[hT:PtrT P S e](i:P.underlying D=some .unsafePointer)(V:ev f x=.pointer (sm b))(a:Blk w b A L)(c:0<L.length)
  (h:AT P all Z K rest (upd f d (.pointer (sm b))) ds w):AT P all Z K (⟨some d,.convert S D x,ty,pos,af,none⟩::rest) f ds w:=by
 refine A0 rfl ?_ h;obtain⟨j,T,F⟩:=hT.info;have G:=Lib.run_to_unsafe w ⟨b,0,none⟩ hT.und i T F (blk_shape a) c;simp[execOp,V,G]
theorem W_fromUnsafe{S D e A:TypeId}{x:Operand}{b:Nat}{L:LV}[hT:PtrT P D e](l:P.underlying S=some .unsafePointer)(V:ev f x=.pointer (sm b))(a:Blk w b A L)(c:liesAt P P.depth A (L.length/P.cellsOf A) 0 e 1=true)
  (h:AT P all Z K rest (upd f d (.pointer (sm b))) ds w):AT P all Z K (⟨some d,.convert S D x,ty,pos,af,none⟩::rest) f ds w:=by
 refine A0 rfl ?_ h;obtain⟨j,T,F⟩:=hT.info;have G:=Lib.run_from_unsafe w ⟨b,0,none⟩ l hT.und T (blk_shape a) c;simp[execOp,V,G]
theorem W_extern{g:FuncId}{xs:List Operand}{k:Array TypeId}{vs:LV}{v:Value}(b:∀w,(callFunc g vs.toArray).run P w=.ok (.value v) w)(D:evL f xs=vs)(h:AT P all Z K rest (upd f d v) ds w):
  AT P all Z K (⟨some d,.call ⟨.value (.func g),xs.toArray,k⟩,ty,pos,af,none⟩::rest) f ds w:=by
 refine A0 rfl ?_ h;rw[evL_map]at D;have e:Array.map (ev f) xs.toArray=vs.toArray:=by rw[<-D];simp
 have a:=b w;rw[<-e]at a;simp only[execOp,resolve,ev,Deferred.ofValue,Sem.run_bind,Sem.run_pure,Result.andThen_ok];simp[invoke]at a⊢;rw[a]
theorem W_appendS{T S e:TypeId}{s x:Operand}{B n:Nat}{v:Value}{xs:LV}{t:LU}[hT:SlT P T e 1 1 (.int .u8 0)](l:P.underlying S=some .string)(hv:ev f s=v)(hx:ev f x=AL t)
  (k:w.ownsRow B e 1 v n xs)(N:n+t.length<=140737488355328)(hB:B<=w.heap.size)
  (h:∀E w',w'.ownsRow B e 1 E (n+t.length) (xs++DY t)->Keep v.ownBlock.toList w w'->(E.ownBlock=v.ownBlock\/∀y,E.ownBlock=some y->w.heap.size<=y)->(E=.slice none 0 0\/v≠ .slice none 0 0\/t≠[])->AT P all Z K rest (upd f d E) ds w'):
  AT P all Z K (⟨some d,.call ⟨.builtin .append,#[s,x],#[T,S]⟩,ty,pos,af,none⟩::rest) f ds w:=by
 obtain⟨i,H,o,p,r⟩:=hT.out;have m:(⟨t.toArray⟩:ByteArray).size=t.length:=rfl;have M:n+(⟨t.toArray⟩:ByteArray).size<=maxLen:=by rw[m];simp only[maxLen];omega
 obtain⟨E,w',G,ho,z,a5⟩:=Lib.run_append_own_string (P:=P) w B T S ty e i hT.und l H o p r v n xs k ⟨t.toArray⟩ M (by rw[m];exact N) hB
 have a0:E.ownBlock=v.ownBlock\/∀y,E.ownBlock=some y->w.heap.size<=y:=by
  rcases k.2 with⟨rfl,D⟩|⟨g,c,q,rfl,X,z,a4,a1,C,a7⟩
  ·obtain⟨v2,w2,a,a6,_,_⟩:=Lib.run_append_own_string (P:=P) w w.heap.size T S ty e i hT.und l H o p r _ n xs ⟨k.1,.inl ⟨rfl,D⟩⟩ ⟨t.toArray⟩ M (by rw[m];exact N) (Nat.le_refl _);rw[G]at a;injection a with b e2;subst b;subst e2;refine .inr fun y A=>?_;rcases a6.2 with⟨rfl,_⟩|⟨g,c,q,rfl,X,_⟩
   ·cases A
   ·cases A;exact X
  ·have a2:q.size=c:=by simpa using C
   by_cases I:n+(⟨t.toArray⟩:ByteArray).size<=c
   ·have a:=Lib.run_append_room_string (P:=P) w T S ty e i hT.und l H p g n c q z ⟨t.toArray⟩ I U;rw[G]at a;injection a with b e2;exact .inl (by rw[b];rfl)
   ·have F:∀j u,xs[j]?=some u->w.cell? ((⟨g,0,none⟩:Addr).add j)=some u:=k.cells (g:=g) rfl;have a:=Lib.run_append_grow_string (P:=P) w T S ty e i (.int .u8 0) hT.und l H o ⟨g,0,none⟩ n c xs (by rw[p];exact k.1) F ⟨t.toArray⟩ U (by rw[m];omega) (by rw[r];exact growslice_fits U (by rw[m];omega));rw[G]at a;injection a with b e2;refine .inr fun y A=>?_;rw[b]at A;cases A;exact Nat.le_refl _
 have a3:w.drawn<=w'.drawn:=by
  rcases k.2 with⟨rfl,D⟩|⟨g,c,q,rfl,X,z,a4,a1,C,a7⟩
  ·subst D;by_cases V:(⟨t.toArray⟩:ByteArray).size=0
   ·have Q:=Lib.run_firstCells_string (P:=P) w 1 ⟨t.toArray⟩;rw[V]at Q
    have a:(Builtin.append_ #[T,S] ty #[.slice none 0 0,.string ⟨t.toArray⟩]).run P w=.ok (.slice none 0 0) w:=by
     simp[Builtin.append_,run_underlying hT.und,run_underlying l,sizeOf,typeInfo,H,p,Builtin.lenOf,V,Q]
    rw[G]at a;injection a with b e2;rw[e2];exact Nat.le_refl _
   ·have a:=run_append_nil_string (P:=P) w T S ty e i (.int .u8 0) hT.und l H o ⟨t.toArray⟩ U U (by rw[r];omega);rw[G]at a;injection a with b e2;rw[e2];exact Nat.le_succ _
  ·have a2:q.size=c:=by simpa using C
   by_cases I:n+(⟨t.toArray⟩:ByteArray).size<=c
   ·have a:=Lib.run_append_room_string (P:=P) w T S ty e i hT.und l H p g n c q z ⟨t.toArray⟩ I U;rw[G]at a;injection a with b e2;rw[e2];exact Nat.le_refl _
   ·have F:∀j u,xs[j]?=some u->w.cell? ((⟨g,0,none⟩:Addr).add j)=some u:=k.cells (g:=g) rfl;have a:=Lib.run_append_grow_string (P:=P) w T S ty e i (.int .u8 0) hT.und l H o ⟨g,0,none⟩ n c xs (by rw[p];exact k.1) F ⟨t.toArray⟩ U (by rw[m];omega) (by rw[r];exact growslice_fits U (by rw[m];omega));rw[G]at a;injection a with b e2;rw[e2];exact Nat.le_succ _
 refine A0 (v:=E) (w':=w') rfl ?_ (h E w' ?_ (Keep.of_grown z a3 fun h=>h.elim) a0 ?_)
 ·simp[execOp,resolve,invoke,builtin,hv,hx,G]
 ·have b:Lib.strCells ⟨t.toArray⟩=DY t:=by simp[Lib.strCells,DY,enc8]
  rw[<-b];exact ho
 ·by_cases L:E=.slice none 0 0
  ·exact .inl L
  ·by_cases W:v=.slice none 0 0
   ·refine .inr (.inr fun R=>L (a5.2 ⟨W,?_⟩));rw[m,R];rfl
   ·exact .inr (.inl W)
theorem W_sliceDataNil{T:TypeId}{s:Operand}{n c:Nat}(p:ev f s=.slice none n c)(h:AT P all Z K rest (upd f d (.pointer none)) ds w):
  AT P all Z K (⟨some d,.call ⟨.builtin .unsafeSliceData,#[s],#[T]⟩,ty,pos,af,none⟩::rest) f ds w:=by
 refine A0 rfl ?_ h;simp[execOp,resolve,invoke,builtin,p,Lib.run_unsafeSliceData_nil]
theorem W_sliceData{T:TypeId}{s:Operand}{a:Addr}{n c:Nat}(p:ev f s=.slice (some a) n c)(b:c≠0)(h:AT P all Z K rest (upd f d (.pointer (some a))) ds w):
  AT P all Z K (⟨some d,.call ⟨.builtin .unsafeSliceData,#[s],#[T]⟩,ty,pos,af,none⟩::rest) f ds w:=by
 refine A0 rfl ?_ h;simp[execOp,resolve,invoke,builtin,p,Lib.run_unsafeSliceData_row w _ _ a n c b]
theorem W_unsafeStrNil{T S:TypeId}{s x:Operand}{p:Option Addr}(a:ev f s=.pointer p)(V:ev f x=iV 0)(h:AT P all Z K rest (upd f d (AL [])) ds w):
  AT P all Z K (⟨some d,.call ⟨.builtin .unsafeString,#[s,x],#[T,S]⟩,ty,pos,af,none⟩::rest) f ds w:=by
 refine A0 rfl ?_ h;simp[execOp,resolve,invoke,builtin,a,V,Lib.run_unsafeString_none];rfl
theorem W_unsafeStr{T S e:TypeId}{s x:Operand}{g:Nat}{t:LU}{G:LV}(q:P.underlying T=some (.pointer e))(i:P.cellsOf e=1)(p:ev f s=.pointer (sm g))(V:ev f x=iV (t.length:Int))
  (u:t≠[])(a:Blk w g e G)(o:t.length<=G.length)(l:t.length<=9223372036854775807)(m:G.take t.length=DY t)(h:∀w',Keep [g] w w'->AT P all Z K rest (upd f d (AL t)) ds w'):
  AT P all Z K (⟨some d,.call ⟨.builtin .unsafeString,#[s,x],#[T,S]⟩,ty,pos,af,none⟩::rest) f ds w:=by
 have C:∀j y,t[j]?=some y->w.cell? ((⟨g,0,none⟩:Addr).add j)=some (.int .u8 y.toNat):=by
  intro j y E;have n:=(List.getElem?_eq_some_iff.1 E).1;have c:(DY t)[j]?=some (enc8 y):=by simp[DY,E]
  rw[<-m,List.getElem?_take_of_lt n]at c;have R:=a.cells j _ c;rw[Nat.zero_add]at R;rw[Addr.add_lit,Nat.zero_add];exact R
 have r:=Lib.run_unsafeString_row (P:=P) w T S ty e q i g G.length (blk_shape a) t u o l C
 have k:Keep [g] w (w.freeze ⟨g,0,none⟩ t.length):=by
  unfold World.freeze
  split
  ·exact Ff
  ·refine⟨rfl,rfl,rfl,by simp,fun b a V=>?_,fun h=>h.elim,?_⟩
   ·simp only[Array.getElem?_modify];rw[if_neg (fun e=>V (by simp[e]))]
   ·exact Nat.le_refl _
 refine A0 rfl ?_ (h _ k);simp[execOp,resolve,invoke,builtin,p,V,r]
end
theorem noEsc_run(v:Value)(w:World):(callFunc 286 #[v]).run Zp w=.ok (.value v) w:=by
 rw[run_callFunc_extern Tryz.func286 EO EO EO (e:=Extern.AbiNoEscape.same) EO];rfl
instance :PtrT Zp 134 137:=ptrT_of Tryz.underlying134 EO
structure WrB(W:World)(p:Nat)(v:Value)(t:LU):Prop where
 D:∃a,(a=none\/a=some ⟨p,0,none⟩)/\Blk W p 139 [.pointer a,v]
 own:W.ownsRow (p+1) 5 1 v t.length (DY t)
 nz:v=.slice none 0 0\/t≠[]
structure Wrote(p:Nat)(v v':Value)(w w':World):Prop where
 E:Keep (p::v.ownBlock.toList) w w'
 D:∀y,v'.ownBlock=some y->v.ownBlock=some y\/w.heap.size<=y
theorem Wrote.refl(p:Nat)(v:Value)(w:World):Wrote p v v w w:=⟨Keep.refl _ _,fun _ h=>.inl h⟩
theorem Wrote.trans{p:Nat}{v E B:Value}{a b c:World}(h:Wrote p v E a b)(k:Wrote p E B b c):Wrote p v B a c:=by
 refine⟨h.E.trans k.E fun x V e=>?_,fun y d=>?_⟩
 ·rcases List.mem_cons.1 V with rfl|V
  ·simp
  ·rcases h.D x (Option.mem_toList.1 V)with Z|Z
   ·simp[Z]
   ·omega
 ·rcases k.D y d with Z|Z
  ·exact h.D y Z
  ·exact .inr (Nat.le_trans h.E.size Z)
theorem Wrote.ext{p:Nat}{v E:Value}{a b c:World}(h:Wrote p v E a b)(k:Ext b c):Wrote p v E a c:=⟨h.E.ext k,h.D⟩
theorem WrB.E{X:List Nat}{w w':World}{p:Nat}{v:Value}{t:LU}(h:WrB w p v t)(k:Keep X w w')(Z:p∉X)(W:∀y,v.ownBlock=some y->y∉X):WrB w' p v t:=by
 obtain⟨⟨a,D,S⟩,b,I⟩:=h;exact⟨⟨a,D,S.E k Z⟩,Ai b k W,I⟩
theorem WrB.ext{w w':World}{p:Nat}{v:Value}{t:LU}(h:WrB w p v t)(k:Ext w w'):WrB w' p v t:=h.E k O O
theorem WrB.lt{w:World}{p:Nat}{v:Value}{t:LU}(h:WrB w p v t):p<w.heap.size:=by
 obtain⟨⟨a,_,S⟩,_⟩:=h;exact S.lt
theorem WrB.ge{w:World}{p y:Nat}{v:Value}{t:LU}(h:WrB w p v t)(E:v.ownBlock=some y):p<y/\y<w.heap.size:=by
 have:=An h.own E;exact⟨by omega,this.2⟩
theorem copyCheck_ok(w:World)(p:Nat)(v:Value)(a:Option Addr)(D:a=none\/a=some ⟨p,0,none⟩)(S:Blk w p 139 [.pointer a,v]):
  Fn Zp 199 [pt p] w fun _ w'=>Blk w' p 139 [pt p,v]/\Keep [p] w w':=by
 refine AN Tryz.func199 rfl Tryz.ntmps199 ?_;repeat refine nx rfl ?_
 rcases D with rfl|rfl
 ·have t:w.cell? ⟨p,0+0,none⟩=some (.pointer none):=S.cell rfl;(refine AJ (AX rfl (AG rfl (AB rfl ?_)))<;>refine AH rfl (Blk.cell ER EQ) ?_)
  refine W_ptrNil rfl ?_;repeat refine nx rfl ?_
  refine AJ (AX rfl (AX rfl ?_));refine W_toUnsafe EO rfl S (Nat.zero_lt_succ _) ?_;refine W_extern (vs:=[pt p]) (fun W=>noEsc_run _ W) rfl ?_;refine W_fromUnsafe EO rfl S EO ?_;refine AG rfl (AB rfl ?_);refine AU rfl rfl rfl S O (fun N c=>?_);repeat refine nx rfl ?_
  exact A1 rfl ⟨c.D,c.E⟩
 ·have t:w.cell? ⟨p,0+0,none⟩=some (pt p):=S.cell rfl;(refine AJ (AX rfl (AG rfl (AB rfl ?_)))<;>refine AH rfl (Blk.cell ER EQ) ?_)
  refine W_ptrNil rfl ?_;repeat first|refine nx rfl ?_|refine nf rfl ?_
  (refine AJ (AX rfl (AG rfl (AB rfl ?_)))<;>refine AH rfl (Blk.cell ER EQ) ?_<;>refine AX rfl ?_)
  refine W_ptrNeqSame rfl rfl ?_;repeat first|refine nx rfl ?_|refine nf rfl ?_
  exact A1 rfl ⟨S,Keep.refl _ _⟩
theorem writeStr_ok(w:World)(p:Nat)(v:Value)(t s:LU)(h:WrB w p v t)(K:t.length+s.length<=140737488355328):
  Fn Zp 141 [pt p,AL s] w fun _ w'=>∃g,WrB w' p g (t++s)/\Wrote p v g w w':=by
 obtain⟨⟨a,D,S⟩,i,I⟩:=id h;refine AN Tryz.func141 rfl Tryz.ntmps141 (go ?_);refine AF (copyCheck_ok w p v a D S) rfl ?_;rintro _ Q⟨n,Z⟩;have o:Q.cell? ⟨p,0+1,none⟩=some v:=n.cell rfl;have m:=Z.size;have N:∀y,v.ownBlock=some y->y≠p:=fun y E e=>by have:=h.ge E;omega
 have l:=Ai i Z fun y E V=>N y E (by simpa using V);refine go ?_;refine W_appendS (v:=v) EO rfl rfl l K (by have:=h.lt;omega) (fun c q T f b P=>?_);have j:=n.E f (fun V=>N p (Option.mem_toList.1 V) rfl);refine go ?_;have W:c.oneCell'=true:=by rcases T.2 with⟨rfl,_⟩|⟨_,_,_,rfl,_⟩<;>rfl
 refine AU rfl rfl W j O (fun z d=>?_)
 have A:∀y,c.ownBlock=some y->y≠p:=fun y E=>by
  have:=An T E;omega
 have k:Wrote p v c w z:=by
  refine⟨((Z.mono (Y:=p::v.ownBlock.toList) O).trans f (fun x V _=>by simp[V])).trans d.E O,?_⟩
  ·intro y E;rcases b with e|e
   ·exact .inl (by rw[<-e];exact E)
   ·exact .inr (by have:=e y E;omega)
 refine go ?_;refine BP rfl ⟨c,⟨⟨some ⟨p,0,none⟩,.inr rfl,d.D⟩,?_,?_⟩,k⟩
 ·rw[List.length_append,cells8_append];exact Ai T d.E fun y E V=>A y E (by simpa using V)
 ·rcases P with e|e|e
  ·exact .inl e
  ·rcases I with r|r
   ·exact absurd r e
   ·exact .inr (by simp[r])
  ·exact .inr (by simp[e])
theorem prput_ok(w:World)(p:Nat)(v sv:Value)(t:LU)(parts:List (LU))(h:WrB w p v t)(l:Sl (fun b=>b<w.heap.size/\b≠p/\v.ownBlock≠some b) w sv parts.length (parts.map AL))(y:t.length+parts.flatten.length<=140737488355328):
  Fn Zp 87 [pt p,sv] w fun _ w'=>∃E,WrB w' p E (t++parts.flatten)/\Wrote p v E w w':=by
 obtain⟨a,f,rfl,z,m,_,K⟩:=l;have r:parts.length<=9223372036854775807:=by omega
 refine AN Tryz.func87 rfl Tryz.ntmps87 (go ?_)
 refine Ar (α:=Nat×Value) (fun x=>[(0,pt p),(6,.slice a parts.length f),(7,iV (parts.length:Int)),(8,iV (x.1:Int))]) (fun x W=>x.1<=parts.length/\WrB W p x.2 (t++(parts.take x.1).flatten)/\Wrote p v x.2 w W) (fun x=>parts.length-x.1) (0,v)
  ag ⟨Nat.zero_le _,by simpa using h,Wrote.refl _ _ _⟩ ?_
 rintro⟨i,u⟩Q I⟨H,Z,c⟩;simp only at H Z c⊢;refine go ?_;by_cases d:i<parts.length
 ·refine go ?_;rcases K with q|⟨b,o,rfl,S,j⟩
  ·omega
  have F:parts[i]?=some parts[i]:=List.getElem?_eq_getElem d;generalize parts[i]=s at F
  have A:Q.cell? ⟨b,o+i,none⟩=some (AL s):=c.E.cell (j i _ (by simp[F])) (by
   simp only[List.mem_cons,Option.mem_toList,not_or];exact⟨S.2.1,S.2.2⟩)
  have N:(parts.take (i+1)).flatten=(parts.take i).flatten++s:=by
   rw[List.take_add_one,F];simp
  have C:(parts.take (i+1)).flatten.length<=parts.flatten.length:=by
   have e:parts.flatten=(parts.take (i+1)).flatten++(parts.drop (i+1)).flatten:=by rw[<-List.flatten_append,List.take_append_drop]
   rw[e,List.length_append];omega
  rw[N,List.length_append]at C;refine go ?_;refine AF (writeStr_ok Q p u _ s Z (by rw[List.length_append];omega)) rfl ?_;rintro _ B⟨n,g,k⟩;refine go ?_;refine⟨(i+1,n),⟨rfl,⟨rfl,rfl,rfl,?_,trivial⟩,⟨d,?_,c.trans k⟩⟩,by simp only;omega⟩
  ·show iV ((i:Int)+1)=_;rw[Int.natCast_add];rfl
  ·simp only;rw[N,<-List.append_assoc];exact g
 ·refine go ?_;refine A1 rfl ⟨u,?_,c⟩;rw[List.take_of_length_le U]at Z;exact Z
theorem bstring_ok(w:World)(p:Nat)(v:Value)(t:LU)(h:WrB w p v t)(K:t.length<=140737488355328):
  Fn Zp 85 [pt p] w fun u w'=>u=AL t/\Keep v.ownBlock.toList w w':=by
 obtain⟨⟨a,D,S⟩,n,I⟩:=id h;refine AN Tryz.func85 rfl Tryz.ntmps85 (go ?_);have m:p∉v.ownBlock.toList:=fun V=>by have:=h.ge (Option.mem_toList.1 V);omega
 have E:v=.slice none 0 0/\t=[]\/t≠[]/\∃g c G,v=.slice (sm g) t.length c/\Blk w g 5 G/\t.length<=G.length/\c≠0/\G.take t.length=DY t:=by
  rcases n.2 with⟨rfl,j⟩|⟨g,c,G,rfl,X,f,q,r,R,B⟩
  ·exact .inl ⟨rfl,List.length_eq_zero_iff.1 j⟩
  ·have d:t≠[]:=by
    rcases I with e|e
    ·cases e
    ·exact e
   have y:0<t.length:=List.length_pos_iff.2 d;have z:G.size=c:=by simpa using R
   refine .inr ⟨d,g,c,G.toList,rfl,by simpa[Blk]using f,by simp;omega,by omega,?_⟩;rw[<-B,Nat.mul_one]
 refine Ac (rd 0 4 (rd 5 5 (.alt 4 (.alt 10 (.read 11 .done) .stop) .stop))) Ap EO (fun N M H=>⟨Keep v.ownBlock.toList N,?_,?_⟩)
 ·exact Ff
 have b:∀W,Keep v.ownBlock.toList N W->W.cell? ⟨p,0+1,none⟩=some v:=fun W k=>((S.E M O).E k m).cell rfl;rcases E with⟨rfl,rfl⟩|⟨d,g,c,G,rfl,f,P,Z,l⟩
 ·((refine D_R rfl rfl (fun W o=>AX rfl dz) ?_)<;>(refine D_R rfl rfl (fun W o=>AG rfl dz) ?_)<;>(refine D_R rfl rfl (fun W o=>AB rfl dz) ?_)<;>(refine D_R rfl rfl (fun W o=>AH rfl (b W o) dz) ?_)<;>(refine D_R rfl rfl (fun W o=>AX rfl dz) ?_)<;>(refine D_R rfl rfl (fun W o=>AG rfl dz) ?_)<;>(refine D_R rfl rfl (fun W o=>AB rfl dz) ?_)<;>(refine D_R rfl rfl (fun W o=>AH rfl (b W o) dz) ?_)<;>(refine D_R rfl rfl (fun W o=>Bi rfl dz) ?_))
  refine D_E rfl ?_;refine W_sliceDataNil rfl ?_;refine wNl (Keep.refl _ _) ?_;refine D_E rfl ?_;refine W_unsafeStrNil rfl rfl ?_;refine wNl (Keep.refl _ _) ?_;refine go ?_;exact AC rfl ⟨rfl,M.any⟩
 ·((refine D_R rfl rfl (fun W o=>AX rfl dz) ?_)<;>(refine D_R rfl rfl (fun W o=>AG rfl dz) ?_)<;>(refine D_R rfl rfl (fun W o=>AB rfl dz) ?_)<;>(refine D_R rfl rfl (fun W o=>AH rfl (b W o) dz) ?_)<;>(refine D_R rfl rfl (fun W o=>AX rfl dz) ?_)<;>(refine D_R rfl rfl (fun W o=>AG rfl dz) ?_)<;>(refine D_R rfl rfl (fun W o=>AB rfl dz) ?_)<;>(refine D_R rfl rfl (fun W o=>AH rfl (b W o) dz) ?_)<;>(refine D_R rfl rfl (fun W o=>Bi rfl dz) ?_))
  refine D_E rfl ?_;refine W_sliceData rfl Z ?_;refine wNl (Keep.refl _ _) ?_;refine D_E rfl ?_;refine W_unsafeStr EO EO rfl rfl d (f.E M O) P U l (fun s i=>?_);refine wNl i ?_;refine go ?_;exact AC rfl ⟨rfl,M.any.trans i (fun x V _=>V)⟩
theorem okF_eq(f:Fml):okF f=(DX f.op f.name f.val f.bound f.args.length&&okL f.args):=by cases f;simp[okF,Fml.op,Fml.name,Fml.val,Fml.bound,Fml.args]
def pcOk:Pc->Bool
 | .txt _=>true
 | .sub f _=>okF f
def Dx:Pc->Nat
 | .txt t=>t.length
 | .sub f _=>44*szF f-22
def pcWt:Pc->Nat
 | .txt _=>1
 | .sub f _=>8*szF f-4
def pcFit:Pc->Prop
 | .txt _=>True
 | .sub f n=>n<=9/\szF f<=1000000
def C2(g:Pc->Nat)(l:List Pc):Nat:=(l.map g).sum
theorem DO(g:Pc->Nat)(a b:List Pc):C2 g (a++b)=C2 g a+C2 g b:=by simp[C2]
theorem sumP_rev(g:Pc->Nat)(a:List Pc):C2 g a.reverse=C2 g a:=by simp[C2,List.map_reverse,List.sum_reverse]
theorem DW(g:Pc->Nat)(p:Pc)(a:List Pc):C2 g (p::a)=g p+C2 g a:=by simp[C2]
theorem sumP_nil(g:Pc->Nat):C2 g []=0:=rfl
theorem wt_argP(next:Nat)(D:LU):∀l,C2 pcWt (argP next D l)+3*l.length<=8*szL l
 | []=>by simp[argP,C2]
 |a::l=>by
  have:=wt_argP next D l
  have:=C1 a;simp only[argP,DW,szL,pcWt,List.length_cons];omega
theorem pot_argP(next:Nat)(D:LU)(F:D.length<=20):∀l,C2 Dx (argP next D l)+2*l.length<=44*szL l
 | []=>by simp[argP,C2]
 |a::l=>by
  have:=pot_argP next D F l
  have:=C1 a;simp only[argP,DW,szL,Dx,List.length_cons];omega
theorem ok_argP(next:Nat)(D:LU):∀l,(argP next D l).all pcOk=okL l
 | []=>by simp[argP,okL]
 |a::l=>by simp[argP,okL,pcOk,ok_argP next D l]
theorem sgT_len{op v b:Int}{a:LU}{k:Nat}(h:DX op a v b k=true):(sgT op a v b).length<=20:=by
 obtain⟨s,F,_,_,Z,W,R,B,d,_⟩:=node_parts h
 have x:s.sign.length<=5/\s.val<=9999/\s.bound<=9999:=by
  rcases op_cases F with h|h|h|h|h|h|h|h|h|h|h|h|h|h|h|h|h|h|h<;>rw[h]at F<;>simp[Cb,styL,List.lookup]at F<;>subst F<;>decide
 have P:Br op=s:=by unfold Br;rw[F];rfl
 have p:(Ci v).length<=4:=digs_len U;have S:(Ci b).length<=4:=digs_len U;unfold sgT;rw[P]
 split
 ·rename_i h0;have:=(CL (d h0)).2.1
  split
  ·omega
  ·simp;omega
 split
 ·simp;omega
 split
 ·split<;>simp
 split
 ·split
  ·simp;omega
  ·simp;omega
 ·omega
theorem wt_pcs{f:Fml}(s:Sty)(n:Nat):C2 pcWt (pcs s n f)<pcWt (.sub f n):=by
 have Z:C2 pcWt (Dd s n)<=1:=by unfold Dd;split<;>simp[C2,pcWt]
 have W:C2 pcWt (Dz s n)<=1:=by unfold Dz;split<;>simp[C2,pcWt]
 have R:C2 pcWt (C9 (sgT f.op f.name f.val f.bound) f.args.length)<=1:=by unfold C9;split<;>simp[C2,pcWt]
 have B:=BL f;unfold pcs;rw[DO,DO,DO]
 have d:C2 pcWt (DA s.first s.next (sgT f.op f.name f.val f.bound) f.args)<=8*szL f.args:=by
  cases f.args with
  |nil=>simp[DA,C2]
  |cons a l=>
   have:=wt_argP s.next (sgT f.op f.name f.val f.bound) l
   have:=C1 a;simp only[DA,DW,szL,pcWt];omega
 simp only[pcWt];omega
theorem pot_pcs{f:Fml}{s:Sty}{n:Nat}(h:DX f.op f.name f.val f.bound f.args.length=true):C2 Dx (pcs s n f)<=Dx (.sub f n):=by
 have w:=sgT_len h;have Z:C2 Dx (Dd s n)<=1:=by unfold Dd;split<;>simp[C2,Dx]
 have W:C2 Dx (Dz s n)<=1:=by unfold Dz;split<;>simp[C2,Dx]
 have B:=BL f;unfold pcs;generalize sgT f.op f.name f.val f.bound=sg at w⊢;rw[DO,DO,DO]
 have d:C2 Dx (C9 sg f.args.length)+C2 Dx (DA s.first s.next sg f.args)<=44*szL f.args+20:=by
  cases f.args with
  |nil=>simp[DA,C9,C2,Dx];omega
  |cons a l=>
   have:=pot_argP s.next sg w l
   have:=C1 a;have k:C2 Dx (C9 sg (a::l).length)<=20:=by unfold C9;split<;>simp[C2,Dx]<;>omega
   simp only[DA,DW,szL,Dx];omega
 simp only[Dx];omega
theorem ok_pcs(f:Fml)(s:Sty)(n:Nat):(pcs s n f).all pcOk=okL f.args:=by
 have Z:(Dd s n).all pcOk=true:=by unfold Dd;split<;>simp[pcOk]
 have W:(Dz s n).all pcOk=true:=by unfold Dz;split<;>simp[pcOk]
 have R:∀D k,(C9 D k).all pcOk=true:=fun D k=>by unfold C9;split<;>simp[pcOk]
 unfold pcs;rw[List.all_append,List.all_append,List.all_append,Z,W,R];cases f.args with
 |nil=>simp[DA,okL]
 |cons a l=>simp[DA,okL,pcOk,ok_argP]
theorem fit_pcs{f:Fml}{s:Sty}{n:Nat}(F:Cb f.op=some s)(o:szF f<=1000000):∀p∈pcs s n f,pcFit p:=by
 have T:s.first<=9/\s.next<=9:=by
  rcases op_cases F with h|h|h|h|h|h|h|h|h|h|h|h|h|h|h|h|h|h|h<;>rw[h]at F<;>simp[Cb,styL,List.lookup]at F<;>subst F<;>decide
 have B:=BL f
 have Q:∀l:LF,szL l<=1000000->∀D,∀p∈argP s.next D l,pcFit p:=by
  intro l
  induction l with
  |nil=>intro _ D p y;cases y
  |cons a l ih=>
   intro K D p y;simp only[szL]at K;rcases List.mem_cons.1 y with rfl|y
   ·trivial
   rcases List.mem_cons.1 y with rfl|y
   ·exact⟨T.2,by omega⟩
   ·exact ih U D p y
 intro p y;unfold pcs at y;rcases List.mem_append.1 y with y|y
 ·rcases List.mem_append.1 y with y|y
  ·rcases List.mem_append.1 y with y|y
   ·unfold Dd at y;split at y<;>simp at y;subst y;trivial
   ·unfold C9 at y;split at y<;>simp at y;subst y;trivial
  ·generalize f.args=l at y B;cases l with
   |nil=>cases y
   |cons a l=>
    simp only[szL]at B;rcases List.mem_cons.1 y with rfl|y
    ·exact⟨T.1,by omega⟩
    ·exact Q l U _ p y
 ·unfold Dz at y;split at y<;>simp at y;subst y;trivial
theorem sub_pcs{f:Fml}{s:Sty}{n m:Nat}{a:Fml}(h:Pc.sub a m∈pcs s n f):a∈f.args:=by
 have Q:∀(l:LF)nx D,Pc.sub a m∈argP nx D l->a∈l:=by
  intro l nx D
  induction l with
  |nil=>intro h;cases h
  |cons c l ih=>
   intro h;rcases List.mem_cons.1 h with e|h
   ·cases e
   rcases List.mem_cons.1 h with e|h
   ·cases e;simp
   ·simp[ih h]
 unfold pcs at h;rcases List.mem_append.1 h with h|h
 ·rcases List.mem_append.1 h with h|h
  ·rcases List.mem_append.1 h with h|h
   ·unfold Dd at h;split at h<;>simp at h
   ·unfold C9 at h;split at h<;>simp at h
  ·generalize f.args=l at h⊢;cases l with
   |nil=>cases h
   |cons c l=>
    rcases List.mem_cons.1 h with e|h
    ·cases e;simp
    ·simp[Q l _ _ h]
 ·unfold Dz at h;split at h<;>simp at h
theorem out_sum:∀{l:List Pc},(∀p∈l,(outP p).length<=Dx p)->(l.flatMap outP).length<=C2 Dx l
 | [],_=>by simp
 |p::l,h=>by
  have Z:=h p O;have W:=out_sum fun q K=>h q (List.mem_cons_of_mem p K);rw[List.flatMap_cons,List.length_append,DW];omega
theorem prF_len:∀(N:Nat)(f:Fml),szF f<=N->okF f=true->∀n,(prF n f).length<=44*szF f-22
 |0,f,hN,_,_=>by have:=C1 f;omega
 |N+1,f,hN,hok,n=>by
  rw[okF_eq,Bool.and_eq_true]at hok;obtain⟨s,F,_⟩:=node_parts hok.1;rw[<-out_pcs F n];refine Nat.le_trans (out_sum fun p y=>?_) (pot_pcs hok.1);cases p with
  |txt t=>exact Nat.le_refl _
  |sub a m=>
   have b:=sub_pcs y;have Z:=Bb b;have W:=BL f;exact prF_len N a U (CT hok.2 _ b) m
theorem PS.E{C B:Nat}{v:Value}{L:List (LV)}{l:List Pc}{X:List Nat}{W Z:World}(h:PS C B v L l W)(k:Keep X W Z)(a:∀y,v.ownBlock=some y->y∉X)(c:∀b,b<C->b∉X):PS C B v L l Z:=
 ⟨Ai h.own k a,h.rs.E k c,h.le⟩
theorem PS.cut{C B n cap:Nat}{a:Option Addr}{L:List (LV)}{l:List Pc}{c:LV}{q:Pc}{W:World}(h:PS C B (.slice a n cap) (L++[c]) (l++[q]) W):PS C B (.slice a l.length cap) L l W:=by
 have K:=h.rs.1;simp only[List.length_append,List.length_singleton]at K;have R:=h.rs.len;have j:∀d∈L,d.length=3:=fun d m=>R d (by simp[m]);have k:L.flatten.length=l.length*3:=by rw[Bw 3 L j];omega
 refine⟨⟨k,?_⟩,⟨by omega,fun i c p T y=>?_⟩,h.le⟩
 ·rcases h.own.2 with⟨e,t⟩|⟨g,V,G,e,s,w,Q,b,A,f⟩
  ·simp at t
  ·cases e;refine .inr ⟨g,cap,G,rfl,s,w,by simp at Q;omega,b,A,?_⟩
   have r:G.toList.take (l.length*3)=((G.toList.take ((l++[q]).length*3))).take (l.length*3):=by
    rw[List.take_take,Nat.min_eq_left EP]
   rw[r,f,List.flatten_append,List.take_append_of_le_length U,List.take_of_length_le U]
 ·have H:=(List.getElem?_eq_some_iff.1 T).1;have o:=(List.getElem?_eq_some_iff.1 y).1;exact h.rs.2 i c p (by rw[List.getElem?_append_left H];exact T) (by rw[List.getElem?_append_left o];exact y)
theorem PS.rev_form{C B:Nat}{v:Value}{L:List (LV)}{l:List Pc}{W:World}(h:PS C B v L l W)(y:0<l.length):∃a cap u x c q,v=.slice a (x.length+1) cap/\L=u++[c]/\l=x++[q]/\pcFits (fun b=>b<C) W c q/\c.length=3/\oneC c/\x.length+1<=cap/\
  ∃g,a=some ⟨g,0,none⟩/\Cells W g (0+x.length*3) c:=by
 obtain⟨a,cap,rfl⟩:=h.form;have K:L.length=l.length:=h.rs.1;obtain⟨x,q,rfl⟩:∃x q,l=x++[q]:=⟨l.dropLast,l.getLast (by intro e;simp[e]at y),(List.dropLast_concat_getLast _).symm⟩;obtain⟨u,c,rfl⟩:∃u c,L=u++[c]:=⟨L.dropLast,L.getLast (by intro e;simp[e]at K),(List.dropLast_concat_getLast _).symm⟩;simp only[List.length_append,List.length_singleton]at K;have P:pcR.fits (fun b=>b<C) W c q:=h.rs.2 x.length c q (by rw[List.getElem?_append_right U];simp[show x.length-u.length=0 by omega]) O;have R:∀d∈u++[c],d.length=3:=h.rs.len;obtain⟨g,X,rfl,s,S,_⟩:=own_rows h.own y;refine⟨_,cap,u,x,c,q,by simp,rfl,rfl,P,R c O,pcR.one P,?_,g,rfl,?_⟩
 ·rcases h.own.2 with⟨e,t⟩|⟨g,V,G,e,s,w,Q,_⟩
  ·simp at t
  ·cases e;simpa using Q
 ·exact row_cells S R (by rw[List.getElem?_append_right U];simp[show x.length-u.length=0 by omega])
theorem PS.ge{C B y:Nat}{v:Value}{L:List (LV)}{l:List Pc}{W:World}(h:PS C B v L l W)(E:v.ownBlock=some y):B<=y/\y<W.heap.size:=An h.own E
structure FI(w:World)(p r:Nat)(v:Value)(t:LU)(f:Fml)(x:Value×List (LV)×List Pc×Value×LU)(W:World):Prop where
 wr:Wrote p v x.2.2.2.1 w W
 wb:WrB W p x.2.2.2.1 x.2.2.2.2
 ps:PS p w.heap.size x.1 x.2.1 x.2.2.1 W
 ne:∀y,x.1.ownBlock=some y->x.2.2.2.1.ownBlock≠some y
 sty:StyM W r
 rn:x.1.ownBlock≠some r/\x.2.2.2.1.ownBlock≠some r/\r<W.heap.size
 fit:∀q∈x.2.2.1,pcFit q
 out:x.2.2.2.2++x.2.2.1.reverse.flatMap outP=t++prF 0 f
 ok:x.2.2.1.all pcOk=okF f
 pot:x.2.2.2.2.length+C2 Dx x.2.2.1<=t.length+(44*szF f-22)
 wt:C2 pcWt x.2.2.1<=8*szF f
theorem wt_len:∀l:List Pc,l.length<=C2 pcWt l
 | []=>by simp
 | .txt t::l=>by have:=wt_len l;rw[DW];simp only[pcWt,List.length_cons];omega
 | .sub f n::l=>by have:=wt_len l;have:=C1 f;rw[DW];simp only[pcWt,List.length_cons];omega
set_option maxHeartbeats 3200000 in
theorem wformula_ok(w:World)(p b o:Nat)(v:Value)(t:LU)(f:Fml)(P:WrB w p v t)(hf:PF (fun b=>b<p) w b o f)(hG:GP w)(hp:10<=p)(hz:szF f<=1000000)(hl:t.length<=1000000000):
  FnP Zp 43 [pt p,.pointer (some ⟨b,o,none⟩)] w (fun _ w'=>okF f=true/\∃v',WrB w' p v' (t++prF 0 f)/\Wrote p v v' w w') (fun ch w'=>ch=unp/\okF f=false/\∃v',Wrote p v v' w w'):=by
 have f8:=P.lt;refine Az Tryz.func43 rfl Tryz.ntmps43 nlr EO (go ?_);refine AF (styles_ok w) rfl ?_;rintro _ Q⟨r,rfl,k1,hr,hst⟩;have f9:r<Q.heap.size:=by obtain⟨M,hM,_⟩:=id hst;exact hM.lt
 refine go ?_;refine AP (out:=subC b o 0) rfl U EO (fun w2 X=>?_);have z1:=k1.size;have z2:=X.size;have k2:Ext w w2:=k1.trans X.E;have o2:=X.own (n:=1) (size:=3) (B:=w.heap.size) rfl ET z1;refine go ?_
 have h0:FI w p r v t f (.slice (sm Q.heap.size) 1 1,[subC b o 0],[.sub f 0],v,t) w2:=by
  refine⟨⟨k2.any,fun y E=>.inl E⟩,P.ext k2,⟨by simpa using o2,RsAt.one (R:=pcR) (a:=Pc.sub f 0) ⟨b,o,rfl,hf.E k2 O⟩,by omega⟩,?_,hst.E X.E O,⟨?_,?_,by omega⟩,?_,by simp[outP],by simp[pcOk],by simp[C2,Dx],by simp[C2,pcWt]⟩
  ·intro y E W;have E:Q.heap.size=y:=by simpa[Value.ownBlock]using E
   have:=(P.ge W).2;omega
  ·intro e;have e:Q.heap.size=r:=by simpa[Value.ownBlock]using e
   omega
  ·intro e;have:=(P.ge e).2;omega
  ·intro q K;simp at K;subst K;exact⟨by omega,hz⟩
 clear o2 X;refine Ar (α:=Value×List (LV)×List Pc×Value×LU) (fun x=>[(0,pt p),(4,.map (some r)),(5,x.1)]) (FI w p r v t f) (fun x=>C2 pcWt x.2.2.1) (.slice (sm Q.heap.size) 1 1,[subC b o 0],[.sub f 0],v,t) ag h0 ?_;clear h0 z2 k2;rintro⟨tv,L,ps,u,t1⟩w3 f3 hI;obtain⟨b3,b2,a2,N,c6,⟨a3,a4,e6⟩,a7,m,j,a0,hwt⟩:=id hI;simp only at b3 b2 a2 N c6 a3 a4 e6 a7 m j a0 hwt⊢;repeat refine nx rfl ?_
 have e2:=wt_len ps;by_cases b0:ps.length=0
 ·have e0:ps=[]:=List.length_eq_zero_iff.1 b0;subst e0;obtain⟨a,cp,rfl⟩:=a2.form;rw[b0];(refine AJ (Ay rfl (Bi rfl ?_))<;>(refine W_gtr rfl rfl (fun hc=>?_) (fun hc=>?_)<;>try omega))
  repeat first|refine nx rfl ?_|refine nf rfl ?_
  refine A1 rfl ⟨by simpa using j.symm,u,?_,b3⟩;simp at m;rw[<-m];exact b2
 obtain⟨a,b5,L',d,c,q,rfl,rfl,rfl,K,b7,d7,hcap,g,rfl,d8⟩:=a2.rev_form U;clear b0;rw[List.length_append,List.length_singleton]at e2;(refine AJ (Ay rfl (Bi rfl ?_))<;>(refine W_gtr rfl rfl (fun hc=>?_) (fun hc=>?_)<;>try omega))
 repeat refine nx rfl ?_
 refine AJ (Ay rfl (Ay rfl (Bi rfl (W_sub rfl rfl Ea ?_))));refine CG (k:=d.length) rfl rfl U U ?_;refine AQ (L:=c) rfl b7 d8 ?_;refine A2 (cs:=c) rfl b7 EQ d7 (fun z n4=>?_);have z4:=n4.size;have T:=n4.E;repeat refine nx rfl ?_
 refine AJ (Ay rfl (Ay rfl (Bi rfl (W_sub rfl rfl Ea ?_))));refine W_slice_h rfl rfl U U ?_;rw[show((((d.length+1:Nat):Int)-1).toNat)=d.length by omega];refine AO (Ay rfl ?_);repeat refine nx rfl ?_
 have Z:=n4.D;have I:=a2.cut.ext T;have C:=b2.ext T;have S:=b3.ext T;have b1:=c6.E T O;have a8:pcFit q:=a7 q O;have b8:∀x∈d,pcFit x:=fun x V=>a7 x (by simp[V]);rw[DO,DW,sumP_nil]at a0 hwt;rw[List.all_append]at j;rw[List.reverse_append,List.reverse_singleton,List.singleton_append,List.flatMap_cons]at m;cases q with
 |txt s=>
  have K:c=txtC s:=K;subst K;have h41:z.cell? ⟨w3.heap.size,0+1,none⟩=some (.pointer none):=Z.cell rfl;have f0:z.cell? ⟨w3.heap.size,0+0,none⟩=some (AL s):=Z.cell rfl;refine AJ (AB rfl (AH rfl (Blk.cell ER EQ) ?_));refine W_ptrNil rfl ?_;repeat refine nx rfl ?_
  refine AJ (AX rfl (AB rfl (AH rfl (Blk.cell ER EQ) ?_)));refine AP (out:=[AL s]) rfl U EO (fun l G=>?_);have z5:=G.size;have A:=G.E;have e8:=C.ext A
  have d2:Sl (fun b=>b<l.heap.size/\b≠p/\u.ownBlock≠some b) l (.slice (sm z.heap.size) 1 1) [s].length ([s].map AL):=by
   refine⟨_,_,rfl,by simp,by omega,(fun h=>by cases h),.inr ⟨_,_,rfl,⟨by omega,?_,?_⟩,G.D.cells⟩⟩
   ·have:=C.lt;omega
   ·intro e;have:=(C.ge e).2;omega
  simp only[Dx]at a0;simp only[pcWt]at hwt;refine AF (prput_ok l p u _ t1 [s] e8 d2 EP) rfl ?_;rintro _ i⟨v6,c7,F⟩;simp only[List.flatten_cons,List.flatten_nil,List.append_nil]at c7;refine go ?_;have z6:=F.E.size
  have hX:∀y,y<l.heap.size->y≠p->u.ownBlock≠some y->y∉p::u.ownBlock.toList:=fun y _ h1 W V=>by
   rcases List.mem_cons.1 V with V|V
   ·exact h1 V
   ·exact W (Option.mem_toList.1 V)
  refine⟨(_,L',d,v6,t1++s),⟨rfl,ag,⟨(S.ext A).trans F,c7,(I.ext A).E F.E ?_ ?_,?_,(b1.E A O).E F.E ?_,⟨a3,?_,?_⟩,b8,?_,?_,?_,?_⟩⟩,?_⟩
  ·intro y E;have:=I.ge E;exact hX y U U (N y E)
  ·intro y E;exact hX y U U (fun e=>by have:=(C.ge e).1;omega)
  ·intro y E W;rcases F.D y W with e|e
   ·exact N y E e
   ·have:=(I.ge E).2;omega
  ·exact hX r U U a4
  ·intro e;rcases F.D r e with e|e
   ·exact a4 e
   ·omega
  ·omega
  ·simp only;rw[List.append_assoc];exact m
  ·simp only;rw[<-j];simp[pcOk]
  ·simp only;rw[List.length_append];omega
  ·simp only;omega
  ·simp only;rw[DO,DW,sumP_nil];simp only[pcWt];omega
 |sub f' n=>
  obtain⟨b',o',K,e4⟩:=K;subst K;have h41:z.cell? ⟨w3.heap.size,0+1,none⟩=some (.pointer (some ⟨b',o',none⟩)):=Z.cell rfl;have c9:z.cell? ⟨w3.heap.size,0+2,none⟩=some (iV (n:Int)):=Z.cell rfl;refine AJ (AB rfl (AH rfl (Blk.cell ER EQ) ?_));refine W_ptrNil rfl ?_;repeat first|refine nx rfl ?_|refine nf rfl ?_
  have c2:=e4.E T O;obtain⟨_,a5,c5,L5,d9,_,_⟩:=c2.form;have f1:z.cell? ⟨b',o'+0,none⟩=some (iV f'.op):=d9 0 _ rfl;obtain⟨M,hM,b9⟩:=id b1;(refine AJ (M_map rfl (AB rfl (AH rfl (Blk.cell ER EQ) ?_)))<;>refine AG rfl (AB rfl (AH rfl ER ?_)))
  refine W_lookup2V rfl rfl hM ?_;rw[b9];clear b9 hM M;simp only[Dx,pcWt,outP]at a0 hwt m;rw[List.all_cons,List.all_nil,Bool.and_true]at j;simp only[pcOk]at j;cases hs:Cb f'.op with
  |none=>
   have d5:okF f'=false:=by rw[okF_eq];unfold DX;rw[hs];rfl
   have d6:okF f=false:=by rw[<-j,d5,Bool.and_false]
   refine go ?_;refine A2 (cs:=sty0) rfl rfl EQ (AV rfl) (fun l G=>go ?_);refine Ag (Cd l false) rfl ?_ ?_
   ·rintro v i⟨_,hb,_⟩;cases hb
   rintro ch i⟨rfl,_,rfl⟩;refine go ?_;exact Ab ⟨rfl,d6,u,S.ext G.E⟩
  |some s=>
   refine go ?_;refine A2 (cs:=Ct s) rfl rfl EQ (styC_one s) (fun l G=>go ?_);have z5:=G.size;have A:=G.E;refine go ?_;refine Ag (Cd l true) rfl ?_ ?_;rotate_left
   ·rintro ch i⟨_,hb,_⟩;cases hb
   rintro _ i⟨rfl,_,rfl⟩;refine go ?_;have b6:=G.D;have i1:=A.cell h41 O;have i2:=A.cell c9 O
   have d1:GP i:=hG.E (S.ext A).E (by
    intro x V;rcases List.mem_cons.1 V with rfl|V
    ·exact hp
    ·have:=(P.ge (Option.mem_toList.1 V)).1;omega)
   refine go ?_;have d0:p<=i.heap.size:=by have:=C.lt;omega
   have hf6:=c2.E A O
   have d3:f'.args.length<=1000000:=by
    have:=CE f'.args;have:=BL f';have:=a8.2;omega
   refine Ag (pieces_ok i p d0 s b' o' n f' hf6 hs a8.1 d3 d1) rfl ?_ ?_;rotate_left
   ·rintro ch w7⟨rfl,k7,d4⟩;refine go ?_;refine Ab ⟨rfl,?_,u,(S.ext A).ext k7⟩;rw[<-j,okF_eq,d4];simp
   rintro mv w7⟨k7,c1,Lm,Bm,f2,c3⟩;refine go ?_;refine AF (reverse_ok w7 p Bm mv Lm _ c3) rfl ?_;rintro _ w8⟨a1,k8⟩;refine go ?_;have z7:=k7.size;have z8:=k8.size;have c0:∀y,mv.ownBlock=some y->i.heap.size<=y:=fun y E=>by have:=(c3.ge E).1;omega
   have f5:∀y,y<i.heap.size->y∉mv.ownBlock.toList:=fun y E V=>by have:=c0 y (Option.mem_toList.1 V);omega
   have a6:Ext i w8:=k7.E k8 (fun y E=>c0 y (Option.mem_toList.1 E));have c4:=(I.ext A).ext a6;have c8:=(C.ext A).ext a6;have b4:=(S.ext A).ext a6;have e7:=(b1.E A O).E a6 O;have f6:=wt_len d;have e9:=wt_pcs (f:=f') s n;have e3:=wt_len (pcs s n f').reverse;rw[sumP_rev]at e3;simp only[pcWt]at e9;refine Ax (ok:=Af) (v:=.slice (sm g) d.length b5) rfl rfl c4.own (Aa a1.own fun _ _=>trivial) U rfl a1.rs.flat a1.rs.oneC U U (by have:=b4.E.size;omega) (fun v9 w9 D=>?_);have z9:=D.E.size;have e5:PS p w.heap.size v9 (L'++Lm.reverse) (d++(pcs s n f').reverse) w9:=c4.app D a1.rs;refine go ?_;have e1:∀y,(Value.slice (sm g) d.length b5).ownBlock=some y->y=g:=fun y E=>by simpa[Value.ownBlock]using E.symm
   have f4:w.heap.size<=g/\g<z.heap.size:=I.ge rfl;have a9:Keep [g] w8 w9:=D.E.mono (fun x V=>by simpa using e1 x (Option.mem_toList.1 V));refine⟨(v9,L'++Lm.reverse,d++(pcs s n f').reverse,u,t1),⟨rfl,ag,⟨⟨b4.E.trans a9 ?_,b4.D⟩,c8.E a9 ?_ ?_,e5,?_,e7.E a9 ?_,⟨?_,a4,?_⟩,?_,?_,?_,?_,?_⟩⟩,?_⟩
   ·intro x V f7;simp at V;omega
   ·simp;omega
   ·intro y E V;simp at V;subst V;exact N y rfl E
   ·intro y E W;rcases D.D with e|e
    ·rw[e]at E;exact N y E W
    ·rw[e]at E;have E:w8.heap.size=y:=by simpa using E
     have:=(c8.ge W).2;omega
   ·simp;intro e;exact a3 (by simp[Value.ownBlock,e])
   ·intro H;rcases D.D with e|e
    ·rw[e]at H;exact a3 H
    ·rw[e]at H;have H:w8.heap.size=r:=by simpa using H
     omega
   ·omega
   ·intro x V;rcases List.mem_append.1 V with V|V
    ·exact b8 x V
    ·exact fit_pcs hs a8.2 x (List.mem_reverse.1 V)
   ·simp only;rw[List.reverse_append,List.reverse_reverse,List.flatMap_append,out_pcs hs];exact m
   ·simp only;rw[List.all_append,List.all_reverse,ok_pcs,<-j,okF_eq,c1,Bool.true_and]
   ·simp only;rw[DO,sumP_rev];have:=pot_pcs (s:=s) (n:=n) c1;simp only[Dx]at this;omega
   ·simp only;rw[DO,sumP_rev];omega
   ·simp only;rw[DO,sumP_rev,DO,DW,sumP_nil];simp only[pcWt];omega
def PA{α:Type}(R:Rp α)(ok:Nat->Prop)(w:World)(b o:Nat)(a:α):Prop:=ok b/\∃d:LV,Cells w b o d/\R.fits ok w d a
theorem PA.E{α:Type}{R:Rp α}{ok:Nat->Prop}{X:List Nat}{w w':World}{b o:Nat}{a:α}(h:PA R ok w b o a)(k:Keep X w w')(c:∀b,ok b->b∉X):PA R ok w' b o a:=by
 obtain⟨S,d,T,P⟩:=h;exact⟨S,d,T.E k (c b S),R.E P k c⟩
theorem Wrote.old{p:Nat}{v E:Value}{w w':World}{t:LU}(_h:Wrote p v E w w')(a:WrB w p v t):∀b,b<p->b∉p::v.ownBlock.toList:=fun b S V=>by
 rcases List.mem_cons.1 V with e|e
 ·omega
 ·have:=(a.ge (Option.mem_toList.1 e)).1;omega
theorem Wrote.gp{p:Nat}{v E:Value}{w w':World}{t:LU}(h:Wrote p v E w w')(e:WrB w p v t)(X:GP w)(y:10<=p):GP w':=X.E h.E (by
 intro x V;rcases List.mem_cons.1 V with rfl|V
 ·exact y
 ·have:=(e.ge (Option.mem_toList.1 V)).1;omega)
theorem PA.wrote{α:Type}{R:Rp α}{w w':World}{b o p:Nat}{a:α}{v E:Value}{t:LU}(h:PA R (fun b=>b<p) w b o a)(k:Wrote p v E w w')(e:WrB w p v t):PA R (fun b=>b<p) w' b o a:=h.E k.E (k.old e)
theorem De{a w:World}{p:Nat}{v:Value}{t:LU}{parts:List (LU)}(h:WrB a p v t)(n:New a w 9 (parts.map AL))(I:parts.length<=16)(K:t.length+parts.flatten.length<=140737488355328):
  Fn Zp 87 [pt p,.slice (sm a.heap.size) parts.length parts.length] w fun _ w'=>∃E,WrB w' p E (t++parts.flatten)/\Wrote p v E a w':=by
 have z:=n.size;refine Fn.mono (prput_ok w p v _ t parts (h.ext n.E) ⟨_,_,rfl,Nat.le_refl _,by omega,(fun h=>by cases h),.inr ⟨_,_,rfl,⟨by omega,?_,?_⟩,n.D.cells⟩⟩ K) ?_
 ·have:=h.lt;omega
 ·intro e;have:=(h.ge e).2;omega
 ·rintro _ w'⟨E,Z,W⟩;exact⟨E,Z,Wrote.trans ⟨n.E.any,fun y b=>.inl b⟩ W⟩
def reqT(r:Rqm):LU:=(if r.kind=1 then[97,115,115,117,109,101,32]else[103,117,97,114,97,110,116,101,101,32])++(r.name++[58,32])++prF 0 r.formula
def okR(r:Rqm):Bool:=(decide (r.kind=1)||decide (r.kind=2))&&BH r.name&&okF r.formula
def WAns(p:Nat)(v:Value)(t s:LU)(ok:Bool)(w w':World):Prop:=ok=true/\∃E,WrB w' p E (t++s)/\Wrote p v E w w'
def WPan(p:Nat)(v:Value)(ok:Bool)(w:World)(V:List PanicEntry)(w':World):Prop:=V=unp/\ok=false/\∃E,Wrote p v E w w'
set_option maxHeartbeats 1600000 in
theorem wreq_ok(w:World)(p b o:Nat)(v:Value)(t:LU)(r:Rqm)(a:WrB w p v t)(P:PA reqR (fun b=>b<p) w b o r)(R:GP w)(y:10<=p)(hz:szF r.formula<=1000000)(hl:t.length<=999999000):
  FnP Zp 89 [pt p,.pointer (some ⟨b,o,none⟩)] w (fun _ w'=>WAns p v t (reqT r) (okR r) w w') (WPan p v (okR r) w):=by
 obtain⟨S,d,T,d5,rfl,a6,a8⟩:=id P;have h2:w.cell? ⟨b,o+2,none⟩=some (iV r.kind):=T 2 _ rfl;refine Az Tryz.func89 rfl Tryz.ntmps89 nlr EO ?_;repeat refine nx rfl ?_
 (refine AJ (AX rfl (AG rfl (AB rfl (AH rfl ER ?_))))<;>refine AA ?_)
 repeat' first|refine AA ?_|refine Q_then ?_|refine C_seq ?_
 refine CA (α:=Value) (fun _=>[(0,pt p),(1,.pointer (some ⟨b,o,none⟩))]) (fun h W=>(r.kind=1\/r.kind=2)/\WrB W p h (t++(if r.kind=1 then[97,115,115,117,109,101,32]else[103,117,97,114,97,110,116,101,101,32]))/\Wrote p v h w W) ?_ ?_
 ·refine go ?_;by_cases Z:r.kind=1
  ·refine go ?_;refine AP (out:=[AL [97,115,115,117,109,101,32]]) rfl U EO (fun Q k=>?_);refine AF (De (parts:=[[97,115,115,117,109,101,32]]) a k O EP) rfl ?_;rintro _ m⟨l,N,j⟩;refine go ?_;refine Aj l ag ⟨.inl Z,?_,j⟩;rw[if_pos Z];exact N
  ·refine go ?_;by_cases q:r.kind=2
   ·refine go ?_;refine AP (out:=[AL [103,117,97,114,97,110,116,101,101,32]]) rfl U EO (fun Q k=>?_);refine AF (De (parts:=[[103,117,97,114,97,110,116,101,101,32]]) a k O EP) rfl ?_;rintro _ m⟨l,N,j⟩;refine go ?_;refine Aj l ag ⟨.inr q,?_,j⟩;rw[if_neg Z];exact N
   ·refine go ?_;refine Ag (Cd w false) rfl ?_ ?_
    ·rintro v w6⟨_,S,_⟩;cases S
    rintro n w6⟨rfl,_,rfl⟩;refine go ?_;refine Ab ⟨rfl,?_,v,Wrote.refl _ _ _⟩;simp[okR,Z,q]
 rintro h Q f1⟨L,H,f⟩;have M:(decide (r.kind=1)||decide (r.kind=2))=true:=by simpa using L
 have s:=P.wrote f a;obtain⟨_,I,K,d6,rfl,a7,a9⟩:=id s;have a5:Q.cell? ⟨b,o+1,none⟩=some (AL r.name):=K 1 _ rfl;have X:=f.gp a R y;refine go ?_;refine Ag (wname_ok Q r.name X.gk) rfl ?_ ?_;rotate_left
 ·rintro n m⟨rfl,S,rfl⟩;refine go ?_;exact Ab ⟨rfl,by simp[okR,S],h,f⟩
 rintro _ m⟨rfl,z,rfl⟩;have b0:=(CL z).2.1;refine AP (out:=[AL r.name,AL [58,32]]) rfl U EO (fun w3 n3=>?_);refine AF (De (parts:=[r.name,[58,32]]) H n3 O (by split<;>simp<;>omega)) rfl ?_;rintro _ C⟨v4,a3,c⟩;refine go ?_;have B:=f.trans c;have a1:=s.wrote c H;obtain⟨_,I,G,F,rfl,a0,E⟩:=id a1
 have a2:PF (fun b=>b<p) C b (o+3) r.formula:=⟨S,F,a0,fun i u g=>by
  have:=G (3+i) u (by rw[List.getElem?_append_right O];simpa using g);rw[<-Nat.add_assoc]at this;exact this,E⟩
 refine go ?_;refine Ag (wformula_ok C p b (o+3) v4 _ r.formula a3 a2 (c.gp H X y) y hz (by split<;>simp<;>omega)) rfl ?_ ?_;rotate_left
 ·rintro n w5⟨rfl,x,V,A⟩;refine go ?_;exact Ab ⟨rfl,by simp[okR,x],V,B.trans A⟩
 rintro _ w5⟨D,V,a4,A⟩;refine go ?_;refine A1 rfl ⟨by simp only[okR,M,z,D,Bool.and_self],V,?_,B.trans A⟩;have e:t++reqT r=t++(if r.kind=1 then[97,115,115,117,109,101,32]else[103,117,97,114,97,110,116,101,101,32])++[r.name,[58,32]].flatten++prF 0 r.formula:=by simp[reqT]
 rw[e];exact a4
def sgnT(x:Sgn):LU:=(if x.input then[105,110,112,117,116,32]else[111,117,116,112,117,116,32])++x.name++(if x.size=2 then[]else[58,32]++Ci x.size)++[59,10]
def okS(x:Sgn):Bool:=BH x.name&&numB x.size
set_option maxHeartbeats 1600000 in
theorem wsig_ok(w:World)(p:Nat)(v:Value)(t:LU)(x:Sgn)(f:WrB w p v t)(s:GP w)(D:10<=p)(hl:t.length<=999999000):
  FnP Zp 86 [pt p,.agg (sgnC x).toArray] w (fun _ w'=>WAns p v t (sgnT x) (okS x) w w') (WPan p v (okS x) w):=by
 refine Az Tryz.func86 rfl Tryz.ntmps86 nlr EO (go ?_);refine A3 (L:=sgnC x) rfl (fun Q i=>?_);have Z:=i.E;have b:=i.D;have H:=f.ext Z;have C:Wrote p v v w Q:=⟨Z.any,fun y E=>.inl E⟩;have X:=s.ext Z;refine go ?_;have h1:Q.cell? ⟨w.heap.size,0+1,none⟩=some (.bool x.input):=b.cell rfl;have h0:Q.cell? ⟨w.heap.size,0+0,none⟩=some (AL x.name):=b.cell rfl;refine go ?_;repeat' first|refine AA ?_|refine Q_then ?_|refine C_seq ?_
 refine CA (α:=Unit) (fun _=>[(0,pt p),(3,pt w.heap.size),(4,AL (if x.input then[105,110,112,117,116,32]else[111,117,116,112,117,116,32]))]) (fun _ W=>Q=W) ?_ ?_
 ·cases hi:x.input with
  |true=>
   exact FK
  |false=>
   exact FK
 rintro _ _ f1 rfl;generalize M:(if x.input then[105,110,112,117,116,32]else[111,117,116,112,117,116,32]:LU)=kd;have a1:kd.length<=7:=by rw[<-M];split<;>simp
 refine go ?_;refine Ag (wname_ok Q x.name X.gk) rfl ?_ ?_;rotate_left
 ·rintro m w2⟨rfl,S,rfl⟩;refine go ?_;exact Ab ⟨rfl,by simp[okS,S],v,C⟩
 rintro _ w2⟨rfl,d,rfl⟩;have a2:=(CL d).2.1;refine AP (out:=[AL kd,AL x.name]) rfl U EO (fun w3 r=>?_);refine AF (De (parts:=[kd,x.name]) H r O EP) rfl ?_;rintro _ j⟨v4,F,c⟩;refine go ?_;have o:=C.trans c;have P:=c.gp H X D;have a4:=H.lt
 have T:w.heap.size∉p::v.ownBlock.toList:=fun I=>by
  rcases List.mem_cons.1 I with e|e
  ·have:=f.lt;omega
  ·have:=(f.ge (Option.mem_toList.1 e)).2;omega
 have l:=b.E c.E T;have q:j.cell? ⟨w.heap.size,0+2,none⟩=some (iV x.size):=l.cell rfl;refine go ?_;refine Ag (wnumber_ok j x.size P) rfl ?_ ?_;rotate_left
 ·rintro m w5⟨rfl,S,rfl⟩;refine go ?_;exact Ab ⟨rfl,by simp[okS,S],v4,o⟩
 rintro _ w5⟨rfl,K,A⟩;have z:=K;simp only[numB,Bool.and_eq_true,decide_eq_true_eq]at z;have a3:=numT_len (n:=x.size) U;have a0:=A.cell q O;have h:=F.ext A;have V:=o.ext A;refine go ?_;have u:∀(fr:Fr)(Q':DD)(ds:DS)(v6:Value)(k:World),True:=fun _ _ _ _ _=>trivial;clear u;by_cases B:x.size=2
 ·refine go ?_;refine AP (out:=[AL [59,10]]) rfl U EO (fun k N=>?_);refine AF (De (parts:=[[59,10]]) h N O EP) rfl ?_;rintro _ w7⟨a,R,g⟩;refine go ?_;refine A1 rfl ⟨by simp only[okS,d,K,Bool.and_self],a,?_,V.trans g⟩;have e:t++sgnT x=t++[kd,x.name].flatten++[[59,10]].flatten:=by simp[sgnT,M,B]
  rw[e];exact R
 ·refine go ?_;refine AP (out:=[AL [58,32],AL (Ci x.size)]) rfl U EO (fun k N=>?_);refine AF (De (parts:=[[58,32],Ci x.size]) h N O EP) rfl ?_;rintro _ w7⟨a,R,g⟩;refine go ?_;refine AP (out:=[AL [59,10]]) rfl U EO (fun w8 n8=>?_);refine AF (De (parts:=[[59,10]]) R n8 O EP) rfl ?_;rintro _ w9⟨v9,G,k9⟩;refine go ?_;refine A1 rfl ⟨by simp only[okS,d,K,Bool.and_self],v9,?_,(V.trans g).trans k9⟩;have e:t++sgnT x=t++[kd,x.name].flatten++[[58,32],Ci x.size].flatten++[[59,10]].flatten:=by simp[sgnT,M,B]
  rw[e];exact G
def rqI(l:List Rqm)(i:Nat):LU:=match l[i]? with
 |none=>[]
 |some r=>(if i=0\/(l[i-1]?).map (·.part)≠some r.part then[112,97,114,116,32]++(r.part++[32,123,10])else[])++([32,32]++(reqT r++([59,10]++(if i+1=l.length\/(l[i+1]?).map (·.part)≠some r.part then[125,10]else[]))))
def okRq(r:Rqm):Bool:=BH r.part&&okR r
def rqsT(l:List Rqm):LU:=(List.range l.length).flatMap (rqI l)
def spcT(s:Spc):LU:=s.sigs.flatMap sgnT++rqsT s.reqs
def DB(s:Spc):Bool:=s.sigs.all okS&&s.reqs.all okRq
def szR(l:List Rqm):Nat:=(l.map fun r=>szF r.formula+4).sum
def szS(s:Spc):Nat:=s.sigs.length+szR s.reqs
theorem sgnT_len{x:Sgn}(h:okS x=true):(sgnT x).length<=44:=by
 simp only[okS,numB,Bool.and_eq_true,decide_eq_true_eq]at h;have Z:=(CL h.1).2.1;have W:=numT_len (n:=x.size) U;unfold sgnT;simp only[List.length_append];have R:(if x.input then[105,110,112,117,116,32]else[111,117,116,112,117,116,32]:LU).length<=7:=by split<;>simp
 have B:(if x.size=2 then[]else[58,32]++Ci x.size:LU).length<=6:=by split<;>simp;omega
 have d:([59,10]:LU).length=2:=rfl;omega
theorem reqT_len{r:Rqm}(h:okR r=true):(reqT r).length<=44*szF r.formula+20:=by
 simp only[okR,Bool.and_eq_true]at h;have Z:=(CL h.1.2).2.1;have W:=prF_len _ r.formula (Nat.le_refl _) h.2 0;have t:=C1 r.formula;unfold reqT;simp only[List.length_append];have R:(if r.kind=1 then[97,115,115,117,109,101,32]else[103,117,97,114,97,110,116,101,101,32]:LU).length<=10:=by split<;>simp
 have d:([58,32]:LU).length=2:=rfl;omega
theorem rqI_len{l:List Rqm}{i:Nat}{r:Rqm}(G:l[i]?=some r)(h:okRq r=true):(rqI l i).length<=44*(szF r.formula+4):=by
 simp only[okRq,Bool.and_eq_true]at h;have Z:=(CL h.1).2.1;have W:=reqT_len h.2;unfold rqI;rw[G];simp only[List.length_append];have R:(if i=0\/(l[i-1]?).map (·.part)≠some r.part then[112,97,114,116,32]++(r.part++[32,123,10])else[]:LU).length<=20:=by split<;>simp;omega
 have B:(if i+1=l.length\/(l[i+1]?).map (·.part)≠some r.part then[125,10]else[]:LU).length<=2:=by split<;>simp
 have d:([32,32]:LU).length=2:=rfl;have k:([59,10]:LU).length=2:=rfl;omega
theorem szR_take{l:List Rqm}{i:Nat}{r:Rqm}(G:l[i]?=some r):szR (l.take (i+1))=szR (l.take i)+(szF r.formula+4):=by
 rw[List.take_add_one,G];simp[szR]
theorem szR_le(l:List Rqm)(i:Nat):szR (l.take i)<=szR l:=by
 have:szR l=szR (l.take i)+szR (l.drop i):=by
  unfold szR;rw[<-List.sum_append,<-List.map_append,List.take_append_drop]
 omega
theorem szR_len:∀l:List Rqm,l.length<=szR l
 | []=>by simp
 |r::l=>by have:=szR_len l;simp only[szR,List.map_cons,List.sum_cons,List.length_cons]at this⊢;omega
theorem rqs_len(l:List Rqm):∀k,k<=l.length->(l.take k).all okRq=true->((List.range k).flatMap (rqI l)).length<=44*szR (l.take k)
 |0,_,_=>by simp
 |k+1,hk,h=>by
  obtain⟨r,G⟩:∃r,l[k]?=some r:=⟨_,List.getElem?_eq_getElem U⟩;have e:l.take (k+1)=l.take k++[r]:=by rw[List.take_add_one,G];rfl
  rw[e,List.all_append,Bool.and_eq_true]at h;have x:=rqs_len l k U h.1;have W:=rqI_len G (by simpa using h.2);rw[szR_take G,List.range_succ,List.flatMap_append,List.length_append];simp only[List.flatMap_cons,List.flatMap_nil,List.append_nil];omega
end Go.Proofs.YtjbocjodncbogaaGreatDoor
