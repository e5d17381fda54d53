/- TopTextDuties, part 10 of 15: lemmas. Conditions: none. -/
import Derived.Test.YtjbocjodncbogaaGreatDoorDX9
import Derived.Lib.AppendStr
import Derived.Lib.UnsafeStr
namespace Go.Proofs.YtjbocjodncbogaaGreatDoor
open Go.RowKit Go.Proofs.Tryz
set_option linter.unusedVariables false
set_option linter.defProp false
def J2{n:Int}(h:n<=9999):(Br n).length<=4:=Ob U
def Mm{n:Int}(v:0<=n)(Z:n<=9999):Gx n=true:=by simp[Gx,v,Z]
def gg(w:World)(s:Sty)(b o:Nat)(f:Fml)(av:Value)(i:Cells w b o (fcC f av))(E:Bh f.op=some s)(a0:F9 s f=true)(z:GP w):
  FnP Zp 160 [BM s,.pointer (sn b o)] w (fun v w'=>v=AA (sgT f.op f.name f.val f.bound)/\Ext w w'/\(f.op=3->BP f.name=true)) (fun y w'=>y=unp/\Ext w w'/\f.op=3/\BP f.name=false):=by
 have a7:s.sign.length<=5:=by
  rcases J3 E with h|h|h|h|h|h|h|h|h|h|h|h|h|h|h|h|h|h|h<;>rw[h]at E<;>simp[Bh,styL,List.lookup]at E<;>subst E<;>decide
 have V:BH f.op=s:=by unfold BH;rw[E];rfl
 simp only[F9,AZ,BD]at a0;obtain⟨⟨⟨_,M,h2⟩,R,h4⟩,_⟩:=a0;refine CK func160 rfl ntmps160 nlr rD (go ?_);refine Ac (L:=Bz s) rfl (fun w1 n1=>?_);have q:=n1.D;have d:=n1.E;have fo:=d.cell (i 0 _ rfl) O;refine go ?_;by_cases u:f.op=3
 ·have C:=E;rw[u]at C;simp[Bh,styL,List.lookup]at C;have hu:s.usual=1:=by rw[<-C]
  have hv:s.val=9999:=by rw[<-C]
  have N:s.sign=[61]:=by rw[<-C]
  refine go ?_;by_cases a2:f.val=1
  ·refine DY (rd 0 7 .done) AX rD (by repeat (first|exact Dg|refine De ?_|refine Ge ?_)) (fun X a T=>⟨Ext X,?_,?_⟩)
   ·exact sY
   have k:=q.E a O;have t:∀W,Ext X W->CC W b (o+1) (AA f.name):=fun W e=>((d.Q a).Q e).cell (i 1 _ rfl) O;have B:∀W,Ext X W->CC W b (o+2) (iV f.val):=fun W e=>((d.Q a).Q e).cell (i 2 _ rfl) O;have Z:∀W,Ext X W->CC W b (o+3) (iV f.bound):=fun W e=>((d.Q a).Q e).cell (i 3 _ rfl) O;have c:∀W,Ext X W->CC W w.heap.size (0+0) (AA s.sign):=fun W e=>(k.E e O).cell rfl;have r:∀W,Ext X W->CC W w.heap.size (0+8) (iV (s.usual:Int)):=fun W e=>(k.E e O).cell rfl;refine go ?_;have fn1:=t _ (Ext.refl _);refine go ?_;refine Av (Mc _ f.name (z.gk.ext (d.Q a))) rfl ?_ ?_;rotate_left
   ·rintro y F⟨rfl,S,rfl⟩;refine go ?_;exact Ap ⟨rfl,d.Q a,u,S⟩
   rintro v F⟨rfl,S,rfl⟩;refine go ?_;have e:sgT f.op f.name f.val f.bound=f.name:=by simp[sgT,u,a2]
   exact AC rfl ⟨by rw[e];rfl,d.Q a,fun _=>S⟩
  ·refine DY (rd 0 7 .done) AX rD (by repeat (first|exact Dg|refine De ?_|refine Ge ?_)) (fun X a T=>⟨Ext X,?_,?_⟩)
   ·exact sY
   have k:=q.E a O;have t:∀W,Ext X W->CC W b (o+1) (AA f.name):=fun W e=>((d.Q a).Q e).cell (i 1 _ rfl) O;have B:∀W,Ext X W->CC W b (o+2) (iV f.val):=fun W e=>((d.Q a).Q e).cell (i 2 _ rfl) O;have Z:∀W,Ext X W->CC W b (o+3) (iV f.bound):=fun W e=>((d.Q a).Q e).cell (i 3 _ rfl) O;have c:∀W,Ext X W->CC W w.heap.size (0+0) (AA s.sign):=fun W e=>(k.E e O).cell rfl;have r:∀W,Ext X W->CC W w.heap.size (0+8) (iV (s.usual:Int)):=fun W e=>(k.E e O).cell rfl;refine go ?_;replace d:=d.Q a;replace q:=k;clear t B Z c r k a T;refine DY (rd 0 4 (.read 5 (.read 6 (rd 8 4 (.alt 4 (.read 7 (.alt 12 (.read 13 (.read 14 .done)) .stop)) .stop))))) AX rD (by repeat (first|exact Dg|refine De ?_|refine Ge ?_)) (fun X a T=>⟨Ext X,?_,?_⟩)
   ·exact sY
   have k:=q.E a O;have t:∀W,Ext X W->CC W b (o+1) (AA f.name):=fun W e=>((d.Q a).Q e).cell (i 1 _ rfl) O;have B:∀W,Ext X W->CC W b (o+2) (iV f.val):=fun W e=>((d.Q a).Q e).cell (i 2 _ rfl) O;have Z:∀W,Ext X W->CC W b (o+3) (iV f.bound):=fun W e=>((d.Q a).Q e).cell (i 3 _ rfl) O;have c:∀W,Ext X W->CC W w.heap.size (0+0) (AA s.sign):=fun W e=>(k.E e O).cell rfl;have r:∀W,Ext X W->CC W w.heap.size (0+8) (iV (s.usual:Int)):=fun W e=>(k.E e O).cell rfl;refine go ?_;refine gE ?_;refine Av (Mc X f.name (z.gk.ext (d.Q a))) rfl ?_ ?_;rotate_left
   ·rintro y F⟨rfl,S,rfl⟩;refine go ?_;exact Ap ⟨rfl,d.Q a,u,S⟩
   rintro v F⟨rfl,S,rfl⟩;have a6:=(Gd S).2.1;refine AB ⟨Ext F,fun _ e=>e,Ext.refl _,?_⟩;(apply D_R rfl rfl;(intro W I;(refine GR rfl rfl rX ?_);exact AB ⟨rfl,rfl,rfl⟩))
   refine D_E rfl ?_;refine Av (Kj F f.val (z.ext (d.Q a))) rfl ?_ ?_;rotate_left
   ·rintro y A⟨rfl,x,rfl⟩;rw[Mm M U]at x;cases x
   rintro v A⟨rfl,_,g⟩;have H:=J2 (n:=f.val) U;refine AB ⟨Ext A,fun _ e=>g.Q e,Ext.refl _,?_⟩;(apply D_R rfl rfl;(intro W I;(refine GR rfl rfl rX ?_);exact AB ⟨rfl,rfl,rfl⟩))
   refine D_R rfl rfl (fun W I=>AT (BL rfl Z3)) (Cy ?_);refine nX ?_;have e:sgT f.op f.name f.val f.bound=f.name++s.sign++Br f.val:=by simp[sgT,u,a2,N]
   exact AC rfl ⟨by rw[e];rfl,(d.Q a).Q g,fun _=>S⟩
 by_cases m:f.op=13\/f.op=14
 ·have a5:s.bound=9999:=by
   rcases m with h|h<;>rw[h]at E<;>simp[Bh,styL,List.lookup]at E<;>rw[<-E]
  have l:sgT f.op f.name f.val f.bound=s.sign++Br f.bound++[93,32]:=by simp[sgT,u,m,V]
  refine go ?_;rcases m with a3|a4
  ·refine go ?_;refine DY (rd 0 6 (.alt 6 (rd 7 3 .done) .stop)) AX rD (by repeat (first|exact Dg|refine De ?_|refine Ge ?_)) (fun X a T=>⟨Ext X,?_,?_⟩)
   ·exact sY
   have k:=q.E a O;have t:∀W,Ext X W->CC W b (o+1) (AA f.name):=fun W e=>((d.Q a).Q e).cell (i 1 _ rfl) O;have B:∀W,Ext X W->CC W b (o+2) (iV f.val):=fun W e=>((d.Q a).Q e).cell (i 2 _ rfl) O;have Z:∀W,Ext X W->CC W b (o+3) (iV f.bound):=fun W e=>((d.Q a).Q e).cell (i 3 _ rfl) O;have c:∀W,Ext X W->CC W w.heap.size (0+0) (AA s.sign):=fun W e=>(k.E e O).cell rfl;have r:∀W,Ext X W->CC W w.heap.size (0+8) (iV (s.usual:Int)):=fun W e=>(k.E e O).cell rfl;refine go ?_;refine gE ?_;refine Av (Kj X f.bound (z.ext (d.Q a))) rfl ?_ ?_;rotate_left
   ·rintro y A⟨rfl,x,rfl⟩;rw[Mm R U]at x;cases x
   exact sw
  ·refine go ?_;refine DY (rd 0 6 (.alt 6 (rd 7 3 .done) .stop)) AX rD (by repeat (first|exact Dg|refine De ?_|refine Ge ?_)) (fun X a T=>⟨Ext X,?_,?_⟩)
   ·exact sY
   have k:=q.E a O;have t:∀W,Ext X W->CC W b (o+1) (AA f.name):=fun W e=>((d.Q a).Q e).cell (i 1 _ rfl) O;have B:∀W,Ext X W->CC W b (o+2) (iV f.val):=fun W e=>((d.Q a).Q e).cell (i 2 _ rfl) O;have Z:∀W,Ext X W->CC W b (o+3) (iV f.bound):=fun W e=>((d.Q a).Q e).cell (i 3 _ rfl) O;have c:∀W,Ext X W->CC W w.heap.size (0+0) (AA s.sign):=fun W e=>(k.E e O).cell rfl;have r:∀W,Ext X W->CC W w.heap.size (0+8) (iV (s.usual:Int)):=fun W e=>(k.E e O).cell rfl;refine go ?_;refine gE ?_;refine Av (Kj X f.bound (z.ext (d.Q a))) rfl ?_ ?_;rotate_left
   ·rintro y A⟨rfl,x,rfl⟩;rw[Mm R U]at x;cases x
   exact sw
 by_cases G:f.op=15
 ·have j:=E;rw[G]at j;simp[Bh,styL,List.lookup]at j;have hu:s.usual=0:=by rw[<-j]
  have N:s.sign=[89,32]:=by rw[<-j]
  refine go ?_;by_cases a1:f.val=0
  ·refine DY (rd 0 7 .done) AX rD (by repeat (first|exact Dg|refine De ?_|refine Ge ?_)) (fun X a T=>⟨Ext X,?_,?_⟩)
   ·exact sY
   have k:=q.E a O;have t:∀W,Ext X W->CC W b (o+1) (AA f.name):=fun W e=>((d.Q a).Q e).cell (i 1 _ rfl) O;have B:∀W,Ext X W->CC W b (o+2) (iV f.val):=fun W e=>((d.Q a).Q e).cell (i 2 _ rfl) O;have Z:∀W,Ext X W->CC W b (o+3) (iV f.bound):=fun W e=>((d.Q a).Q e).cell (i 3 _ rfl) O;have c:∀W,Ext X W->CC W w.heap.size (0+0) (AA s.sign):=fun W e=>(k.E e O).cell rfl;have r:∀W,Ext X W->CC W w.heap.size (0+8) (iV (s.usual:Int)):=fun W e=>(k.E e O).cell rfl;refine go ?_;have K:=c _ (Ext.refl _);refine go ?_;have e:sgT f.op f.name f.val f.bound=s.sign:=by simp[sgT,G,a1,N]
   exact ti
  ·refine DY (rd 0 7 .done) AX rD (by repeat (first|exact Dg|refine De ?_|refine Ge ?_)) (fun X a T=>⟨Ext X,?_,?_⟩)
   ·exact sY
   have k:=q.E a O;have t:∀W,Ext X W->CC W b (o+1) (AA f.name):=fun W e=>((d.Q a).Q e).cell (i 1 _ rfl) O;have B:∀W,Ext X W->CC W b (o+2) (iV f.val):=fun W e=>((d.Q a).Q e).cell (i 2 _ rfl) O;have Z:∀W,Ext X W->CC W b (o+3) (iV f.bound):=fun W e=>((d.Q a).Q e).cell (i 3 _ rfl) O;have c:∀W,Ext X W->CC W w.heap.size (0+0) (AA s.sign):=fun W e=>(k.E e O).cell rfl;have r:∀W,Ext X W->CC W w.heap.size (0+8) (iV (s.usual:Int)):=fun W e=>(k.E e O).cell rfl;refine go ?_;have e:sgT f.op f.name f.val f.bound=[90,32]:=by simp[sgT,G,a1]
   exact ti
 by_cases P:f.op=16\/f.op=17
 ·have a8:s.val=9999:=by
   rcases P with h|h<;>rw[h]at E<;>simp[Bh,styL,List.lookup]at E<;>rw[<-E]
  refine go ?_;rcases P with Q|p
  ·refine go ?_;by_cases D:f.val=(s.usual:Int)
   ·refine DY (rd 0 7 .done) AX rD (by repeat (first|exact Dg|refine De ?_|refine Ge ?_)) (fun X a T=>⟨Ext X,?_,?_⟩)
    ·exact sY
    have k:=q.E a O;have t:∀W,Ext X W->CC W b (o+1) (AA f.name):=fun W e=>((d.Q a).Q e).cell (i 1 _ rfl) O;have B:∀W,Ext X W->CC W b (o+2) (iV f.val):=fun W e=>((d.Q a).Q e).cell (i 2 _ rfl) O;have Z:∀W,Ext X W->CC W b (o+3) (iV f.bound):=fun W e=>((d.Q a).Q e).cell (i 3 _ rfl) O;have c:∀W,Ext X W->CC W w.heap.size (0+0) (AA s.sign):=fun W e=>(k.E e O).cell rfl;have r:∀W,Ext X W->CC W w.heap.size (0+8) (iV (s.usual:Int)):=fun W e=>(k.E e O).cell rfl;refine D_R rfl rfl (fun W I=>Aq rfl Z3) (D_R rfl rfl (fun W I=>A7 rfl Z3) (D_R rfl rfl (fun W I=>AV rfl Z3) (D_R rfl rfl (fun W I=>AQ rfl (B W I) Z3) (D_R rfl rfl (fun W I=>AV rfl Z3) (D_R rfl rfl (fun W I=>AQ rfl (r W I) Z3) (SO rfl rfl rfl rfl U (Cy ?_)))))));refine nX ?_;have K:=c _ (Ext.refl _);refine AN (AV rfl (AQ rfl (Blk.cell rG rF) ?_));refine GR rfl rfl rE ?_;refine AT (BL rfl ?_);refine nX ?_
    have e:sgT f.op f.name f.val f.bound=s.sign++[32]:=by
     unfold sgT;rw[V];simp[Q,D]
    exact ti
   ·refine DY (rd 0 7 .done) AX rD (by repeat (first|exact Dg|refine De ?_|refine Ge ?_)) (fun X a T=>⟨Ext X,?_,?_⟩)
    ·exact sY
    have k:=q.E a O;have t:∀W,Ext X W->CC W b (o+1) (AA f.name):=fun W e=>((d.Q a).Q e).cell (i 1 _ rfl) O;have B:∀W,Ext X W->CC W b (o+2) (iV f.val):=fun W e=>((d.Q a).Q e).cell (i 2 _ rfl) O;have Z:∀W,Ext X W->CC W b (o+3) (iV f.bound):=fun W e=>((d.Q a).Q e).cell (i 3 _ rfl) O;have c:∀W,Ext X W->CC W w.heap.size (0+0) (AA s.sign):=fun W e=>(k.E e O).cell rfl;have r:∀W,Ext X W->CC W w.heap.size (0+8) (iV (s.usual:Int)):=fun W e=>(k.E e O).cell rfl;refine go ?_;replace d:=d.Q a;replace q:=k;clear t B Z c r k a T;refine DY (rd 0 7 (.alt 7 (rd 8 3 .done) .stop)) AX rD (by repeat (first|exact Dg|refine De ?_|refine Ge ?_)) (fun X a T=>⟨Ext X,?_,?_⟩)
    ·exact sY
    have k:=q.E a O;have t:∀W,Ext X W->CC W b (o+1) (AA f.name):=fun W e=>((d.Q a).Q e).cell (i 1 _ rfl) O;have B:∀W,Ext X W->CC W b (o+2) (iV f.val):=fun W e=>((d.Q a).Q e).cell (i 2 _ rfl) O;have Z:∀W,Ext X W->CC W b (o+3) (iV f.bound):=fun W e=>((d.Q a).Q e).cell (i 3 _ rfl) O;have c:∀W,Ext X W->CC W w.heap.size (0+0) (AA s.sign):=fun W e=>(k.E e O).cell rfl;have r:∀W,Ext X W->CC W w.heap.size (0+8) (iV (s.usual:Int)):=fun W e=>(k.E e O).cell rfl;refine D_R rfl rfl (fun W I=>AV rfl Z3) (D_R rfl rfl (fun W I=>AQ rfl (c W I) Z3) ?_);(apply D_R rfl rfl;(intro W I;(refine GR rfl rfl rX ?_);exact AB ⟨rfl,rfl,rfl⟩))
    refine D_R rfl rfl (fun W I=>Aq rfl Z3) (D_R rfl rfl (fun W I=>A7 rfl Z3) (D_R rfl rfl (fun W I=>AV rfl Z3) (D_R rfl rfl (fun W I=>AQ rfl (B W I) Z3) ?_)));refine D_E rfl ?_;refine Av (Kj X f.val (z.ext (d.Q a))) rfl ?_ ?_;rotate_left
    ·rintro y A⟨rfl,x,rfl⟩;rw[Mm M U]at x;cases x
    rintro v A⟨rfl,_,g⟩;have H:=J2 (n:=f.val) U;refine AB ⟨Ext A,fun _ e=>g.Q e,Ext.refl _,?_⟩;(apply D_R rfl rfl;(intro W I;(refine GR rfl rfl rX ?_);exact AB ⟨rfl,rfl,rfl⟩))
    (apply D_R rfl rfl;(intro W I;(refine GR rfl rfl rX ?_);exact AB ⟨rfl,rfl,rfl⟩))
    refine D_R rfl rfl (fun W I=>AT (BL rfl Z3)) (Cy ?_);refine nX ?_
    have e:sgT f.op f.name f.val f.bound=s.sign++[91]++Br f.val++[93,32]:=by
     unfold sgT;rw[V];simp[Q,D]
    exact AC rfl ⟨by rw[e];rfl,(d.Q a).Q g,fun h=>absurd h u⟩
  ·refine go ?_;by_cases D:f.val=(s.usual:Int)
   ·refine DY (rd 0 7 .done) AX rD (by repeat (first|exact Dg|refine De ?_|refine Ge ?_)) (fun X a T=>⟨Ext X,?_,?_⟩)
    ·exact sY
    have k:=q.E a O;have t:∀W,Ext X W->CC W b (o+1) (AA f.name):=fun W e=>((d.Q a).Q e).cell (i 1 _ rfl) O;have B:∀W,Ext X W->CC W b (o+2) (iV f.val):=fun W e=>((d.Q a).Q e).cell (i 2 _ rfl) O;have Z:∀W,Ext X W->CC W b (o+3) (iV f.bound):=fun W e=>((d.Q a).Q e).cell (i 3 _ rfl) O;have c:∀W,Ext X W->CC W w.heap.size (0+0) (AA s.sign):=fun W e=>(k.E e O).cell rfl;have r:∀W,Ext X W->CC W w.heap.size (0+8) (iV (s.usual:Int)):=fun W e=>(k.E e O).cell rfl;refine D_R rfl rfl (fun W I=>Aq rfl Z3) (D_R rfl rfl (fun W I=>A7 rfl Z3) (D_R rfl rfl (fun W I=>AV rfl Z3) (D_R rfl rfl (fun W I=>AQ rfl (B W I) Z3) (D_R rfl rfl (fun W I=>AV rfl Z3) (D_R rfl rfl (fun W I=>AQ rfl (r W I) Z3) (SO rfl rfl rfl rfl U (Cy ?_)))))));refine nX ?_;have K:=c _ (Ext.refl _);refine AN (AV rfl (AQ rfl (Blk.cell rG rF) ?_));refine GR rfl rfl rE ?_;refine AT (BL rfl ?_);refine nX ?_
    have e:sgT f.op f.name f.val f.bound=s.sign++[32]:=by
     unfold sgT;rw[V];simp[p,D]
    exact ti
   ·refine DY (rd 0 7 .done) AX rD (by repeat (first|exact Dg|refine De ?_|refine Ge ?_)) (fun X a T=>⟨Ext X,?_,?_⟩)
    ·exact sY
    have k:=q.E a O;have t:∀W,Ext X W->CC W b (o+1) (AA f.name):=fun W e=>((d.Q a).Q e).cell (i 1 _ rfl) O;have B:∀W,Ext X W->CC W b (o+2) (iV f.val):=fun W e=>((d.Q a).Q e).cell (i 2 _ rfl) O;have Z:∀W,Ext X W->CC W b (o+3) (iV f.bound):=fun W e=>((d.Q a).Q e).cell (i 3 _ rfl) O;have c:∀W,Ext X W->CC W w.heap.size (0+0) (AA s.sign):=fun W e=>(k.E e O).cell rfl;have r:∀W,Ext X W->CC W w.heap.size (0+8) (iV (s.usual:Int)):=fun W e=>(k.E e O).cell rfl;refine go ?_;replace d:=d.Q a;replace q:=k;clear t B Z c r k a T;refine DY (rd 0 7 (.alt 7 (rd 8 3 .done) .stop)) AX rD (by repeat (first|exact Dg|refine De ?_|refine Ge ?_)) (fun X a T=>⟨Ext X,?_,?_⟩)
    ·exact sY
    have k:=q.E a O;have t:∀W,Ext X W->CC W b (o+1) (AA f.name):=fun W e=>((d.Q a).Q e).cell (i 1 _ rfl) O;have B:∀W,Ext X W->CC W b (o+2) (iV f.val):=fun W e=>((d.Q a).Q e).cell (i 2 _ rfl) O;have Z:∀W,Ext X W->CC W b (o+3) (iV f.bound):=fun W e=>((d.Q a).Q e).cell (i 3 _ rfl) O;have c:∀W,Ext X W->CC W w.heap.size (0+0) (AA s.sign):=fun W e=>(k.E e O).cell rfl;have r:∀W,Ext X W->CC W w.heap.size (0+8) (iV (s.usual:Int)):=fun W e=>(k.E e O).cell rfl;refine D_R rfl rfl (fun W I=>AV rfl Z3) (D_R rfl rfl (fun W I=>AQ rfl (c W I) Z3) ?_);(apply D_R rfl rfl;(intro W I;(refine GR rfl rfl rX ?_);exact AB ⟨rfl,rfl,rfl⟩))
    refine D_R rfl rfl (fun W I=>Aq rfl Z3) (D_R rfl rfl (fun W I=>A7 rfl Z3) (D_R rfl rfl (fun W I=>AV rfl Z3) (D_R rfl rfl (fun W I=>AQ rfl (B W I) Z3) ?_)));refine D_E rfl ?_;refine Av (Kj X f.val (z.ext (d.Q a))) rfl ?_ ?_;rotate_left
    ·rintro y A⟨rfl,x,rfl⟩;rw[Mm M U]at x;cases x
    rintro v A⟨rfl,_,g⟩;have H:=J2 (n:=f.val) U;refine AB ⟨Ext A,fun _ e=>g.Q e,Ext.refl _,?_⟩;(apply D_R rfl rfl;(intro W I;(refine GR rfl rfl rX ?_);exact AB ⟨rfl,rfl,rfl⟩))
    (apply D_R rfl rfl;(intro W I;(refine GR rfl rfl rX ?_);exact AB ⟨rfl,rfl,rfl⟩))
    refine D_R rfl rfl (fun W I=>AT (BL rfl Z3)) (Cy ?_);refine nX ?_
    have e:sgT f.op f.name f.val f.bound=s.sign++[91]++Br f.val++[93,32]:=by
     unfold sgT;rw[V];simp[p,D]
    exact AC rfl ⟨by rw[e];rfl,(d.Q a).Q g,fun h=>absurd h u⟩
 ·refine go ?_;have K:CC w1 w.heap.size (0+0) (AA s.sign):=q.cell rfl;refine go ?_;have e:sgT f.op f.name f.val f.bound=s.sign:=by simp[sgT,u,m,G,P,V]
  exact AC rfl ⟨by rw[e];rfl,d,fun h=>absurd h u⟩
def Lk:=@List.flatMap_append
inductive Pc where
 |txt (t:LU)
 |sub (f:Fml) (n:Nat)
def Fj(b o n:Nat):LV:=[AA [],.pointer (sn b o),iV (n:Int)]
def EE(t:LU):LV:=[AA t,.pointer none,iV 0]
def YZ(ok:Nat->Prop)(w:World)(c:LV):Pc->Prop
 | .txt t=>c=EE t
 | .sub f n=>∃b o,c=Fj b o n/\PF ok w b o f
def pcR:Rp Pc where
 fits:=YZ
 size:=3
 len {ok w c a} h:=by
  cases a with
  |txt t=>have h:c=EE t:=h;subst h;rfl
  |sub f n=>obtain⟨b,o,rfl,_⟩:=h;rfl
 one {ok w c a} h:=by
  cases a with
  |txt t=>
   have h:c=EE t:=h;subst h;intro u d;simp[EE]at d;rcases d with rfl|rfl|rfl<;>rfl
  |sub f n=>obtain⟨b,o,rfl,_⟩:=h;intro u d;simp[Fj]at d;rcases d with rfl|rfl|rfl<;>rfl
 E {ok X w w' c a} h k hX:=by
  cases a with
  |txt t=>exact h
  |sub f n=>obtain⟨b,o,e,C⟩:=h;exact⟨b,o,e,C.E k hX⟩
 lt {ok w c a} h:=by
  cases a with
  |txt t=>exact h
  |sub f n=>obtain⟨b,o,e,C⟩:=h;exact⟨b,o,e,C.lt⟩
 mono {ok ok' w c a} h hk:=by
  cases a with
  |txt t=>exact h
  |sub f n=>obtain⟨b,o,e,C⟩:=h;exact⟨b,o,e,C.mono hk⟩
def EC(next:Nat)(g:LU):LF->List Pc
 | []=>[]
 |a::l=>.txt g:: .sub a next::EC next g l
def DQ(first next:Nat)(g:LU):LF->List Pc
 | []=>[]
 |a::l=>.sub a first::EC next g l
def VS(next:Nat)(g:LU):∀l,(EC next g l).length=2*l.length
 | []=>rfl
 |a::l=>by simp[EC,VS next g l];omega
def UU(next:Nat)(g:LU)(a:Fml):∀l,EC next g (l++[a])=EC next g l++[.txt g,.sub a next]
 | []=>rfl
 |c::l=>by simp[EC,UU next g a l]
def cL{first next:Nat}{g:LU}{a:Fml}{l:LF}(h:l≠[]):DQ first next g (l++[a])=DQ first next g l++[.txt g,.sub a next]:=by
 cases l with
 |nil=>exact absurd rfl h
 |cons c l=>simp[DQ,UU]
def UV(first next:Nat)(g:LU)(l:LF):(DQ first next g l).length<=2*l.length:=by
 cases l with
 |nil=>simp[DQ]
 |cons a l=>simp[DQ,VS];omega
def Dw(s:Sty)(n:Nat):List Pc:=if s.level<n then[.txt [40]]else[]
def FY(s:Sty)(n:Nat):List Pc:=if s.level<n then[.txt [41]]else[]
def DR(g:LU)(k:Nat):List Pc:=if k<2 then[.txt g]else[]
def pcs(s:Sty)(n:Nat)(f:Fml):List Pc:=
 Dw s n++DR (sgT f.op f.name f.val f.bound) f.args.length++DQ s.first s.next (sgT f.op f.name f.val f.bound) f.args++FY s n
structure PS(C B:Nat)(v:Value)(L:List (LV))(ps:List Pc)(W:World):Prop where
 own:W.ownsRow B 160 3 v ps.length L.flatten
 rs:RsAt pcR (fun b=>b<C) W L ps
 le:C<=B
def PS.ext{C B:Nat}{v:Value}{L:List (LV)}{A:List Pc}{W Z:World}(h:PS C B v L A W)(k:Ext W Z):PS C B v L A Z:=⟨CD h.own k,h.rs.ext k,h.le⟩
def PS.app{C B:Nat}{v v2:Value}{L M:List (LV)}{A qs:List Pc}{W1 H:World}(h:PS C B v L A W1)(a:Apd W1 H B 160 3 v v2 (A.length+qs.length) (L.flatten++M.flatten))(V:RsAt pcR (fun b=>b<C) W1 M qs):PS C B v2 (L++M) (A++qs) H:=by
 have T:∀b,b<C->b∉v.ownBlock.toList:=fun b S c=>by
  have:=(Ao h.own (Aw.1 c)).1;have:=h.le;omega
 refine⟨?_,(h.rs.E a.E T).app (V.E a.E T),h.le⟩;rw[A9,FN];exact a.own
def PS.nil{C B:Nat}(h:C<=B)(W:World):PS C B (nS) [] [] W:=⟨⟨by simp,.inl ⟨rfl,rfl⟩⟩,RsAt.nil,h⟩
def Oo(ok:Nat->Prop)(w:World)(t:LU):RsAt pcR ok w [EE t] [.txt t]:=RsAt.one (R:=pcR) (a:=.txt t) rfl
def PS.form{C B:Nat}{v:Value}{L:List (LV)}{A:List Pc}{W:World}(h:PS C B v L A W):∃a c,v=.slice a A.length c:=by
 rcases h.own.2 with⟨rfl,b⟩|⟨g,u,d,rfl,_⟩
 ·exact⟨none,0,by rw[b]⟩
 ·exact ud
def Gy:Pc->LU
 | .txt t=>t
 | .sub f n=>prF n f
def WA(next:Nat)(g:LU):∀l,(EC next g l).flatMap Gy=prR next g l
 | []=>by simp[EC,prR]
 |a::l=>by simp[EC,prR,Gy,WA next g l]
def Xg{f:Fml}{s:Sty}(E:Bh f.op=some s)(n:Nat):(pcs s n f).flatMap Gy=prF n f:=by
 have V:BH f.op=s:=by unfold BH;rw[E];rfl
 cases f with
 |mk op nm v b args=>
  have V:BH op=s:=V;simp only[prF,V]
  have t:(DR (sgT op nm v b) args.length++DQ s.first s.next (sgT op nm v b) args).flatMap Gy=prA s.first s.next (sgT op nm v b) args:=by
   cases args with
   |nil=>simp[DR,DQ,prA,Gy]
   |cons a l=>
    cases l with
    |nil=>simp[DR,DQ,EC,prA,prR,Gy]
    |cons c l=>
     have W:¬(l.length+1+1<2):=by omega
     simp[DR,DQ,prA,Gy,WA,W]
  have e:pcs s n (.mk op nm v b args)=Dw s n++(DR (sgT op nm v b) args.length++DQ s.first s.next (sgT op nm v b) args)++FY s n:=by
   show Dw s n++DR (sgT op nm v b) args.length++DQ s.first s.next (sgT op nm v b) args++FY s n=_
   simp
  rw[e,Lk,Lk,t];by_cases N:s.level<n
  ·simp[Dw,FY,N,NJ,Gy]
  ·simp[Dw,FY,N,NJ]
def Rs:=@Bool.and_true
def Ke:=@List.take_zero
def Qj{f:Fml}{s:Sty}(E:Bh f.op=some s):E4 f.op f.name f.val f.bound f.args.length=(F9 s f&&(!decide (f.op=3)||BP f.name)):=by
 unfold E4 F9;rw[E];by_cases R:f.op=3
 ·simp only[R,DN,decide_true,Bool.not_true,Ha,SM,Rs]
  congr 1
  rw[RF];simp only[AZ,BD];constructor
  ·rintro⟨a,b,c,d,e,g⟩;exact⟨⟨⟨a,b⟩,c,d⟩,e,g⟩
  ·rintro⟨⟨⟨a,b⟩,c,d⟩,e,g⟩;exact⟨a,b,c,d,e,g⟩
 ·simp only[R,Dh,decide_false,Bool.not_false,Ha,SM,Rs];rw[RF];simp only[AZ,BD];constructor
  ·rintro⟨⟨a,b,c,d,e,g⟩,k⟩;exact⟨⟨⟨⟨a,b⟩,c,d⟩,e,g⟩,k⟩
  ·rintro⟨⟨⟨⟨a,b⟩,c,d⟩,e,g⟩,k⟩;exact⟨⟨a,b,c,d,e,g⟩,k⟩
set_option maxHeartbeats 3200000 in
def gI(w:World)(C:Nat)(hC:C<=w.heap.size)(s:Sty)(b o n:Nat)(f:Fml)(hf:PF (fun b=>b<C) w b o f)(E:Bh f.op=some s)(hn:n<=9)(hk:f.args.length<=1000000)(hG:GP w):
  FnP Zp 104 [BM s,.pointer (sn b o),iV (n:Int)] w
   (fun v w'=>Ext w w'/\E4 f.op f.name f.val f.bound f.args.length=true/\∃L B,w.heap.size<=B/\PS C B v L (pcs s n f) w')
   (fun ch w'=>ch=unp/\Ext w w'/\E4 f.op f.name f.val f.bound f.args.length=false):=by
 obtain⟨_,a,c,LA,a4,b7,a0⟩:=hf.form;have d2:(sgT f.op f.name f.val f.bound).length<=1000000\/True:=.inr trivial;refine CK func104 rfl ntmps104 nlr rD (go ?_);refine Ac (L:=Bz s) rfl (fun Q F=>?_);have b1:=F.D;have i:=F.E;refine go ?_;refine Av (dR Q s b o f a c (a4.E i O)) rfl ?_ ?_;rotate_left
 ·rintro ch w2⟨rfl,m,hb⟩;refine go ?_;exact Ap ⟨rfl,i.Q m,by rw[Qj E,hb];rfl⟩
 rintro _ w2⟨rfl,m,a3⟩;refine nX ?_;have b2:=b1.E m O;have b3:=m;have z1:=F.size;replace m:=i.Q m;have z2:=m.size;refine AN (AT (BY rfl ?_));refine nX ?_;have l1:CC w2 w.heap.size (0+1) (iV (s.level:Int)):=b2.cell rfl;refine CE (α:=Value×List (LV)) (fun x=>[(1,.pointer (sn b o)),(2,iV (n:Int)),(3,.pointer (sm w.heap.size)),(7,x.1),(16,.bool (decide (s.level<n)))]) (fun x W=>x=(nS,[])/\w2=W) ?_ ?_
 ·by_cases N:s.level<n
  ·rw[BE N];refine go ?_;exact Af (_,_) ag ⟨rfl,rfl⟩
  ·rw[BC N];refine go ?_;exact Af (_,_) ag ⟨rfl,rfl⟩
 rintro _ _ f3⟨rfl,rfl⟩;refine CE (α:=Value×List (LV)) (fun x=>[(1,.pointer (sn b o)),(2,iV (n:Int)),(3,.pointer (sm w.heap.size)),(7,x.1)]) (fun x W=>Ext Q W/\PS C Q.heap.size x.1 x.2 (Dw s n) W) ?_ ?_
 ·by_cases N:s.level<n
  ·rw[BE N];refine go ?_;have d0:([]:List Pc).length=0:=rfl;refine Ay (out:=EE [40]) rfl U rD (fun w3 n3=>?_);have z:=(n3).own (n:=1) (size:=3) rfl rI (AO _);have d:=(PS.nil (Az hC F.E.size) w2).ext (n3).E;have zA:=(n3).size;refine Bk (ok:=AL) (v:=nS) rfl rfl d.own (BG z fun _ _=>trivial) U rfl rfl sD U U U (fun v3 w4 h=>?_);have l:Ext Q w4:=((b3).Q (n3).E).E h.E (fun y g=>(Ao d.own (Aw.1 g)).1);refine go ?_;refine Af (v3,[]++[EE [40]]) ag ⟨l,?_⟩;rw[Dw,AJ N];exact d.app (qs:=[.txt [40]]) (M:=[EE [40]]) rT (Oo _ _ _)
  ·rw[BC N];refine go ?_;refine Af (_,[]) ag ⟨b3,?_⟩;rw[Dw,AG N];exact PS.nil (Az hC F.E.size) _
 rintro⟨v,L⟩w5 f5⟨H,V⟩;simp only at V⊢;refine go ?_;have j:∀W,Ext Q W->Blk W w.heap.size 163 (Bz s):=fun W e=>b1.E e O;have b5:=j w5 H;refine go ?_;refine Av (gg w5 s b o f _ (a4.E (i.Q H) O) E a3 (hG.ext (i.Q H))) rfl ?_ ?_;rotate_left
 ·rintro ch w6⟨rfl,q,Z,hb⟩;refine go ?_;exact Ap ⟨rfl,(i.Q H).Q q,by rw[Qj E,a3];simp[Z,hb]⟩
 rintro _ w6⟨rfl,q,c5⟩
 have a9:E4 f.op f.name f.val f.bound f.args.length=true:=by
  rw[Qj E,a3];by_cases Z:f.op=3
  ·simp[c5 Z]
  ·simp[Z]
 ((refine AT ?_;refine BL rfl ?_))
 refine nX ?_;have K:Ext Q w6:=H.Q q;have d3:=K.size;replace V:=V.ext q;clear H q b5;generalize c7:sgT f.op f.name f.val f.bound=sg;have X:∀W,Ext Q W->CC W b (o+4) (.slice a f.args.length c):=fun W e=>e.cell (i.cell (a4 4 _ rfl) O) O;have fa6:=X w6 K;have d1:(Dw s n).length<=1:=by unfold Dw;split<;>simp
 refine CE (α:=Unit) (fun _=>[(1,.pointer (sn b o)),(2,iV (n:Int)),(3,.pointer (sm w.heap.size)),(7,v),(8,AA sg),(29,.bool (decide (f.args.length<2)))]) (fun _ W=>w6=W) ?_ ?_
 ·by_cases N:f.args.length<2
  ·rw[BE N];exact sh
  ·rw[BC N];exact sh
 rintro _ _ f6 rfl;refine CE (α:=Value×List (LV)) (fun x=>[(1,.pointer (sn b o)),(2,iV (n:Int)),(3,.pointer (sm w.heap.size)),(7,x.1),(8,AA sg)]) (fun x W=>Ext Q W/\PS C Q.heap.size x.1 x.2 (Dw s n++DR sg f.args.length) W) ?_ ?_
 ·by_cases N:f.args.length<2
  ·rw[BE N];refine go ?_;refine Ay (out:=EE sg) rfl U rD (fun w7 n7=>?_);have z:=(n7).own (n:=1) (size:=3) rfl rI (AO _);have d:=(V).ext (n7).E;have zA:=(n7).size;refine Bk (ok:=AL) (v:=v) rfl rfl d.own (BG z fun _ _=>trivial) U rfl rfl sD U U U (fun v7 S h=>?_);have l:Ext Q S:=((K).Q (n7).E).E h.E (fun y g=>(Ao d.own (Aw.1 g)).1);refine go ?_;refine Af (v7,L++[EE sg]) ag ⟨l,?_⟩;rw[DR,AJ N];exact d.app (qs:=[.txt sg]) (M:=[EE sg]) rT (Oo _ _ _)
  ·rw[BC N];refine go ?_;refine Af (v,L) ag ⟨K,?_⟩;rw[DR,AG N,Ch];exact V
 clear V K fa6;rintro⟨v0,L0⟩w7 f7⟨k7,a1⟩;simp only at a1⊢;refine go ?_;have b6:=X w7 k7;refine go ?_
 have c8:(Dw s n++DR sg f.args.length).length<=2:=by
  rw[A9];have:(DR sg f.args.length).length<=1:=by unfold DR;split<;>simp
  omega
 refine Aj (α:=Nat×Value×List (LV)) (fun x=>[(1,.pointer (sn b o)),(2,iV (n:Int)),(3,.pointer (sm w.heap.size)),(7,x.2.1),(8,AA sg),(39,iV (f.args.length:Int)),(40,iV (x.1:Int))])
  (fun x W=>x.1<=f.args.length/\Ext Q W/\PS C Q.heap.size x.2.1 x.2.2 (Dw s n++DR sg f.args.length++DQ s.first s.next sg (f.args.take x.1)) W) (fun x=>f.args.length-x.1)
  (0,v0,L0) ag ⟨by simp,k7,by simp only[Ke,DQ,Ch];exact a1⟩ ?_
 clear a1 k7 b6;rintro⟨k,v8,T⟩S f8⟨c2,p,G⟩;simp only at c2 p G⊢;refine go ?_;have z8:=p.size;by_cases a7:k<f.args.length
 ·obtain⟨x,hx⟩:∃x,f.args[k]?=some x:=⟨_,AU a7⟩;obtain⟨u,a5⟩:∃u,LA[k]?=some u:=⟨_,AU (by rw[a0.1];exact a7)⟩;obtain⟨r,D,rfl,b9,c0⟩:=b7.fml a0.2.1 a5 a7;have b0:∀W,Ext w W->PF (fun b=>b<C) W r (D+k*5) x:=fun W e=>⟨b9,u,a0.2.1 u (BA a5),c0.E e O,(a0.2.2 k u x a5 hx).ext e⟩;have htk:f.args.take (k+1)=f.args.take k++[x]:=by rw[CT,hx];rfl
  have b8:=UV s.first s.next sg (f.args.take k)
  have htl:(f.args.take k).length=k:=by simp;omega
  have c4:(Dw s n++DR sg f.args.length++DQ s.first s.next sg (f.args.take k)).length<=2+2*k:=by rw[A9];omega
  have g2:∀W,Ext Q W->CC W w.heap.size (0+2) (iV (s.first:Int)):=fun W e=>(j W e).cell rfl;have g3:∀W,Ext Q W->CC W w.heap.size (0+3) (iV (s.next:Int)):=fun W e=>(j W e).cell rfl;refine go ?_;by_cases c9:0<k
  ·refine go ?_;refine Ab (rd 0 12 (.alt 12 (.alt 13 (.read 14 .done) .stop) .stop)) AX rD (fun wd A ed=>⟨Ext Q,?_,?_⟩)
   ·exact p.Q A
   have a2:=G.ext A;have t:=p.Q A;have zd:=t.size;((refine D_R rfl rfl (fun W I=>GQ dz) ?_)<;>(refine D_R rfl rfl (fun W I=>BL rfl dz) ?_)<;>(apply D_R rfl rfl;(intro W I;refine DB rF rF ?_;exact AB ⟨rfl,rfl,rfl⟩))<;>(refine D_R rfl rfl (fun W I=>Aq rfl dz) ?_)<;>(refine D_R rfl rfl (fun W I=>A7 rfl dz) ?_)<;>(refine D_R rfl rfl (fun W I=>AV rfl dz) ?_)<;>(refine D_R rfl rfl (fun W I=>AQ rfl (X W I) dz) ?_)<;>(refine D_R rfl rfl (fun W I=>AS rfl dz) ?_)<;>(apply D_R rfl rfl;(intro W I;refine DZ rfl rfl rfl U ?_;exact AB ⟨rfl,rfl,rfl⟩))<;>(refine D_R rfl rfl (fun W I=>AV rfl dz) ?_)<;>(refine D_R rfl rfl (fun W I=>AQ rfl (g3 W I) dz) ?_)<;>(apply D_R rfl rfl;(intro W I;refine DB rF rF ?_;exact AB ⟨rfl,rfl,rfl⟩)))
   refine D_E rfl ?_;refine Ay (out:=EE sg++Fj r (D+k*5) s.next) rfl U rD (fun wA P=>?_);have z:=P.own (n:=2) (size:=3) rfl rI (AO _);have d:=a2.ext P.E;have zA:=P.size;refine AB ⟨Ext Q,fun _ e=>e,t.Q P.E,?_⟩;refine D_E rfl ?_;refine Bk (ok:=AL) (v:=v8) rfl rfl d.own (BG z fun _ _=>trivial) U rfl rfl sD U U U (fun vB wB h=>?_);have l:Ext Q wB:=(t.Q P.E).E h.E (fun y g=>(Ao d.own (Aw.1 g)).1);refine AB ⟨Ext Q,fun _ e=>e,l,?_⟩;refine go ?_;refine⟨(k+1,vB,T++[EE sg,Fj r (D+k*5) s.next]),⟨rfl,⟨rfl,rfl,rfl,rfl,rfl,rfl,?_,trivial⟩,⟨by simp only;omega,l,?_⟩⟩,by simp only;omega⟩
   ·show iV ((k:Int)+1)=_;rw[BB];rfl
   ·simp only
    have c6:f.args.take k≠[]:=by
     intro h0;rw[h0]at htl;simp at htl;omega
    rw[htk,cL c6,<-Cg];refine d.app (qs:=[.txt sg,.sub x s.next]) (M:=[EE sg,Fj r (D+k*5) s.next]) rT ?_;exact(Oo _ _ _).snoc (a:=Pc.sub x s.next) ⟨r,D+k*5,rfl,b0 _ (i.Q (t.Q P.E))⟩
  ·have c1:k=0:=by omega
   subst c1;refine go ?_;refine Ab (rd 0 10 (.alt 10 (.alt 11 (.read 12 .done) .stop) .stop)) AX rD (fun wd A ed=>⟨Ext Q,?_,?_⟩)
   ·exact p.Q A
   have a2:=G.ext A;have t:=p.Q A;have zd:=t.size;((refine D_R rfl rfl (fun W I=>GQ dz) ?_)<;>(refine D_R rfl rfl (fun W I=>Aq rfl dz) ?_)<;>(refine D_R rfl rfl (fun W I=>A7 rfl dz) ?_)<;>(refine D_R rfl rfl (fun W I=>AV rfl dz) ?_)<;>(refine D_R rfl rfl (fun W I=>AQ rfl (X W I) dz) ?_)<;>(refine D_R rfl rfl (fun W I=>AS rfl dz) ?_)<;>(apply D_R rfl rfl;(intro W I;refine DZ rfl rfl rfl U ?_;exact AB ⟨rfl,rfl,rfl⟩))<;>(refine D_R rfl rfl (fun W I=>AV rfl dz) ?_)<;>(refine D_R rfl rfl (fun W I=>AQ rfl (g2 W I) dz) ?_)<;>(apply D_R rfl rfl;(intro W I;refine DB rF rF ?_;exact AB ⟨rfl,rfl,rfl⟩)))
   refine D_E rfl ?_;refine Ay (out:=Fj r (D+0*5) s.first) rfl U rD (fun wA P=>?_);have z:=P.own (n:=1) (size:=3) rfl rI (AO _);have d:=a2.ext P.E;have zA:=P.size;refine AB ⟨Ext Q,fun _ e=>e,t.Q P.E,?_⟩;refine D_E rfl ?_;refine Bk (ok:=AL) (v:=v8) rfl rfl d.own (BG z fun _ _=>trivial) U rfl rfl (by intro y g;simp[Fj]at g;rcases g with rfl|rfl|rfl<;>rfl) U U U (fun vB wB h=>?_);have l:Ext Q wB:=(t.Q P.E).E h.E (fun y g=>(Ao d.own (Aw.1 g)).1);refine AB ⟨Ext Q,fun _ e=>e,l,?_⟩;refine go ?_;refine⟨(0+1,vB,T++[Fj r (D+0*5) s.first]),⟨rfl,ag,⟨by simp only;omega,l,?_⟩⟩,by simp only;omega⟩;simp only;rw[htk,Ke,Ef];rw[Ke]at d h;simp only[DQ,EC,Ch]at d h⊢;refine d.app (qs:=[.sub x s.first]) (M:=[Fj r (D+0*5) s.first]) rT ?_;exact RsAt.one (R:=pcR) (a:=Pc.sub x s.first) ⟨r,D+0*5,rfl,b0 _ (i.Q (t.Q P.E))⟩
 ·have c3:k=f.args.length:=by omega
  subst c3;rw[Co]at G;have b8:=UV s.first s.next sg f.args
  have c4:(Dw s n++DR sg f.args.length++DQ s.first s.next sg f.args).length<=2+2*f.args.length:=by rw[A9];omega
  refine go ?_;have l8:CC S w.heap.size (0+1) (iV (s.level:Int)):=(j S p).cell rfl;have a8:pcs s n f=Dw s n++DR sg f.args.length++DQ s.first s.next sg f.args++FY s n:=by unfold pcs;rw[c7]
  by_cases N:s.level<n
  ·refine go ?_;refine Ay (out:=EE [41]) rfl U rD (fun w9 n9=>?_);have z:=(n9).own (n:=1) (size:=3) rfl rI (AO _);have d:=(G).ext (n9).E;have zA:=(n9).size;refine Bk (ok:=AL) (v:=v8) rfl rfl d.own (BG z fun _ _=>trivial) U rfl rfl sD U U U (fun v9 b4 h=>?_);have l:Ext Q b4:=((p).Q (n9).E).E h.E (fun y g=>(Ao d.own (Aw.1 g)).1);refine go ?_
   have a6:PS C Q.heap.size v9 (T++[EE [41]]) (pcs s n f) b4:=by
    rw[a8,FY,AJ N];exact d.app (qs:=[.txt [41]]) (M:=[EE [41]]) rT (Oo _ _ _)
   exact AC rfl ⟨i.Q l,a9,_,_,F.E.size,a6⟩
  ·refine go ?_
   have a6:PS C Q.heap.size v8 T (pcs s n f) S:=by
    rw[a8,FY,AG N,Ch];exact G
   exact AC rfl ⟨i.Q p,a9,_,_,F.E.size,a6⟩
def Tk:=@List.getElem?_reverse
def TT:=@List.getElem?_set_self
def P3:=@List.mem_or_eq_of_mem_set
def aM{d X c:LV}{k:Nat}:splice (d++X) (d.length+k) c=d++splice X k c:=by
 simp only[splice];rw[List.take_length_add_append,GH,List.drop_length_add_append,Cg]
def MA{c rest:LV}(T:c.length=3):∀(M:List (LV))(i:Nat),(∀d∈M,d.length=3)->i<M.length->splice (M.flatten++rest) (i*3) c=(M.set i c).flatten++rest
 | [],i,_,h=>by simp at h
 |d::M,0,hM,_=>by
  have a:=hM d O;simp only[splice,Do,List.set_cons_zero,Ou,Ke,Ef,Bs,Cg];rw[show c.length=d.length by omega,List.drop_left]
 |d::M,i+1,hM,h=>by
  have a:=hM d O;have n:=MA (rest:=rest) T M i (fun x V=>hM x ri) rT;rw[Do,List.set_cons_succ,Do,Cg,show(i+1)*3=d.length+i*3 by rw[a,He];omega,aM,n,Cg]
def WD{w:World}{B e n cap:Nat}{a:Option Addr}{L:List (LV)}(h:w.ownsRow B e 3 (.slice a n cap) n L.flatten)(H:0<n):
  ∃g rest,a=some ⟨g,0,none⟩/\B<=g/\Blk w g e (L.flatten++rest)/\∀(W:World)(M:List (LV)),Blk W g e (M.flatten++rest)->M.flatten.length=L.flatten.length->W.ownsRow B e 3 (.slice a n cap) n M.flatten:=by
 obtain⟨N,s⟩:=h;rcases s with⟨_,rfl⟩|⟨g,c,C,s,x,y,Z,b,R,A⟩
 ·omega
 ·cases s;refine⟨g,C.toList.drop (n*3),rfl,x,?_,fun W M S r=>⟨by rw[r];exact N,.inr ⟨g,cap,(M.flatten++C.toList.drop (n*3)).toArray,rfl,x,S,Z,b,?_,?_⟩⟩⟩
  ·rw[<-A,HB];simpa[Blk]using y
  ·have:C.toList.length=C.size:=by simp
   have G:n*3<=C.toList.length:=by
    have:=congrArg List.length A;rw[DE,N]at this;omega
   simp only[IZ,A9,HY];rw[r,N];omega
  ·rw[show n*3=M.flatten.length by rw[r,N]];simp
def MP{w:World}{g:Nat}{T:TypeId}{M:List (LV)}{rest:LV}(h:Blk w g T (M.flatten++rest))(F:∀d∈M,d.length=3){i:Nat}{c:LV}(a:M[i]?=some c):Cells w g (0+i*3) c:=by
 intro j u o;have Z:=Hc 3 M i j c u F a o;have z:=(Ah.1 Z).1;have:=h.cells (i*3+j) u (by rw[D4 z];exact Z);rw[show 0+i*3+j=0+(i*3+j) by omega];exact this
def RevK(L M:List (LV))(k:Nat):Prop:=M.length=L.length/\∀x,x<L.length->M[x]?=if x<k\/L.length<=x+k then L[L.length-1-x]? else L[x]?
def RevK.done{L M:List (LV)}{k:Nat}(h:RevK L M k)(W:L.length<=2*k+1):M=L.reverse:=by
 refine H1 fun x=>?_;by_cases V:x<L.length
 ·rw[h.2 x V,Tk V]
  split
  ·rfl
  ·rw[show L.length-1-x=x by omega]
 ·rw[EF (by rw[h.1];omega),EF rE]
def RevK.step{L M:List (LV)}{k:Nat}{c d:LV}(h:RevK L M k)(W:2*k+1<L.length)(T:L[k]?=some c)(a:L[L.length-1-k]?=some d):RevK L ((M.set k d).set (L.length-1-k) c) (k+1):=by
 refine⟨by simp[h.1],fun x V=>?_⟩;by_cases Z:x=L.length-1-k
 ·subst Z;rw[TT (by simp[h.1];omega),AJ U];rw[show L.length-1-(L.length-1-k)=k by omega,T]
 ·rw[QD (FE Z)];by_cases R:x=k
  ·subst R;rw[TT (by rw[h.1];omega),AJ U,a]
  ·rw[QD (FE R),h.2 x V];by_cases A:x<k\/L.length<=x+k
   ·rw[AJ A,AJ U]
   ·rw[AG A,AG U]
set_option maxHeartbeats 1600000 in
def dV(w:World)(C B:Nat)(v:Value)(L:List (LV))(A:List Pc)(h:PS C B v L A w):
  Fn Zp 105 [v] w fun _ w'=>PS C B v L.reverse A.reverse w'/\Keep v.ownBlock.toList w w':=by
 obtain⟨a,G,rfl⟩:=h.form;have X:L.length=A.length:=h.rs.1;have I:∀d∈L,d.length=3:=h.rs.len
 have a5:∀W,Keep (Value.slice a A.length G).ownBlock.toList w W->RsAt pcR (fun b=>b<C) W L.reverse A.reverse:=fun W k=>by
  have hX:∀b,b<C->b∉(Value.slice a A.length G).ownBlock.toList:=fun b hb V=>by
   have:=(Ao h.own (Aw.1 V)).1;have:=h.le;omega
  have F:=h.rs.E k hX;refine⟨by simp[X],fun i c p T n=>?_⟩;have hi:i<L.length:=by have:=(Ah.1 T).1;simpa using this
  rw[Tk hi]at T;rw[Tk U,<-X]at n;exact F.2 _ c p T n
 refine AM func105 rfl ntmps105 (go ?_)
 have b1:A.length<=9223372036854775807:=by
  obtain⟨_,s⟩:=h.own;rcases s with⟨_,h0⟩|⟨g,a6,a7,s,hB,hg,h1,h2,h3,h4⟩
  ·omega
  ·cases s;simp only[maxLen]at h2;omega
 refine go ?_;by_cases H:A.length=0
 ·have a4:A=[]:=Hz.1 H;have a1:L=[]:=Hz.1 U;refine Aj (α:=Unit) (fun _=>[(2,iV 0),(3,iV (-1))]) (fun _ W=>W=w) (fun _=>0) () ⟨rfl,congrArg (Value.int .i64) (by rw[H];rfl),trivial⟩ rfl ?_;rintro _ W f1 rfl;refine go ?_;refine Bt rfl ⟨?_,Keep.refl _ _⟩;subst a4;subst a1;exact h
 ·obtain⟨g,a0,rfl,a8,a3,a2⟩:=WD h.own U
  refine Aj (α:=Nat×List (LV)) (fun x=>[(0,.slice (sm g) A.length G),(2,iV (x.1:Int)),(3,iV ((A.length:Int)-1-(x.1:Int)))])
   (fun x W=>2*x.1<=A.length/\Keep [g] w W/\Blk W g 160 (x.2.flatten++a0)/\(∀d∈x.2,d.length=3)/\RevK L x.2 x.1) (fun x=>A.length-x.1) (0,L) ⟨rfl,rfl,congrArg (Value.int .i64) O,trivial⟩
   ⟨by simp,Keep.refl _ _,a3,I,rfl,fun x V=>by rw[AG (by simp only;omega)]⟩ ?_
  rintro⟨k,M⟩w1 f1⟨hk,K,q,f,Z⟩;simp only at hk K q f Z⊢;refine go ?_;by_cases b0:2*k+1<A.length
  ·obtain⟨c,E⟩:∃c,L[k]?=some c:=⟨_,AU U⟩;obtain⟨d,t⟩:∃d,L[L.length-1-k]?=some d:=⟨_,AU U⟩;have D:M[k]?=some c:=by rw[Z.2 k U,AG U];exact E
   have R:M[A.length-1-k]?=some d:=by
    rw[Z.2 _ U,AG U,<-X];exact t
   have j:=I c (BA E);have l:=I d (BA t);have ej:(A.length:Int)-1-(k:Int)=((A.length-1-k:Nat):Int):=by omega
   rw[ej];refine go ?_;refine Ab (rd 0 7 (rd 8 3 (.alt 7 (.alt 11 (.read 12 (.alt 13 (.read 14 (.alt 15 .done .stop)) .stop)) .stop) (.alt 11 (.alt 7 (.read 12 (.alt 13 (.read 14 (.alt 15 .done .stop)) .stop)) .stop) .stop)))) AX rD (fun wd Q ed=>⟨fun _=>True,?_,?_⟩)
   ·trivial
   have m:=q.E Q O
   have oc:oneC c:=by
    obtain⟨p,n⟩:∃p,A[k]?=some p:=⟨_,AU U⟩;exact pcR.one (h.rs.2 _ c p E n)
   have od:oneC d:=by
    obtain⟨p,n⟩:∃p,A[L.length-1-k]?=some p:=⟨_,AU U⟩;exact pcR.one (h.rs.2 _ d p t n)
   have P:M.length=A.length:=by rw[Z.1,X]
   have a9:(M.flatten++a0).length>=A.length*3:=by
    rw[A9,EL 3 _ f,P];omega
   refine go ?_;refine D_A rfl ?_ (D_E rfl ?_)
   ·refine Al rfl l (MP m f R) ?_;refine wNl trivial ?_;refine D_E rfl ?_;refine Al rfl j (MP m f D) ?_;refine wNl trivial ?_;refine gE ?_;refine Aa (cs:=d) rfl rfl l od m U (fun w2 u=>?_);have o:=u.D;rw[Bs,MA l M k f U]at o
    have y:∀x∈M.set k d,x.length=3:=fun x V=>by
     rcases P3 V with V|rfl
     ·exact f x V
     ·exact l
    refine wNl trivial ?_;(apply D_R rfl rfl;(intro W hW;refine DZ (k:=A.length-1-k) rfl rfl rfl U ?_;exact AB ⟨rfl,rfl,rfl⟩))
    refine D_E rfl ?_;refine Aa (cs:=c) rfl rfl j oc o (by rw[A9,EL 3 _ y,Jq,P];omega) (fun w3 z=>?_);have r:=z.D;rw[Bs,MA j (M.set k d) (A.length-1-k) y (by rw[Jq];omega)]at r
    have N:∀x∈(M.set k d).set (A.length-1-k) c,x.length=3:=fun x V=>by
     rcases P3 V with V|rfl
     ·exact y x V
     ·exact j
    refine wNl trivial ?_;refine go ?_;refine⟨(k+1,(M.set k d).set (A.length-1-k) c),⟨rfl,⟨rfl,?_,?_,trivial⟩,⟨by simp only;omega,((K.ext Q).Q u.E O).Q z.E O,r,N,?_⟩⟩,by simp only;omega⟩
    ·show iV ((k:Int)+1)=_;rw[BB];rfl
    ·exact uM
    ·simp only;rw[<-X];exact Z.step U E t
   ·refine Al rfl j (MP m f D) ?_;refine wNl trivial ?_;refine D_E rfl ?_;refine Al rfl l (MP m f R) ?_;refine wNl trivial ?_;refine gE ?_;refine Aa (cs:=d) rfl rfl l od m U (fun w2 u=>?_);have o:=u.D;rw[Bs,MA l M k f U]at o
    have y:∀x∈M.set k d,x.length=3:=fun x V=>by
     rcases P3 V with V|rfl
     ·exact f x V
     ·exact l
    refine wNl trivial ?_;(apply D_R rfl rfl;(intro W hW;refine DZ (k:=A.length-1-k) rfl rfl rfl U ?_;exact AB ⟨rfl,rfl,rfl⟩))
    refine D_E rfl ?_;refine Aa (cs:=c) rfl rfl j oc o (by rw[A9,EL 3 _ y,Jq,P];omega) (fun w3 z=>?_);have r:=z.D;rw[Bs,MA j (M.set k d) (A.length-1-k) y (by rw[Jq];omega)]at r
    have N:∀x∈(M.set k d).set (A.length-1-k) c,x.length=3:=fun x V=>by
     rcases P3 V with V|rfl
     ·exact y x V
     ·exact j
    refine wNl trivial ?_;refine go ?_;refine⟨(k+1,(M.set k d).set (A.length-1-k) c),⟨rfl,⟨rfl,?_,?_,trivial⟩,⟨by simp only;omega,((K.ext Q).Q u.E O).Q z.E O,r,N,?_⟩⟩,by simp only;omega⟩
    ·show iV ((k:Int)+1)=_;rw[BB];rfl
    ·exact uM
    ·simp only;rw[<-X];exact Z.step U E t
  ·refine go ?_;have e:=Z.done U;subst e;have S:Keep (Value.slice (sm g) A.length G).ownBlock.toList w w1:=K.mono (by simp[Value.ownBlock]);refine Bt rfl ⟨⟨?_,a5 _ S,h.le⟩,S⟩;rw[List.length_reverse];exact a2 w1 _ q (by rw[EL 3 _ f,EL 3 _ I,List.length_reverse])
section
attribute [local semireducible] WC AF CO B0 Cx B8 Cc CB
variable {P:Program}{all:Array Oper}{Z:Fr->DS->List PanicEntry->World->Prop}{K:Fr->DS->World->Prop}{rest:List Oper}{f:Fr}{ds:DS}{w:World}{d:Nat}{ty:TypeId}{pos:String}{af:Array Edge}
def Qs{b:Nat}{T:TypeId}{L:LV}(h:Blk w b T L):w.shape? b=some (T,L.length):=by
 have h:w.heap[b]?=some (.cells L.toArray T (0,0)):=h;simp[World.shape?,h]
def cJ{S D e B:TypeId}{x:Operand}{b:Nat}{L:LV}[hT:Jc P S e](n:P.underlying D=some .unsafePointer)(V:ev f x=.pointer (sm b))(a:Blk w b B L)(N:0<L.length)
  (h:AF P all Z K rest (upd f d (.pointer (sm b))) ds w):AF P all Z K (⟨some d,.convert S D x,ty,pos,af,none⟩::rest) f ds w:=by
 refine At rfl ?_ h;obtain⟨j,C,E⟩:=hT.info;have c:=Lib.run_to_unsafe w ⟨b,0,none⟩ hT.und n C E (Qs a) N;simp[execOp,V,c]
def aD{S D e B:TypeId}{x:Operand}{b:Nat}{L:LV}[hT:Jc P D e](i:P.underlying S=some .unsafePointer)(V:ev f x=.pointer (sm b))(a:Blk w b B L)(c:liesAt P P.depth B (L.length/P.cellsOf B) 0 e 1=true)
  (h:AF P all Z K rest (upd f d (.pointer (sm b))) ds w):AF P all Z K (⟨some d,.convert S D x,ty,pos,af,none⟩::rest) f ds w:=by
 refine At rfl ?_ h;obtain⟨j,C,E⟩:=hT.info;have g:=Lib.run_from_unsafe w ⟨b,0,none⟩ i hT.und C (Qs a) c;simp[execOp,V,g]
def iQ{g:FuncId}{xs:List Operand}{m:Array TypeId}{vs:LV}{v:Value}(y:∀w,(callFunc g vs.toArray).run P w=.ok (.value v) w)(G:evL f xs=vs)(h:AF P all Z K rest (upd f d v) ds w):
  AF P all Z K (⟨some d,.call ⟨.value (.func g),xs.toArray,m⟩,ty,pos,af,none⟩::rest) f ds w:=by
 refine At rfl ?_ h;rw[J5]at G;have e:Array.map (ev f) xs.toArray=vs.toArray:=by rw[<-G];simp
 have S:=y w;rw[<-e]at S;simp only[execOp,resolve,ev,Deferred.ofValue,BX,Cq,Bc];simp[invoke]at S⊢;rw[S]
def dt{T S e:TypeId}{s x:Operand}{B n:Nat}{v:Value}{xs:LV}{t:LU}[hT:SlT P T e 1 1 (.int .u8 0)](q:P.underlying S=some .string)(hv:ev f s=v)(hx:ev f x=AA t)
  (z:w.ownsRow B e 1 v n xs)(V:n+t.length<=140737488355328)(hB:B<=w.heap.size)
  (h:∀k w',w'.ownsRow B e 1 k (n+t.length) (xs++Ez t)->Keep v.ownBlock.toList w w'->(k.ownBlock=v.ownBlock\/∀y,k.ownBlock=some y->w.heap.size<=y)->(k=nS\/v≠nS\/t≠[])->AF P all Z K rest (upd f d k) ds w'):
  AF P all Z K (⟨some d,.call ⟨.builtin .append,#[s,x],#[T,S]⟩,ty,pos,af,none⟩::rest) f ds w:=by
 obtain⟨i,F,p,l,N⟩:=hT.out;have D:(⟨t.toArray⟩:ByteArray).size=t.length:=rfl;have Q:n+(⟨t.toArray⟩:ByteArray).size<=maxLen:=by rw[D];simp only[maxLen];omega
 obtain⟨k,w',A,ho,G,a5⟩:=Lib.run_append_own_string (P:=P) w B T S ty e i hT.und q F p l N v n xs z ⟨t.toArray⟩ Q (by rw[D];exact V) hB
 have a0:k.ownBlock=v.ownBlock\/∀y,k.ownBlock=some y->w.heap.size<=y:=by
  rcases z.2 with⟨rfl,H⟩|⟨g,m,C,rfl,a,G,a4,a1,o,a7⟩
  ·obtain⟨v2,w2,b,a6,_,_⟩:=Lib.run_append_own_string (P:=P) w w.heap.size T S ty e i hT.und q F p l N _ n xs ⟨z.1,.inl ⟨rfl,H⟩⟩ ⟨t.toArray⟩ Q (by rw[D];exact V) (AO _);rw[A]at b;injection b with c e2;subst c;subst e2;refine .inr fun y I=>?_;rcases a6.2 with⟨rfl,_⟩|⟨g,m,C,rfl,a,_⟩
   ·cases I
   ·cases I;exact a
  ·have a2:C.size=m:=by simpa using o
   by_cases L:n+(⟨t.toArray⟩:ByteArray).size<=m
   ·have b:=Lib.run_append_room_string (P:=P) w T S ty e i hT.und q F l g n m C G ⟨t.toArray⟩ L U;rw[A]at b;injection b with c e2;exact .inl (by rw[c];rfl)
   ·have E:∀j u,xs[j]?=some u->w.cell? ((⟨g,0,none⟩:Addr).add j)=some u:=z.cells (g:=g) rfl;have b:=Lib.run_append_grow_string (P:=P) w T S ty e i (.int .u8 0) hT.und q F p ⟨g,0,none⟩ n m xs (by rw[l];exact z.1) E ⟨t.toArray⟩ U (by rw[D];omega) (by rw[N];exact Rr U (by rw[D];omega));rw[A]at b;injection b with c e2;refine .inr fun y I=>?_;rw[c]at I;cases I;exact AO _
 have a3:w.drawn<=w'.drawn:=by
  rcases z.2 with⟨rfl,H⟩|⟨g,m,C,rfl,a,G,a4,a1,o,a7⟩
  ·subst H;by_cases r:(⟨t.toArray⟩:ByteArray).size=0
   ·have X:=Lib.run_firstCells_string (P:=P) w 1 ⟨t.toArray⟩;rw[r]at X
    have b:(Builtin.append_ #[T,S] ty #[nS,.string ⟨t.toArray⟩]).run P w=.ok (nS) w:=by
     simp[Builtin.append_,BV hT.und,BV q,sizeOf,typeInfo,F,l,Builtin.lenOf,r,X]
    rw[A]at b;injection b with c e2;rw[e2];exact AO _
   ·have b:=run_append_nil_string (P:=P) w T S ty e i (.int .u8 0) hT.und q F p ⟨t.toArray⟩ U U (by rw[N];omega);rw[A]at b;injection b with c e2;rw[e2];exact Jx _
  ·have a2:C.size=m:=by simpa using o
   by_cases L:n+(⟨t.toArray⟩:ByteArray).size<=m
   ·have b:=Lib.run_append_room_string (P:=P) w T S ty e i hT.und q F l g n m C G ⟨t.toArray⟩ L U;rw[A]at b;injection b with c e2;rw[e2];exact AO _
   ·have E:∀j u,xs[j]?=some u->w.cell? ((⟨g,0,none⟩:Addr).add j)=some u:=z.cells (g:=g) rfl;have b:=Lib.run_append_grow_string (P:=P) w T S ty e i (.int .u8 0) hT.und q F p ⟨g,0,none⟩ n m xs (by rw[l];exact z.1) E ⟨t.toArray⟩ U (by rw[D];omega) (by rw[N];exact Rr U (by rw[D];omega));rw[A]at b;injection b with c e2;rw[e2];exact Jx _
 refine At (v:=k) (w':=w') rfl ?_ (h k w' ?_ (Keep.of_grown G a3 fun h=>h.elim) a0 ?_)
 ·simp[execOp,resolve,invoke,builtin,hv,hx,A]
 ·have c:Lib.strCells ⟨t.toArray⟩=Ez t:=by simp[Lib.strCells,Ez,Gu]
  rw[<-c];exact ho
 ·by_cases M:k=nS
  ·exact .inl M
  ·by_cases W:v=nS
   ·refine .inr (.inr fun R=>M (a5.2 ⟨W,?_⟩));rw[D,R];rfl
   ·exact .inr (.inl W)
def Zw{T:TypeId}{s:Operand}{n c:Nat}(a:ev f s=.slice none n c)(h:AF P all Z K rest (upd f d (.pointer none)) ds w):
  AF P all Z K (⟨some d,.call ⟨.builtin .unsafeSliceData,#[s],#[T]⟩,ty,pos,af,none⟩::rest) f ds w:=by
 refine At rfl ?_ h;simp[execOp,resolve,invoke,builtin,a,Lib.run_unsafeSliceData_nil]
def aU{T:TypeId}{s:Operand}{a:Addr}{n c:Nat}(e:ev f s=.slice (some a) n c)(b:c≠0)(h:AF P all Z K rest (upd f d (.pointer (some a))) ds w):
  AF P all Z K (⟨some d,.call ⟨.builtin .unsafeSliceData,#[s],#[T]⟩,ty,pos,af,none⟩::rest) f ds w:=by
 refine At rfl ?_ h;simp[execOp,resolve,invoke,builtin,e,Lib.run_unsafeSliceData_row w _ _ a n c b]
def Zx{T S:TypeId}{s x:Operand}{p:Option Addr}(a:ev f s=.pointer p)(V:ev f x=iV 0)(h:AF P all Z K rest (upd f d (AA [])) ds w):
  AF P all Z K (⟨some d,.call ⟨.builtin .unsafeString,#[s,x],#[T,S]⟩,ty,pos,af,none⟩::rest) f ds w:=by
 refine At rfl ?_ h;simp[execOp,resolve,invoke,builtin,a,V,Lib.run_unsafeString_none];rfl
def aX{T S e:TypeId}{s x:Operand}{g:Nat}{t:LU}{C:LV}(o:P.underlying T=some (.pointer e))(i:P.cellsOf e=1)(q:ev f s=.pointer (sm g))(V:ev f x=iV (t.length:Int))
  (p:t≠[])(a:Blk w g e C)(N:t.length<=C.length)(l:t.length<=9223372036854775807)(m:C.take t.length=Ez t)(h:∀w',Keep [g] w w'->AF P all Z K rest (upd f d (AA t)) ds w'):
  AF P all Z K (⟨some d,.call ⟨.builtin .unsafeString,#[s,x],#[T,S]⟩,ty,pos,af,none⟩::rest) f ds w:=by
 have z:∀j y,t[j]?=some y->w.cell? ((⟨g,0,none⟩:Addr).add j)=some (.int .u8 y.toNat):=by
  intro j y I;have n:=(Ah.1 I).1;have c:(Ez t)[j]?=some (Gu y):=by simp[Ez,I]
  rw[<-m,List.getElem?_take_of_lt n]at c;have R:=a.cells j _ c;rw[Bs]at R;rw[FQ,Bs];exact R
 have B:=Lib.run_unsafeString_row (P:=P) w T S ty e o i g C.length (Qs a) t p N l z
 have k:Keep [g] w (w.freeze ⟨g,0,none⟩ t.length):=by
  unfold World.freeze
  split
  ·exact tK
  ·refine⟨rfl,rfl,rfl,by simp,fun b a V=>?_,fun h=>h.elim,?_⟩
   ·simp only[P4];rw[AG (fun e=>V (by simp[e]))]
   ·exact AO _
 refine At rfl ?_ (h _ k);simp[execOp,resolve,invoke,builtin,q,V,B]
end
def fp(v:Value)(w:World):(callFunc 286 #[v]).run Zp w=.ok (.value v) w:=by
 rw[run_callFunc_extern func286 rD rD rD (e:=Extern.AbiNoEscape.same) rD];rfl
instance:Jc Zp 134 137:=Xl underlying134 rD
structure WrB(W:World)(p:Nat)(v:Value)(t:LU):Prop where
 D:∃a,(a=none\/a=some ⟨p,0,none⟩)/\Blk W p 139 [.pointer a,v]
 own:W.ownsRow (p+1) 5 1 v t.length (Ez t)
 nz:v=nS\/t≠[]
structure Wrote(p:Nat)(v v':Value)(w w':World):Prop where
 E:Keep (p::v.ownBlock.toList) w w'
 D:∀y,v'.ownBlock=some y->v.ownBlock=some y\/w.heap.size<=y
def Wrote.refl(p:Nat)(v:Value)(w:World):Wrote p v v w w:=⟨Keep.refl _ _,fun _ h=>.inl h⟩
def Wrote.Q{p:Nat}{v B u:Value}{a b c:World}(h:Wrote p v B a b)(k:Wrote p B u b c):Wrote p v u a c:=by
 refine⟨h.E.Q k.E fun x V z=>?_,fun y I=>?_⟩
 ·rcases BI.1 V with rfl|V
  ·simp
  ·rcases h.D x (Aw.1 V)with Z|Z
   ·simp[Z]
   ·omega
 ·rcases k.D y I with Z|Z
  ·exact h.D y Z
  ·exact .inr (Az h.E.size Z)
def Wrote.ext{p:Nat}{v B:Value}{a b c:World}(h:Wrote p v B a b)(k:Ext b c):Wrote p v B a c:=⟨h.E.ext k,h.D⟩
def WrB.E{X:List Nat}{w w':World}{p:Nat}{v:Value}{t:LU}(h:WrB w p v t)(k:Keep X w w')(Z:p∉X)(W:∀y,v.ownBlock=some y->y∉X):WrB w' p v t:=by
 obtain⟨⟨a,G,S⟩,b,H⟩:=h;exact⟨⟨a,G,S.E k Z⟩,Bf b k W,H⟩
def WrB.ext{w w':World}{p:Nat}{v:Value}{t:LU}(h:WrB w p v t)(k:Ext w w'):WrB w' p v t:=h.E k O O
def WrB.lt{w:World}{p:Nat}{v:Value}{t:LU}(h:WrB w p v t):p<w.heap.size:=by
 obtain⟨⟨a,_,S⟩,_⟩:=h;exact S.lt
def WrB.ge{w:World}{p y:Nat}{v:Value}{t:LU}(h:WrB w p v t)(I:v.ownBlock=some y):p<y/\y<w.heap.size:=by
 have:=Ao h.own I;exact⟨by omega,this.2⟩
def aF(w:World)(p:Nat)(v:Value)(a:Option Addr)(G:a=none\/a=some ⟨p,0,none⟩)(S:Blk w p 139 [.pointer a,v]):
  Fn Zp 199 [pt p] w fun _ w'=>Blk w' p 139 [pt p,v]/\Keep [p] w w':=by
 refine AM func199 rfl ntmps199 ?_;refine nX ?_;rcases G with rfl|rfl
 ·have b:CC w p (0+0) (.pointer none):=S.cell rfl;refine AN (Aq rfl (A7 rfl (AV rfl (AQ rfl (Blk.cell rG rF) ?_))));refine OU rfl ?_;refine nX ?_;refine AN (Aq rfl (Aq rfl ?_));refine cJ rD rfl S (Nat.zero_lt_succ _) ?_;refine iQ (vs:=[pt p]) (fun W=>fp _ W) rfl ?_;refine aD rD rfl S rD ?_;refine A7 rfl (AV rfl ?_);refine AW rfl rfl rfl S O (fun L E=>?_);refine nX ?_;exact Bt rfl ⟨E.D,E.E⟩
 ·have b:CC w p (0+0) (pt p):=S.cell rfl;refine AN (Aq rfl (A7 rfl (AV rfl (AQ rfl (Blk.cell rG rF) ?_))));refine OU rfl ?_;refine nY ?_;(refine AN (Aq rfl (A7 rfl (AV rfl (AQ rfl (Blk.cell rG rF) ?_))))<;>refine Aq rfl ?_)
  refine aE rfl rfl ?_;refine nY ?_;exact Bt rfl ⟨S,Keep.refl _ _⟩
def bn(w:World)(p:Nat)(v:Value)(t s:LU)(h:WrB w p v t)(N:t.length+s.length<=140737488355328):
  Fn Zp 141 [pt p,AA s] w fun _ w'=>∃B,WrB w' p B (t++s)/\Wrote p v B w w':=by
 obtain⟨⟨a,G,S⟩,g,H⟩:=id h;refine AM func141 rfl ntmps141 ?_;refine gC (aF w p v a G S) ?_;rintro _ Q⟨b,d⟩;have Z:CC Q p (0+1) v:=b.cell rfl;have j:=d.size;have M:∀y,v.ownBlock=some y->y≠p:=fun y I e=>by have:=h.ge I;omega
 have r:=Bf g d fun y I V=>M y I rl;refine go ?_;refine dt (v:=v) rD rfl rfl r N (by have:=h.lt;omega) (fun n L q m l o=>?_);have c:=b.E m (fun V=>M p (Aw.1 V) rfl);refine go ?_;have k:n.oneCell'=true:=by rcases q.2 with⟨rfl,_⟩|⟨_,_,_,rfl,_⟩<;>rfl
 refine AW rfl rfl k c O (fun z i=>?_)
 have f:∀y,n.ownBlock=some y->y≠p:=fun y I=>by
  have:=Ao q I;omega
 have X:Wrote p v n w z:=by
  refine⟨((d.mono (Y:=p::v.ownBlock.toList) O).Q m (fun x V _=>by simp[V])).Q i.E O,?_⟩
  ·intro y I;rcases l with e|e
   ·exact .inl (by rw[<-e];exact I)
   ·exact .inr (by have:=e y I;omega)
 refine go ?_;refine DF rfl ⟨n,⟨⟨some ⟨p,0,none⟩,.inr rfl,i.D⟩,?_,?_⟩,X⟩
 ·rw[A9,Z2];exact Bf q i.E fun y I V=>f y I rl
 ·rcases o with e|e|e
  ·exact .inl e
  ·rcases H with u|u
   ·exact absurd u e
   ·exact .inr (by simp[u])
  ·exact .inr (by simp[e])
def WI(w:World)(p:Nat)(v sv:Value)(t:LU)(parts:List (LU))(h:WrB w p v t)(j:Sl (fun b=>b<w.heap.size/\b≠p/\v.ownBlock≠some b) w sv parts.length (parts.map AA))(N:t.length+parts.flatten.length<=140737488355328):
  Fn Zp 87 [pt p,sv] w fun _ w'=>∃B,WrB w' p B (t++parts.flatten)/\Wrote p v B w w':=by
 obtain⟨a,u,rfl,y,r,_,V⟩:=j;have P:parts.length<=9223372036854775807:=by omega
 refine AM func87 rfl ntmps87 (go ?_)
 refine Aj (α:=Nat×Value) (fun x=>[(0,pt p),(6,.slice a parts.length u),(7,iV (parts.length:Int)),(8,iV (x.1:Int))]) (fun x W=>x.1<=parts.length/\WrB W p x.2 (t++(parts.take x.1).flatten)/\Wrote p v x.2 w W) (fun x=>parts.length-x.1) (0,v)
  ag ⟨Sm _,by simpa using h,Wrote.refl _ _ _⟩ ?_
 rintro⟨i,f⟩Q l⟨F,Z,d⟩;simp only at F Z d⊢;refine go ?_;by_cases z:i<parts.length
 ·refine go ?_;rcases V with q|⟨b,o,rfl,S,k⟩
  ·omega
  have E:parts[i]?=some parts[i]:=AU z;generalize parts[i]=s at E
  have A:Q.cell? ⟨b,o+i,none⟩=some (AA s):=d.E.cell (k i _ (by simp[E])) (by
   simp only[BI,Aw,not_or];exact⟨S.2.1,S.2.2⟩)
  have c:(parts.take (i+1)).flatten=(parts.take i).flatten++s:=by
   rw[CT,E];simp
  have G:(parts.take (i+1)).flatten.length<=parts.flatten.length:=by
   have e:parts.flatten=(parts.take (i+1)).flatten++(parts.drop (i+1)).flatten:=by rw[<-FN,HB]
   rw[e,A9];omega
  rw[c,A9]at G;refine gC (bn Q p f _ s Z (by rw[A9];omega)) ?_;rintro _ L⟨n,g,m⟩;refine go ?_;refine⟨(i+1,n),⟨rfl,⟨rfl,rfl,rfl,?_,trivial⟩,⟨z,?_,d.Q m⟩⟩,by simp only;omega⟩
  ·show iV ((i:Int)+1)=_;rw[BB];rfl
  ·simp only;rw[c,<-Cg];exact g
 ·refine go ?_;refine Bt rfl ⟨f,?_,d⟩;rw[GE U]at Z;exact Z
def cM(w:World)(p:Nat)(v:Value)(t:LU)(h:WrB w p v t)(N:t.length<=140737488355328):
  Fn Zp 85 [pt p] w fun u w'=>u=AA t/\Keep v.ownBlock.toList w w':=by
 obtain⟨⟨a,G,S⟩,j,H⟩:=id h;refine AM func85 rfl ntmps85 (go ?_);have M:p∉v.ownBlock.toList:=fun V=>by have:=h.ge (Aw.1 V);omega
 have l:v=nS/\t=[]\/t≠[]/\∃g c C,v=.slice (sm g) t.length c/\Blk w g 5 C/\t.length<=C.length/\c≠0/\C.take t.length=Ez t:=by
  rcases j.2 with⟨rfl,f⟩|⟨g,c,C,rfl,n,y,Z,m,R,A⟩
  ·exact .inl ⟨rfl,Hz.1 f⟩
  ·have P:t≠[]:=by
    rcases H with e|e
    ·cases e
    ·exact e
   have o:0<t.length:=List.length_pos_iff.2 P;have s:C.size=c:=by simpa using R
   refine .inr ⟨P,g,c,C.toList,rfl,by simpa[Blk]using y,by simp;omega,by omega,?_⟩;rw[<-A,Md]
 refine Ab (rd 0 4 (rd 5 5 (.alt 4 (.alt 10 (.read 11 .done) .stop) .stop))) AX rD (fun X b T=>⟨Keep v.ownBlock.toList X,?_,?_⟩)
 ·exact tK
 have D:∀W,Keep v.ownBlock.toList X W->CC W p (0+1) v:=fun W k=>((S.E b O).E k M).cell rfl;rcases l with⟨rfl,rfl⟩|⟨P,g,c,C,rfl,y,z,i,B⟩
 ·refine D_R rfl rfl (fun W I=>Aq rfl Z3) (D_R rfl rfl (fun W I=>A7 rfl Z3) (D_R rfl rfl (fun W I=>AV rfl Z3) (D_R rfl rfl (fun W I=>AQ rfl (D W I) Z3) (D_R rfl rfl (fun W I=>Aq rfl Z3) (D_R rfl rfl (fun W I=>A7 rfl Z3) (D_R rfl rfl (fun W I=>AV rfl Z3) (D_R rfl rfl (fun W I=>AQ rfl (D W I) Z3) (D_R rfl rfl (fun W I=>Cj rfl Z3) ?_))))))));refine D_E rfl ?_;refine Zw rfl ?_;refine wNl (Keep.refl _ _) ?_;refine D_E rfl ?_;refine Zx rfl rfl ?_;refine wNl (Keep.refl _ _) ?_;refine gR ?_;exact⟨rfl,b.any⟩
 ·refine go ?_;refine gE ?_;refine aU rfl i ?_;refine wNl (Keep.refl _ _) ?_;refine D_E rfl ?_;refine aX rD rD rfl rfl P (y.E b O) z U B (fun q d=>?_);refine wNl d ?_;refine gR ?_;exact⟨rfl,b.any.Q d (fun x V _=>V)⟩
def PR(f:Fml):okF f=(E4 f.op f.name f.val f.bound f.args.length&&okL f.args):=by cases f;simp[okF,Fml.op,Fml.name,Fml.val,Fml.bound,Fml.args]
def GY:Pc->Bool
 | .txt _=>true
 | .sub f _=>okF f
def EH:Pc->Nat
 | .txt t=>t.length
 | .sub f _=>44*szF f-22
def Dy:Pc->Nat
 | .txt _=>1
 | .sub f _=>8*szF f-4
def NG:Pc->Prop
 | .txt _=>True
 | .sub f n=>n<=9/\szF f<=1000000
def CJ(g:Pc->Nat)(A:List Pc):Nat:=(A.map g).sum
def HQ(g:Pc->Nat)(a b:List Pc):CJ g (a++b)=CJ g a+CJ g b:=by simp[CJ]
def Ol(g:Pc->Nat)(a:List Pc):CJ g a.reverse=CJ g a:=by simp[CJ,List.map_reverse,List.sum_reverse]
def IB(g:Pc->Nat)(p:Pc)(a:List Pc):CJ g (p::a)=g p+CJ g a:=by simp[CJ]
def Rh(g:Pc->Nat):CJ g []=0:=rfl
def X5(next:Nat)(g:LU):∀l,CJ Dy (EC next g l)+3*l.length<=8*szL l
 | []=>by simp[EC,CJ]
 |a::l=>by
  have:=X5 next g l
  have:=Ey a;simp only[EC,IB,szL,Dy,C9];omega
def WG(next:Nat)(g:LU)(E:g.length<=20):∀l,CJ EH (EC next g l)+2*l.length<=44*szL l
 | []=>by simp[EC,CJ]
 |a::l=>by
  have:=WG next g E l
  have:=Ey a;simp only[EC,IB,szL,EH,C9];omega
def Xe(next:Nat)(g:LU):∀l,(EC next g l).all GY=okL l
 | []=>by simp[EC,okL]
 |a::l=>by simp[EC,okL,GY,Xe next g l]
def nr{op v b:Int}{l:LU}{k:Nat}(h:E4 op l v b k=true):(sgT op l v b).length<=20:=by
 obtain⟨s,E,_,_,a,W,R,A,Z,_⟩:=Lz h
 have C:s.sign.length<=5/\s.val<=9999/\s.bound<=9999:=by
  rcases J3 E with h|h|h|h|h|h|h|h|h|h|h|h|h|h|h|h|h|h|h<;>rw[h]at E<;>simp[Bh,styL,List.lookup]at E<;>subst E<;>decide
 have V:BH op=s:=by unfold BH;rw[E];rfl
 have c:(Br v).length<=4:=Ob U;have S:(Br b).length<=4:=Ob U;unfold sgT;rw[V]
 split
 ·rename_i h0;have:=(Gd (Z h0)).2.1
  split
  ·omega
  ·simp;omega
 split
 ·simp;omega
 split
 ·split<;>simp
 split
 ·split
  ·simp;omega
  ·simp;omega
 ·omega
def qG{f:Fml}(s:Sty)(n:Nat):CJ Dy (pcs s n f)<Dy (.sub f n):=by
 have Z:CJ Dy (Dw s n)<=1:=by unfold Dw;split<;>simp[CJ,Dy]
 have W:CJ Dy (FY s n)<=1:=by unfold FY;split<;>simp[CJ,Dy]
 have R:CJ Dy (DR (sgT f.op f.name f.val f.bound) f.args.length)<=1:=by unfold DR;split<;>simp[CJ,Dy]
 have A:=Bn f;unfold pcs;rw[HQ,HQ,HQ]
 have b:CJ Dy (DQ s.first s.next (sgT f.op f.name f.val f.bound) f.args)<=8*szL f.args:=by
  cases f.args with
  |nil=>simp[DQ,CJ]
  |cons a l=>
   have:=X5 s.next (sgT f.op f.name f.val f.bound) l
   have:=Ey a;simp only[DQ,IB,szL,Dy];omega
 simp only[Dy];omega
def Xi{f:Fml}{s:Sty}{n:Nat}(h:E4 f.op f.name f.val f.bound f.args.length=true):CJ EH (pcs s n f)<=EH (.sub f n):=by
 have y:=nr h;have Z:CJ EH (Dw s n)<=1:=by unfold Dw;split<;>simp[CJ,EH]
 have W:CJ EH (FY s n)<=1:=by unfold FY;split<;>simp[CJ,EH]
 have A:=Bn f;unfold pcs;generalize sgT f.op f.name f.val f.bound=sg at y⊢;rw[HQ,HQ,HQ]
 have b:CJ EH (DR sg f.args.length)+CJ EH (DQ s.first s.next sg f.args)<=44*szL f.args+20:=by
  cases f.args with
  |nil=>simp[DQ,DR,CJ,EH];omega
  |cons a l=>
   have:=WG s.next sg y l
   have:=Ey a;have p:CJ EH (DR sg (a::l).length)<=20:=by unfold DR;split<;>simp[CJ,EH]<;>omega
   simp only[DQ,IB,szL,EH];omega
 simp only[EH];omega
def po(f:Fml)(s:Sty)(n:Nat):(pcs s n f).all GY=okL f.args:=by
 have Z:(Dw s n).all GY=true:=by unfold Dw;split<;>simp[GY]
 have W:(FY s n).all GY=true:=by unfold FY;split<;>simp[GY]
 have R:∀g k,(DR g k).all GY=true:=fun g k=>by unfold DR;split<;>simp[GY]
 unfold pcs;rw[HC,HC,HC,Z,W,R];cases f.args with
 |nil=>simp[DQ,okL]
 |cons a l=>simp[DQ,okL,GY,Xe]
def mD{f:Fml}{s:Sty}{n:Nat}(E:Bh f.op=some s)(b:szF f<=1000000):∀p∈pcs s n f,NG p:=by
 have d:s.first<=9/\s.next<=9:=by
  rcases J3 E with h|h|h|h|h|h|h|h|h|h|h|h|h|h|h|h|h|h|h<;>rw[h]at E<;>simp[Bh,styL,List.lookup]at E<;>subst E<;>decide
 have A:=Bn f
 have t:∀l:LF,szL l<=1000000->∀g,∀p∈EC s.next g l,NG p:=by
  intro l
  induction l with
  |nil=>intro _ g p C;cases C
  |cons a l ih=>
   intro N g p C;simp only[szL]at N;rcases BI.1 C with rfl|C
   ·trivial
   rcases BI.1 C with rfl|C
   ·exact⟨d.2,by omega⟩
   ·exact ih U g p C
 intro p C;unfold pcs at C;rcases DM.1 C with C|C
 ·rcases DM.1 C with C|C
  ·rcases DM.1 C with C|C
   ·unfold Dw at C;split at C<;>simp at C;subst C;trivial
   ·unfold DR at C;split at C<;>simp at C;subst C;trivial
  ·generalize f.args=l at C A;cases l with
   |nil=>cases C
   |cons a l=>
    simp only[szL]at A;rcases BI.1 C with rfl|C
    ·exact⟨d.1,by omega⟩
    ·exact t l U _ p C
 ·unfold FY at C;split at C<;>simp at C;subst C;trivial
def oI{f:Fml}{s:Sty}{n m:Nat}{a:Fml}(h:Pc.sub a m∈pcs s n f):a∈f.args:=by
 have t:∀(l:LF)nx g,Pc.sub a m∈EC nx g l->a∈l:=by
  intro l nx g
  induction l with
  |nil=>intro h;cases h
  |cons c l ih=>
   intro h;rcases BI.1 h with e|h
   ·cases e
   rcases BI.1 h with e|h
   ·cases e;simp
   ·simp[ih h]
 unfold pcs at h;rcases DM.1 h with h|h
 ·rcases DM.1 h with h|h
  ·rcases DM.1 h with h|h
   ·unfold Dw at h;split at h<;>simp at h
   ·unfold DR at h;split at h<;>simp at h
  ·generalize f.args=l at h⊢;cases l with
   |nil=>cases h
   |cons c l=>
    rcases BI.1 h with e|h
    ·cases e;simp
    ·simp[t l _ _ h]
 ·unfold FY at h;split at h<;>simp at h
def Xh:∀{A:List Pc},(∀p∈A,(Gy p).length<=EH p)->(A.flatMap Gy).length<=CJ EH A
 | [],_=>by simp
 |p::A,h=>by
  have Z:=h p O;have W:=Xh fun q V=>h q (Li p V);rw[GZ,A9,IB];omega
def R9:∀(N:Nat)(f:Fml),szF f<=N->okF f=true->∀n,(prF n f).length<=44*szF f-22
 |0,f,hN,_,_=>by have:=Ey f;omega
 |N+1,f,hN,hok,n=>by
  rw[PR,AZ]at hok;obtain⟨s,E,_⟩:=Lz hok.1;rw[<-Xg E n];refine Az (Xh fun p C=>?_) (Xi hok.1);cases p with
  |txt t=>exact AO _
  |sub a m=>
   have r:=oI C;have Z:=Ci r;have W:=Bn f;exact R9 N a U (EU hok.2 _ r) m
def PS.E{C B:Nat}{v:Value}{L:List (LV)}{A:List Pc}{X:List Nat}{W Z:World}(h:PS C B v L A W)(k:Keep X W Z)(a:∀y,v.ownBlock=some y->y∉X)(c:∀b,b<C->b∉X):PS C B v L A Z:=
 ⟨Bf h.own k a,h.rs.E k c,h.le⟩
def PS.cut{C B n cap:Nat}{a:Option Addr}{L:List (LV)}{A:List Pc}{c:LV}{q:Pc}{W:World}(h:PS C B (.slice a n cap) (L++[c]) (A++[q]) W):PS C B (.slice a A.length cap) L A W:=by
 have N:=h.rs.1;simp only[A9,HA]at N;have R:=h.rs.len;have F:∀d∈L,d.length=3:=fun d m=>R d (by simp[m]);have l:L.flatten.length=A.length*3:=by rw[EL 3 L F];omega
 refine⟨⟨l,?_⟩,⟨by omega,fun i c p T f=>?_⟩,h.le⟩
 ·rcases h.own.2 with⟨e,v⟩|⟨g,r,b,e,x,y,X,P,j,k⟩
  ·simp at v
  ·cases e;refine .inr ⟨g,cap,b,rfl,x,y,by simp at X;omega,P,j,?_⟩
   have u:b.toList.take (A.length*3)=((b.toList.take ((A++[q]).length*3))).take (A.length*3):=by
    rw[MF,Ga rE]
   rw[u,k,FN,P0 U,GE U]
 ·have o:=(Ah.1 T).1;have s:=(Ah.1 f).1;exact h.rs.2 i c p (by rw[D4 o];exact T) (by rw[D4 s];exact f)
def PS.rev_form{C B:Nat}{v:Value}{L:List (LV)}{A:List Pc}{W:World}(h:PS C B v L A W)(f:0<A.length):∃a cap z u c q,v=.slice a (u.length+1) cap/\L=z++[c]/\A=u++[q]/\YZ (fun b=>b<C) W c q/\c.length=3/\oneC c/\u.length+1<=cap/\
  ∃g,a=some ⟨g,0,none⟩/\Cells W g (0+u.length*3) c:=by
 obtain⟨a,cap,rfl⟩:=h.form;have S:L.length=A.length:=h.rs.1;obtain⟨u,q,rfl⟩:∃u q,A=u++[q]:=⟨A.dropLast,A.getLast (by intro e;simp[e]at f),(Lb _).symm⟩;obtain⟨z,c,rfl⟩:∃z c,L=z++[c]:=⟨L.dropLast,L.getLast (by intro e;simp[e]at S),(Lb _).symm⟩;simp only[A9,HA]at S;have K:pcR.fits (fun b=>b<C) W c q:=h.rs.2 u.length c q sH O;have R:∀d∈z++[c],d.length=3:=h.rs.len;obtain⟨g,H,rfl,x,j,_⟩:=WD h.own f;refine⟨_,cap,z,u,c,q,by simp,rfl,rfl,K,R c O,pcR.one K,?_,g,rfl,?_⟩
 ·rcases h.own.2 with⟨e,i⟩|⟨g,r,k,e,x,y,X,_⟩
  ·simp at i
  ·cases e;simpa using X
 ·exact MP j R sH
def PS.ge{C B y:Nat}{v:Value}{L:List (LV)}{A:List Pc}{W:World}(h:PS C B v L A W)(I:v.ownBlock=some y):B<=y/\y<W.heap.size:=Ao h.own I
structure FI(w:World)(p r:Nat)(v:Value)(t:LU)(f:Fml)(x:Value×List (LV)×List Pc×Value×LU)(W:World):Prop where
 wr:Wrote p v x.2.2.2.1 w W
 wb:WrB W p x.2.2.2.1 x.2.2.2.2
 ps:PS p w.heap.size x.1 x.2.1 x.2.2.1 W
 ne:∀y,x.1.ownBlock=some y->x.2.2.2.1.ownBlock≠some y
 sty:StyM W r
 rn:x.1.ownBlock≠some r/\x.2.2.2.1.ownBlock≠some r/\r<W.heap.size
 fit:∀q∈x.2.2.1,NG q
 out:x.2.2.2.2++x.2.2.1.reverse.flatMap Gy=t++prF 0 f
 ok:x.2.2.1.all GY=okF f
 pot:x.2.2.2.2.length+CJ EH x.2.2.1<=t.length+(44*szF f-22)
 wt:CJ Dy x.2.2.1<=8*szF f
def M1:∀A:List Pc,A.length<=CJ Dy A
 | []=>by simp
 | .txt t::A=>by have:=M1 A;rw[IB];simp only[Dy,C9];omega
 | .sub f n::A=>by have:=M1 A;have:=Ey f;rw[IB];simp only[Dy,C9];omega
set_option maxHeartbeats 3200000 in
def Ti(w:World)(p b o:Nat)(v:Value)(t:LU)(f:Fml)(S:WrB w p v t)(hf:PF (fun b=>b<p) w b o f)(hG:GP w)(hp:10<=p)(hz:szF f<=1000000)(hl:t.length<=1000000000):
  FnP Zp 43 [pt p,.pointer (sn b o)] w (fun _ w'=>okF f=true/\∃v',WrB w' p v' (t++prF 0 f)/\Wrote p v v' w w') (fun ch w'=>ch=unp/\okF f=false/\∃v',Wrote p v v' w w'):=by
 have f6:=S.lt;refine CK func43 rfl ntmps43 nlr rD ?_;refine gC (hO w) ?_;rintro _ Q⟨r,rfl,k1,hr,c3⟩;have f7:r<Q.heap.size:=by obtain⟨M,F,_⟩:=id c3;exact F.lt
 refine go ?_;refine Ay (out:=Fj b o 0) rfl U rD (fun w2 n2=>?_);have z1:=k1.size;have z2:=n2.size;have k2:Ext w w2:=k1.Q n2.E;have o2:=n2.own (n:=1) (size:=3) (B:=w.heap.size) rfl rI z1;refine go ?_
 have h0:FI w p r v t f (.slice (sm Q.heap.size) 1 1,[Fj b o 0],[.sub f 0],v,t) w2:=by
  refine⟨⟨k2.any,fun y I=>.inl I⟩,S.ext k2,⟨by simpa using o2,RsAt.one (R:=pcR) (a:=Pc.sub f 0) ⟨b,o,rfl,hf.E k2 O⟩,by omega⟩,?_,c3.E n2.E O,⟨?_,?_,by omega⟩,?_,by simp[Gy],by simp[GY],by simp[CJ,EH],by simp[CJ,Dy]⟩
  ·intro y I W;have I:Q.heap.size=y:=by simpa[Value.ownBlock]using I
   have:=(S.ge W).2;omega
  ·intro e;have e:Q.heap.size=r:=by simpa[Value.ownBlock]using e
   omega
  ·intro e;have:=(S.ge e).2;omega
  ·intro q C;simp at C;subst C;exact⟨by omega,hz⟩
 clear o2 n2;refine Aj (α:=Value×List (LV)×List Pc×Value×LU) (fun x=>[(0,pt p),(4,.map (some r)),(5,x.1)]) (FI w p r v t f) (fun x=>CJ Dy x.2.2.1) (.slice (sm Q.heap.size) 1 1,[Fj b o 0],[.sub f 0],v,t) ag h0 ?_;clear h0 z2 k2;rintro⟨tv,L,ps,G,t1⟩w3 f3 hI;obtain⟨b1,b0,X,Z,c4,⟨a1,a2,e4⟩,hfit,m,A,l,a3⟩:=id hI;simp only at b1 b0 X Z c4 a1 a2 e4 hfit m A l a3⊢;refine nX ?_;have hlen:=M1 ps;by_cases a8:ps.length=0
 ·have e0:ps=[]:=Hz.1 a8;subst e0;obtain⟨a,cp,rfl⟩:=X.form;rw[a8];refine AN (BY rfl (Cj rfl (YG rfl rfl U ?_)));refine nY ?_;refine Bt rfl ⟨by simpa using A.symm,G,?_,b1⟩;simp at m;rw[<-m];exact b0
 obtain⟨a,b3,L',u,c,q,rfl,rfl,rfl,C,b5,d5,f1,g,rfl,d6⟩:=X.rev_form U;clear a8;rw[A9,HA]at hlen;refine AN (BY rfl (Cj rfl (Ms rfl rfl U ?_)));refine nX ?_;refine AN (BY rfl (BY rfl (Cj rfl (Iw rfl rfl rQ ?_))));refine DZ (k:=u.length) rfl rfl U U ?_;refine Al (L:=c) rfl b5 d6 ?_;refine CL (cs:=c) rfl b5 rF d5 (fun N n4=>?_);have z4:=n4.size;have k4:=n4.E;refine nX ?_;refine AN (BY rfl (BY rfl (Cj rfl (Iw rfl rfl rQ ?_))));refine N5 rfl rfl U U ?_;rw[show((((u.length+1:Nat):Int)-1).toNat)=u.length by omega];refine AT (BY rfl ?_);refine nX ?_;have b4:=n4.D;have a0:=X.cut.ext k4;have j:=b0.ext k4;have i:=b1.ext k4;have a9:=c4.E k4 O;have a6:NG q:=hfit q O;have hfit':∀x∈u,NG x:=fun x V=>hfit x ri;rw[HQ,IB,Rh]at l a3;rw[HC]at A;rw[List.reverse_append,List.reverse_singleton,List.singleton_append,GZ]at m;cases q with
 |txt s=>
  have C:c=EE s:=C;subst C;have h41:CC N w3.heap.size (0+1) (.pointer none):=b4.cell rfl;have e8:CC N w3.heap.size (0+0) (AA s):=b4.cell rfl;refine AN (AV rfl (AQ rfl (Blk.cell rG rF) ?_));refine OU rfl ?_;refine nX ?_;refine AN (Aq rfl (AV rfl (AQ rfl (Blk.cell rG rF) ?_)));refine Ay (out:=[AA s]) rfl U rD (fun K E=>?_);have z5:=E.size;have d:=E.E;have e6:=j.ext d
  have d0:Sl (fun b=>b<K.heap.size/\b≠p/\G.ownBlock≠some b) K (.slice (sm N.heap.size) 1 1) [s].length ([s].map AA):=by
   refine⟨_,_,rfl,by simp,by omega,(fun h=>by cases h),.inr ⟨_,_,rfl,⟨by omega,?_,?_⟩,E.D.cells⟩⟩
   ·have:=j.lt;omega
   ·intro e;have:=(j.ge e).2;omega
  simp only[EH]at l;simp only[Dy]at a3;refine AD (WI K p G _ t1 [s] e6 d0 rE) rfl ?_;rintro _ z⟨v6,hwb6,P⟩;simp only[Do,I6,Ch]at hwb6;refine go ?_;have z6:=P.E.size
  have hX:∀y,y<K.heap.size->y≠p->G.ownBlock≠some y->y∉p::G.ownBlock.toList:=fun y _ h1 W V=>by
   rcases BI.1 V with V|V
   ·exact h1 V
   ·exact W (Aw.1 V)
  refine⟨(_,L',u,v6,t1++s),⟨rfl,ag,⟨(i.ext d).Q P,hwb6,(a0.ext d).E P.E ?_ ?_,?_,(a9.E d O).E P.E ?_,⟨a1,?_,?_⟩,hfit',?_,?_,?_,?_⟩⟩,?_⟩
  ·intro y I;have:=a0.ge I;exact hX y U U (Z y I)
  ·intro y I;exact hX y U U (fun e=>by have:=(j.ge e).1;omega)
  ·intro y I W;rcases P.D y W with e|e
   ·exact Z y I e
   ·have:=(a0.ge I).2;omega
  ·exact hX r U U a2
  ·intro e;rcases P.D r e with e|e
   ·exact a2 e
   ·omega
  ·omega
  ·simp only;rw[Cg];exact m
  ·simp only;rw[<-A];simp[GY]
  ·simp only;rw[A9];omega
  ·simp only;omega
  ·simp only;rw[HQ,IB,Rh];simp only[Dy];omega
 |sub f' n=>
  obtain⟨b',o',C,e2⟩:=C;subst C;have h41:CC N w3.heap.size (0+1) (.pointer (sn b' o')):=b4.cell rfl;have c7:CC N w3.heap.size (0+2) (iV (n:Int)):=b4.cell rfl;refine AN (AV rfl (AQ rfl (Blk.cell rG rF) ?_));refine OU rfl ?_;refine nY ?_;have c0:=e2.E k4 O;obtain⟨_,a5,c5,L5,d7,_,_⟩:=c0.form;have e9:CC N b' (o'+0) (iV f'.op):=d7 0 _ rfl;obtain⟨M,F,b7⟩:=id a9;(refine AN (Yj rfl (AV rfl (AQ rfl (Blk.cell rG rF) ?_)))<;>refine A7 rfl (AV rfl (AQ rfl rG ?_)))
  refine cG rfl rfl F ?_;rw[b7];clear b7 F M;simp only[EH,Dy,Gy]at l a3 m;rw[Gc,List.all_nil,Rs]at A;simp only[GY]at A;cases hs:Bh f'.op with
  |none=>
   have d3:okF f'=false:=by rw[PR];unfold E4;rw[hs];rfl
   have d4:okF f=false:=by rw[<-A,d3,Bool.and_false]
   refine go ?_;refine CL (cs:=sty0) rfl rfl rF (Ak rfl) (fun K E=>go ?_);refine Av (Eh K false) rfl ?_ ?_
   ·rintro v z⟨_,hb,_⟩;cases hb
   rintro ch z⟨rfl,_,rfl⟩;refine go ?_;exact Ap ⟨rfl,d4,G,i.ext E.E⟩
  |some s=>
   refine go ?_;refine CL (cs:=Bz s) rfl rfl rF (Kw s) (fun K E=>go ?_);have z5:=E.size;have d:=E.E;refine go ?_;refine Av (Eh K true) rfl ?_ ?_;rotate_left
   ·rintro ch z⟨_,hb,_⟩;cases hb
   rintro _ z⟨rfl,_,rfl⟩;refine go ?_;have b6:=E.D;have i1:=d.cell h41 O;have i2:=d.cell c7 O
   have c9:GP z:=hG.E (i.ext d).E (by
    intro x V;rcases BI.1 V with rfl|V
    ·exact hp
    ·have:=(S.ge (Aw.1 V)).1;omega)
   refine go ?_;have c8:p<=z.heap.size:=by have:=j.lt;omega
   have d8:=c0.E d O
   have d1:f'.args.length<=1000000:=by
    have:=D8 f'.args;have:=Bn f';have:=a6.2;omega
   refine Av (gI z p c8 s b' o' n f' d8 hs a6.1 d1 c9) rfl ?_ ?_;rotate_left
   ·rintro ch w7⟨rfl,k7,d2⟩;refine go ?_;refine Ap ⟨rfl,?_,G,(i.ext d).ext k7⟩;rw[<-A,PR,d2];simp
   rintro mv w7⟨k7,b9,Lm,Bm,f0,c1⟩;refine gC (dV w7 p Bm mv Lm _ c1) ?_;rintro _ w8⟨D,k8⟩;refine go ?_;have z7:=k7.size;have z8:=k8.size;have b8:∀y,mv.ownBlock=some y->z.heap.size<=y:=fun y I=>by have:=(c1.ge I).1;omega
   have hk8:∀y,y<z.heap.size->y∉mv.ownBlock.toList:=fun y I V=>by have:=b8 y (Aw.1 V);omega
   have a4:Ext z w8:=k7.E k8 (fun y I=>b8 y (Aw.1 I));have c2:=(a0.ext d).ext a4;have c6:=(j.ext d).ext a4;have b2:=(i.ext d).ext a4;have e5:=(a9.E d O).E a4 O;have f4:=M1 u;have e7:=qG (f:=f') s n;have e1:=M1 (pcs s n f').reverse;rw[Ol]at e1;simp only[Dy]at e7;refine Bk (ok:=AL) (v:=.slice (sm g) u.length b3) rfl rfl c2.own (BG D.own fun _ _=>trivial) U rfl D.rs.flat D.rs.oneC U U (by have:=b2.E.size;omega) (fun v9 w9 H=>?_);have z9:=H.E.size;have e3:PS p w.heap.size v9 (L'++Lm.reverse) (u++(pcs s n f').reverse) w9:=c2.app H D.rs;refine go ?_;have d9:∀y,(Value.slice (sm g) u.length b3).ownBlock=some y->y=g:=fun y I=>by simpa[Value.ownBlock]using I.symm
   have f2:w.heap.size<=g/\g<N.heap.size:=a0.ge rfl;have a7:Keep [g] w8 w9:=H.E.mono (fun x V=>by simpa using d9 x (Aw.1 V));refine⟨(v9,L'++Lm.reverse,u++(pcs s n f').reverse,G,t1),⟨rfl,ag,⟨⟨b2.E.Q a7 ?_,b2.D⟩,c6.E a7 ?_ ?_,e3,?_,e5.E a7 ?_,⟨?_,a2,?_⟩,?_,?_,?_,?_,?_⟩⟩,?_⟩
   ·intro x V f5;simp at V;omega
   ·simp;omega
   ·intro y I V;simp at V;subst V;exact Z y rfl I
   ·intro y I W;rcases H.D with e|e
    ·rw[e]at I;exact Z y I W
    ·rw[e]at I;have I:w8.heap.size=y:=by simpa using I
     have:=(c6.ge W).2;omega
   ·simp;intro e;exact a1 (by simp[Value.ownBlock,e])
   ·intro T;rcases H.D with e|e
    ·rw[e]at T;exact a1 T
    ·rw[e]at T;have T:w8.heap.size=r:=by simpa using T
     omega
   ·omega
   ·intro x V;rcases DM.1 V with V|V
    ·exact hfit' x V
    ·exact mD hs a6.2 x (List.mem_reverse.1 V)
   ·simp only;rw[List.reverse_append,List.reverse_reverse,Lk,Xg hs];exact m
   ·simp only;rw[HC,List.all_reverse,po,<-A,PR,b9,HE]
   ·simp only;rw[HQ,Ol];have:=Xi (s:=s) (n:=n) b9;simp only[EH]at this;omega
   ·simp only;rw[HQ,Ol];omega
   ·simp only;rw[HQ,Ol,HQ,IB,Rh];simp only[Dy];omega
def OS:=@Bool.and_self
def PA{α:Type}(R:Rp α)(ok:Nat->Prop)(w:World)(b o:Nat)(a:α):Prop:=ok b/\∃d:LV,Cells w b o d/\R.fits ok w d a
def PA.E{α:Type}{R:Rp α}{ok:Nat->Prop}{X:List Nat}{w w':World}{b o:Nat}{a:α}(h:PA R ok w b o a)(k:Keep X w w')(T:∀b,ok b->b∉X):PA R ok w' b o a:=by
 obtain⟨S,d,c,K⟩:=h;exact⟨S,d,c.E k (T b S),R.E K k T⟩
def Wrote.old{p:Nat}{v B:Value}{w w':World}{t:LU}(_h:Wrote p v B w w')(S:WrB w p v t):∀b,b<p->b∉p::v.ownBlock.toList:=fun b a V=>by
 rcases BI.1 V with e|e
 ·omega
 ·have:=(S.ge (Aw.1 e)).1;omega
def Wrote.gp{p:Nat}{v B:Value}{w w':World}{t:LU}(h:Wrote p v B w w')(S:WrB w p v t)(z:GP w)(C:10<=p):GP w':=z.E h.E (by
 intro x V;rcases BI.1 V with rfl|V
 ·exact C
 ·have:=(S.ge (Aw.1 V)).1;omega)
def PA.wrote{α:Type}{R:Rp α}{w w':World}{b o p:Nat}{a:α}{v B:Value}{t:LU}(h:PA R (fun b=>b<p) w b o a)(k:Wrote p v B w w')(S:WrB w p v t):PA R (fun b=>b<p) w' b o a:=h.E k.E (k.old S)
def Hg{o w:World}{p:Nat}{v:Value}{t:LU}{parts:List (LU)}(h:WrB o p v t)(n:New o w 9 (parts.map AA))(H:parts.length<=16)(N:t.length+parts.flatten.length<=140737488355328):
  Fn Zp 87 [pt p,.slice (sm o.heap.size) parts.length parts.length] w fun _ w'=>∃B,WrB w' p B (t++parts.flatten)/\Wrote p v B o w':=by
 have z:=n.size;refine Fn.mono (WI w p v _ t parts (h.ext n.E) ⟨_,_,rfl,AO _,by omega,(fun h=>by cases h),.inr ⟨_,_,rfl,⟨by omega,?_,?_⟩,n.D.cells⟩⟩ N) ?_
 ·have:=h.lt;omega
 ·intro e;have:=(h.ge e).2;omega
 ·rintro _ w'⟨B,Z,W⟩;exact⟨B,Z,Wrote.Q ⟨n.E.any,fun y I=>.inl I⟩ W⟩
def Gz(r:Rqm):LU:=(if r.kind=1 then[97,115,115,117,109,101,32]else[103,117,97,114,97,110,116,101,101,32])++(r.name++[58,32])++prF 0 r.formula
def okR(r:Rqm):Bool:=(decide (r.kind=1)||decide (r.kind=2))&&BP r.name&&okF r.formula
def NL(p:Nat)(v:Value)(t s:LU)(ok:Bool)(w w':World):Prop:=ok=true/\∃B,WrB w' p B (t++s)/\Wrote p v B w w'
def NM(p:Nat)(v:Value)(ok:Bool)(w:World)(y:List PanicEntry)(w':World):Prop:=y=unp/\ok=false/\∃B,Wrote p v B w w'
set_option maxHeartbeats 1600000 in
def oX(w:World)(p b o:Nat)(v:Value)(t:LU)(r:Rqm)(c:WrB w p v t)(K:PA reqR (fun b=>b<p) w b o r)(z:GP w)(C:10<=p)(hz:szF r.formula<=1000000)(hl:t.length<=999999000):
  FnP Zp 89 [pt p,.pointer (sn b o)] w (fun _ w'=>NL p v t (Gz r) (okR r) w w') (NM p v (okR r) w):=by
 obtain⟨S,d,G,d5,rfl,a5,a7⟩:=id K;have h2:CC w b (o+2) (iV r.kind):=G 2 _ rfl;refine CK func89 rfl ntmps89 nlr rD ?_;refine nX ?_;(refine AN (Aq rfl (A7 rfl (AV rfl (AQ rfl rG ?_))))<;>refine AB ?_)
 repeat' first|refine AB ?_|refine Fx ?_|refine Gn ?_
 refine CE (α:=Value) (fun _=>[(0,pt p),(1,.pointer (sn b o))]) (fun h W=>(r.kind=1\/r.kind=2)/\WrB W p h (t++(if r.kind=1 then[97,115,115,117,109,101,32]else[103,117,97,114,97,110,116,101,101,32]))/\Wrote p v h w W) ?_ ?_
 ·refine go ?_;by_cases Z:r.kind=1
  ·refine go ?_;refine Ay (out:=[AA [97,115,115,117,109,101,32]]) rfl U rD (fun Q D=>?_);refine AD (Hg (parts:=[[97,115,115,117,109,101,32]]) c D O rE) rfl ?_;rintro _ L⟨n,j,m⟩;refine go ?_;refine Af n ag ⟨.inl Z,?_,m⟩;rw[AJ Z];exact j
  ·refine go ?_;by_cases l:r.kind=2
   ·refine go ?_;refine Ay (out:=[AA [103,117,97,114,97,110,116,101,101,32]]) rfl U rD (fun Q D=>?_);refine AD (Hg (parts:=[[103,117,97,114,97,110,116,101,101,32]]) c D O rE) rfl ?_;rintro _ L⟨n,j,m⟩;refine go ?_;refine Af n ag ⟨.inr l,?_,m⟩;rw[AG Z];exact j
   ·refine go ?_;refine Av (Eh w false) rfl ?_ ?_
    ·rintro v w6⟨_,S,_⟩;cases S
    rintro y w6⟨rfl,_,rfl⟩;refine go ?_;refine Ap ⟨rfl,?_,v,Wrote.refl _ _ _⟩;simp[okR,Z,l]
 rintro h Q f1⟨P,F,f⟩;have a0:(decide (r.kind=1)||decide (r.kind=2))=true:=by simpa using P
 have R:=K.wrote f c;obtain⟨_,a,H,d6,rfl,a6,a8⟩:=id R;have a4:CC Q b (o+1) (AA r.name):=H 1 _ rfl;have q:=f.gp c z C;refine go ?_;refine Av (Mc Q r.name q.gk) rfl ?_ ?_;rotate_left
 ·rintro y L⟨rfl,S,rfl⟩;refine go ?_;exact Ap ⟨rfl,by simp[okR,S],h,f⟩
 rintro _ L⟨rfl,X,rfl⟩;have a9:=(Gd X).2.1;refine Ay (out:=[AA r.name,AA [58,32]]) rfl U rD (fun w3 n3=>?_);refine AD (Hg (parts:=[r.name,[58,32]]) F n3 O (by split<;>simp<;>omega)) rfl ?_;rintro _ B⟨v4,a2,k⟩;refine go ?_;have s:=f.Q k;have M:=R.wrote k F;obtain⟨_,a,A,E,rfl,I,V⟩:=id M
 have g:PF (fun b=>b<p) B b (o+3) r.formula:=⟨S,E,I,fun i u hu=>by
  have:=A (3+i) u (by rw[EJ O];simpa using hu);rw[<-GH]at this;exact this,V⟩
 refine go ?_;refine Av (Ti B p b (o+3) v4 _ r.formula a2 g (k.gp F q C) C hz (by split<;>simp<;>omega)) rfl ?_ ?_;rotate_left
 ·rintro y w5⟨rfl,T,N,x⟩;refine go ?_;exact Ap ⟨rfl,by simp[okR,T],N,s.Q x⟩
 rintro _ w5⟨a1,N,a3,x⟩;refine go ?_;refine Bt rfl ⟨by simp only[okR,a0,X,a1,OS],N,?_,s.Q x⟩;have e:t++Gz r=t++(if r.kind=1 then[97,115,115,117,109,101,32]else[103,117,97,114,97,110,116,101,101,32])++[r.name,[58,32]].flatten++prF 0 r.formula:=by simp[Gz]
 rw[e];exact a3
def Fi(x:Sgn):LU:=(if x.input then[105,110,112,117,116,32]else[111,117,116,112,117,116,32])++x.name++(if x.size=2 then[]else[58,32]++Br x.size)++[59,10]
def okS(x:Sgn):Bool:=BP x.name&&Gx x.size
set_option maxHeartbeats 1600000 in
def oY(w:World)(p:Nat)(v:Value)(t:LU)(x:Sgn)(g:WrB w p v t)(z:GP w)(C:10<=p)(hl:t.length<=999999000):
  FnP Zp 86 [pt p,.agg (Fh x).toArray] w (fun _ w'=>NL p v t (Fi x) (okS x) w w') (NM p v (okS x) w):=by
 refine CK func86 rfl ntmps86 nlr rD (go ?_);refine Ac (L:=Fh x) rfl (fun Q s=>?_);have d:=s.E;have q:=s.D;have F:=g.ext d;have m:Wrote p v v w Q:=⟨d.any,fun y Z=>.inl Z⟩;have k:=z.ext d;refine go ?_;have h1:CC Q w.heap.size (0+1) (.bool x.input):=q.cell rfl;have h0:CC Q w.heap.size (0+0) (AA x.name):=q.cell rfl;refine go ?_;repeat' first|refine AB ?_|refine Fx ?_|refine Gn ?_
 refine CE (α:=Unit) (fun _=>[(0,pt p),(3,pt w.heap.size),(4,AA (if x.input then[105,110,112,117,116,32]else[111,117,116,112,117,116,32]))]) (fun _ W=>Q=W) ?_ ?_
 ·cases hi:x.input with
  |true=>
   exact sh
  |false=>
   exact sh
 rintro _ _ f1 rfl;generalize f:(if x.input then[105,110,112,117,116,32]else[111,117,116,112,117,116,32]:LU)=kd;have a1:kd.length<=7:=by rw[<-f];split<;>simp
 refine go ?_;refine Av (Mc Q x.name k.gk) rfl ?_ ?_;rotate_left
 ·rintro G w2⟨rfl,S,rfl⟩;refine go ?_;exact Ap ⟨rfl,by simp[okS,S],v,m⟩
 rintro _ w2⟨rfl,X,rfl⟩;have a2:=(Gd X).2.1;refine Ay (out:=[AA kd,AA x.name]) rfl U rD (fun w3 n3=>?_);refine AD (Hg (parts:=[kd,x.name]) F n3 O rE) rfl ?_;rintro _ A⟨v4,P,b⟩;refine go ?_;have o:=m.Q b;have K:=b.gp F k C;have a4:=F.lt
 have M:w.heap.size∉p::v.ownBlock.toList:=fun V=>by
  rcases BI.1 V with e|e
  ·have:=g.lt;omega
  ·have:=(g.ge (Aw.1 e)).2;omega
 have E:=q.E b.E M;have H:CC A w.heap.size (0+2) (iV x.size):=E.cell rfl;refine go ?_;refine Av (Kj A x.size K) rfl ?_ ?_;rotate_left
 ·rintro G w5⟨rfl,S,rfl⟩;refine go ?_;exact Ap ⟨rfl,by simp[okS,S],v4,o⟩
 rintro _ w5⟨rfl,a,h⟩;have R:=a;simp only[Gx,AZ,BD]at R;have a3:=J2 (n:=x.size) U;have a0:=h.cell H O;have l:=P.ext h;have D:=o.ext h;refine go ?_;have N:∀(fr:Fr)(Q':CQ)(ds:DS)(v6:Value)(B:World),True:=fun _ _ _ _ _=>trivial;clear N;by_cases c:x.size=2
 ·refine go ?_;refine Ay (out:=[AA [59,10]]) rfl U rD (fun B I=>?_);refine AD (Hg (parts:=[[59,10]]) l I O rE) rfl ?_;rintro _ w7⟨j,r,i⟩;refine go ?_;refine Bt rfl ⟨by simp only[okS,X,a,OS],j,?_,D.Q i⟩;have e:t++Fi x=t++[kd,x.name].flatten++[[59,10]].flatten:=by simp[Fi,f,c]
  rw[e];exact r
 ·refine go ?_;refine Ay (out:=[AA [58,32],AA (Br x.size)]) rfl U rD (fun B I=>?_);refine AD (Hg (parts:=[[58,32],Br x.size]) l I O rE) rfl ?_;rintro _ w7⟨j,r,i⟩;refine go ?_;refine Ay (out:=[AA [59,10]]) rfl U rD (fun w8 n8=>?_);refine AD (Hg (parts:=[[59,10]]) r n8 O rE) rfl ?_;rintro _ w9⟨v9,T,u⟩;refine go ?_;refine Bt rfl ⟨by simp only[okS,X,a,OS],v9,?_,(D.Q i).Q u⟩;have e:t++Fi x=t++[kd,x.name].flatten++[[58,32],Br x.size].flatten++[[59,10]].flatten:=by simp[Fi,f,c]
  rw[e];exact T
def rqI(l:List Rqm)(i:Nat):LU:=match l[i]? with
 |none=>[]
 |some r=>(if i=0\/(l[i-1]?).map (·.part)≠some r.part then[112,97,114,116,32]++(r.part++[32,123,10])else[])++([32,32]++(Gz r++([59,10]++(if i+1=l.length\/(l[i+1]?).map (·.part)≠some r.part then[125,10]else[]))))
def EQ(r:Rqm):Bool:=BP r.part&&okR r
def NR(l:List Rqm):LU:=(List.range l.length).flatMap (rqI l)
def E8(s:Spc):LU:=s.sigs.flatMap Fi++NR s.reqs
def EO(s:Spc):Bool:=s.sigs.all okS&&s.reqs.all EQ
def szR(l:List Rqm):Nat:=(l.map fun r=>szF r.formula+4).sum
def szS(s:Spc):Nat:=s.sigs.length+szR s.reqs
def ko{x:Sgn}(h:okS x=true):(Fi x).length<=44:=by
 simp only[okS,Gx,AZ,BD]at h;have Z:=(Gd h.1).2.1;have W:=J2 (n:=x.size) U;unfold Fi;simp only[A9];have R:(if x.input then[105,110,112,117,116,32]else[111,117,116,112,117,116,32]:LU).length<=7:=by split<;>simp
 have A:(if x.size=2 then[]else[58,32]++Br x.size:LU).length<=6:=by split<;>simp;omega
 have a:([59,10]:LU).length=2:=rfl;omega
def WN{r:Rqm}(h:okR r=true):(Gz r).length<=44*szF r.formula+20:=by
 simp only[okR,AZ]at h;have Z:=(Gd h.1.2).2.1;have W:=R9 _ r.formula (AO _) h.2 0;have v:=Ey r.formula;unfold Gz;simp only[A9];have R:(if r.kind=1 then[97,115,115,117,109,101,32]else[103,117,97,114,97,110,116,101,101,32]:LU).length<=10:=by split<;>simp
 have a:([58,32]:LU).length=2:=rfl;omega
def ng{l:List Rqm}{i:Nat}{r:Rqm}(B:l[i]?=some r)(h:EQ r=true):(rqI l i).length<=44*(szF r.formula+4):=by
 simp only[EQ,AZ]at h;have Z:=(Gd h.1).2.1;have W:=WN h.2;unfold rqI;rw[B];simp only[A9];have R:(if i=0\/(l[i-1]?).map (·.part)≠some r.part then[112,97,114,116,32]++(r.part++[32,123,10])else[]:LU).length<=20:=by split<;>simp;omega
 have A:(if i+1=l.length\/(l[i+1]?).map (·.part)≠some r.part then[125,10]else[]:LU).length<=2:=by split<;>simp
 have a:([32,32]:LU).length=2:=rfl;have p:([59,10]:LU).length=2:=rfl;omega
def Wk{l:List Rqm}{i:Nat}{r:Rqm}(B:l[i]?=some r):szR (l.take (i+1))=szR (l.take i)+(szF r.formula+4):=by
 rw[CT,B];simp[szR]
def Yg(l:List Rqm)(i:Nat):szR (l.take i)<=szR l:=by
 have:szR l=szR (l.take i)+szR (l.drop i):=by
  unfold szR;rw[<-List.sum_append,<-FB,HB]
 omega
def Xy:∀l:List Rqm,l.length<=szR l
 | []=>by simp
 |r::l=>by have:=Xy l;simp only[szR,EG,OT,C9]at this⊢;omega
def SG(l:List Rqm):∀k,k<=l.length->(l.take k).all EQ=true->((List.range k).flatMap (rqI l)).length<=44*szR (l.take k)
 |0,_,_=>by simp
 |k+1,hk,h=>by
  obtain⟨r,B⟩:∃r,l[k]?=some r:=⟨_,AU U⟩;have e:l.take (k+1)=l.take k++[r]:=by rw[CT,B];rfl
  rw[e,HC,AZ]at h;have n:=SG l k U h.1;have W:=ng B (by simpa using h.2);rw[Wk B,RH,Lk,A9];simp only[GZ,List.flatMap_nil,Ch];omega
def Ok:∀l:List Sgn,l.all okS=true->(l.flatMap Fi).length<=44*l.length
 | [],_=>by simp
 |x::l,h=>by
  rw[Gc,AZ]at h;have Z:=ko h.1;have W:=Ok l h.2;rw[GZ,A9,C9];omega
structure SpV(w:World)(p b o:Nat)(s:Spc)(sa ra:Option Addr)(sc rc:Nat)(LS LR:List (LV)):Prop where
 lt:b<p
 c0:CC w b (o+0) (.slice sa s.sigs.length sc)
 c1:CC w b (o+1) (.slice ra s.reqs.length rc)
 ss:Sl (fun b=>b<p) w (.slice sa s.sigs.length sc) s.sigs.length LS.flatten
 sr:RsAt sgnR (fun b=>b<p) w LS s.sigs
 rs:Sl (fun b=>b<p) w (.slice ra s.reqs.length rc) s.reqs.length LR.flatten
 rr:RsAt reqR (fun b=>b<p) w LR s.reqs
def SpV.E{X:List Nat}{w w':World}{p b o:Nat}{s:Spc}{H C:Option Addr}{G a:Nat}{c d:List (LV)}(h:SpV w p b o s H C G a c d)(k:Keep X w w')(T:∀b,b<p->b∉X):SpV w' p b o s H C G a c d:=
 ⟨h.lt,k.cell h.c0 (T b h.lt),k.cell h.c1 (T b h.lt),h.ss.E k T,h.sr.E k T,h.rs.E k T,h.rr.E k T⟩
def SpV.ext{w w':World}{p b o:Nat}{s:Spc}{H C:Option Addr}{G a:Nat}{c d:List (LV)}(h:SpV w p b o s H C G a c d)(k:Ext w w'):SpV w' p b o s H C G a c d:=h.E k fun _ _=>by simp
def SpV.wrote{w w':World}{p b o:Nat}{s:Spc}{H C:Option Addr}{G a:Nat}{c d:List (LV)}{v B:Value}{t:LU}(h:SpV w p b o s H C G a c d)(k:Wrote p v B w w')(S:WrB w p v t):SpV w' p b o s H C G a c d:=h.E k.E (k.old S)
set_option maxHeartbeats 1600000 in
def lM(w:World)(p b o:Nat)(v:Value)(t:LU)(s:Spc)(S:WrB w p v t)(hf:PA spcR (fun b=>b<p) w b o s)(hG:GP w)(T:10<=p)(hz:szS s<=1000000)(hl:t.length<=100000000):
  FnP Zp 32 [pt p,.pointer (sn b o)] w (fun _ w'=>NL p v t (E8 s) (EO s) w w') (NM p v (EO s) w):=by
 obtain⟨H,G,ra,D,c,M,E⟩:∃H G ra D c M,SpV w p b o s H ra G D c M:=by
  obtain⟨hb,d,b6,sv,rv,rfl,⟨H,G,c,rfl,h1,h2⟩,⟨ra,D,M,rfl,h3,h4⟩⟩:=id hf;exact⟨H,G,ra,D,c,M,hb,b6 0 _ rfl,b6 1 _ rfl,h1,h2,h3,h4⟩
 clear hf;have g9:s.sigs.length<=1000000:=by unfold szS at hz;omega
 have g8:szR s.reqs<=1000000:=by unfold szS at hz;omega
 have g6:=Xy s.reqs;refine CK func32 rfl ntmps32 nlr rD ?_;refine nX ?_;have c0:=E.c0;(refine AN (Aq rfl (A7 rfl (AV rfl (AQ rfl rG ?_))))<;>refine Cj rfl (AS rfl (AB ?_)))
 repeat' first|refine AB ?_|refine Fx ?_|refine Gn ?_
 refine CE (α:=Value) (fun _=>[(0,pt p),(1,.pointer (sn b o))]) (fun P W=>s.sigs.all okS=true/\WrB W p P (t++s.sigs.flatMap Fi)/\Wrote p v P w W) ?_ ?_
 ·refine go ?_
  refine Aj (α:=Nat×Value) (fun x=>[(0,pt p),(1,.pointer (sn b o)),(11,.slice H s.sigs.length G),(12,iV (s.sigs.length:Int)),(13,iV (x.1:Int))])
   (fun x W=>x.1<=s.sigs.length/\(s.sigs.take x.1).all okS=true/\WrB W p x.2 (t++(s.sigs.take x.1).flatMap Fi)/\Wrote p v x.2 w W) (fun x=>s.sigs.length-x.1) (0,v) ag ⟨by simp,by simp,by simpa using S,Wrote.refl _ _ _⟩ ?_
  rintro⟨k,P⟩w1 f1⟨hk,y,F,K⟩;simp only at hk y F K⊢;refine go ?_;by_cases z:k<s.sigs.length
  ·refine go ?_;obtain⟨x,hx⟩:∃x,s.sigs[k]?=some x:=⟨_,AU z⟩;have a0:=E.wrote K S;obtain⟨d,R⟩:∃d,c[k]?=some d:=⟨_,AU (by rw[E.sr.1];exact z)⟩;obtain⟨bs,os,rfl,g0,d9⟩:=a0.ss.row a0.sr R z;have e0:d=Fh x:=a0.sr.2 k d x R hx;subst e0;refine go ?_;refine Al (L:=Fh x) rfl rfl d9 ?_;refine CL (cs:=Fh x) rfl rfl rF (sgnR.one (ok:=AL) (w:=w) (a:=x) rfl) (fun w2 n2=>go ?_);have Z:=F.ext n2.E;have m:=K.ext n2.E;have e7:=Ok _ y;have h0:(s.sigs.take k).length<=1000000:=by simp;omega
   refine Av (oY w2 p P _ x Z (m.gp S hG T) T (by rw[A9];omega)) rfl ?_ ?_;rotate_left
   ·rintro ch w3⟨rfl,hb3,N,g⟩;refine go ?_;refine Ap ⟨rfl,?_,N,m.Q g⟩
    have:s.sigs.all okS=false:=by
     rw[<-EK,Bu];intro h;have:=h x (BA hx);rw[hb3]at this;cases this
    simp[EO,this]
   rintro _ w3⟨e3,N,a6,g⟩;refine go ?_;have e:s.sigs.take (k+1)=s.sigs.take k++[x]:=by rw[CT,hx];rfl
   refine⟨(k+1,N),⟨rfl,⟨rfl,rfl,rfl,rfl,?_,trivial⟩,⟨z,?_,?_,m.Q g⟩⟩,by simp only;omega⟩
   ·show iV ((k:Int)+1)=_;rw[BB];rfl
   ·simp only;rw[e,HC,y];simp[e3]
   ·simp only;rw[e,Lk];simpa using a6
  ·refine go ?_;have e:k=s.sigs.length:=by omega
   subst e;rw[Co]at y F;exact Af P ag ⟨y,F,K⟩
 rintro P w1 f1⟨b9,F,K⟩;have a0:=E.wrote K S;have c1:=a0.c1;have f8:=K.gp S hG T;have e7:=Ok _ b9;generalize c3:t++s.sigs.flatMap Fi=tt at F;have httl:tt.length<=100000000+44000000:=by rw[<-c3,A9];omega
 refine go ?_
 refine Aj (α:=Nat×Value) (fun x=>[(0,pt p),(1,.pointer (sn b o)),(24,.slice ra s.reqs.length D),(25,iV (s.reqs.length:Int)),(26,iV (x.1:Int))])
  (fun x W=>x.1<=s.reqs.length/\(s.reqs.take x.1).all EQ=true/\WrB W p x.2 (tt++(List.range x.1).flatMap (rqI s.reqs))/\Wrote p v x.2 w W) (fun x=>s.reqs.length-x.1) (0,P) ag ⟨by simp,by simp,by simpa using F,K⟩ ?_
 clear c0 c1;rintro⟨k,v2⟩w2 f2⟨hk,y,Z,m⟩;simp only at hk y Z m⊢;refine go ?_;by_cases z:k<s.reqs.length
 ·obtain⟨r,B⟩:∃r,s.reqs[k]?=some r:=⟨_,AU z⟩;have g3:=SG s.reqs k hk y;have g2:=Yg s.reqs k;have e1:=Yg s.reqs (k+1);rw[Wk B]at e1;generalize c4:tt++(List.range k).flatMap (rqI s.reqs)=ut at Z;have hutl:ut.length<=144000000+44*szR s.reqs:=by rw[<-c4,A9];omega
  have b5:EQ r=false->EO s=false:=fun h=>by
   have:s.reqs.all EQ=false:=by
    rw[<-EK,Bu];intro h2;have:=h2 r (BA B);rw[h]at this;cases this
   simp[EO,this]
  have l:=E.wrote m S;obtain⟨d,R⟩:∃d,M[k]?=some d:=⟨_,AU (by rw[E.rr.1];exact z)⟩;obtain⟨f,n,d1,f9,g1⟩:=l.rs.row l.rr R z;subst d1
  have V:∀(W:World),SpV W p b o s H (sn f n) G D c M->∀j C,s.reqs[j]?=some C->CC W f (n+j*8+0) (AA C.part):=by
   intro W b2 j C u;have hj:=(Ah.1 u).1;obtain⟨d',b7⟩:∃d,M[j]?=some d:=⟨_,AU (by rw[E.rr.1];exact hj)⟩;obtain⟨_,_,e,_,d7⟩:=b2.rs.row b2.rr b7 hj;cases e;obtain⟨d5,e5,_⟩:=b2.rr.2 j d' C b7 u;exact d7 0 _ (by rw[e5];rfl)
  have c1:=l.c1;refine go ?_;repeat' first|refine AB ?_|refine Fx ?_|refine Gn ?_
  generalize Q:decide (k=0\/(s.reqs[k-1]?).map (·.part)≠some r.part)=cc;refine CE (α:=Unit) (fun _=>[(0,pt p),(1,.pointer (sn b o)),(6,iV (k:Int)),(7,.pointer (sn f (n+k*8))),(24,.slice (sn f n) s.reqs.length D),(25,iV (s.reqs.length:Int)),(26,iV (k:Int)),(52,.bool cc)]) (fun _ W=>Ext w2 W) ?_ ?_
  ·refine Ab (rd 0 18 .done) AX rD (fun X q ed=>⟨Ext X,?_,?_⟩)
   ·exact sY
   have a3:∀W,Ext X W->CC W b (o+1) (.slice (sn f n) s.reqs.length D):=fun W e=>((l.ext q).ext e).c1;have b0:∀W,Ext X W->CC W f (n+k*8+0) (AA r.part):=fun W e=>V W ((l.ext q).ext e) k r B;by_cases a1:k=0
   ·subst a1;have A:cc=true:=by rw[<-Q];simp
    exact uC
   ·obtain⟨C,u⟩:∃C,s.reqs[k-1]?=some C:=⟨_,AU U⟩
    have a9:∀W,Ext X W->CC W f (n+((k:Int)-1).toNat*8+0) (AA C.part):=fun W e=>by
     rw[show((k:Int)-1).toNat=k-1 by omega];exact V W ((l.ext q).ext e) (k-1) C u
    (refine D_R rfl rfl (fun W I=>AS rfl Z3) (YA rfl rfl rfl rfl U (D_R rfl rfl (fun W I=>AH rfl Z3) (D_R rfl rfl (fun W I=>AE rfl (Aq rfl Z3)) (D_R rfl rfl (fun W I=>AE rfl (A7 rfl Z3)) (D_R rfl rfl (fun W I=>AE rfl (AV rfl Z3)) (D_R rfl rfl (fun W I=>AE rfl (AQ rfl (a3 W I) Z3)) (D_R rfl rfl (fun W I=>AE rfl (AS rfl Z3)) ?_)))))))<;>(apply D_R rfl rfl;(intro W I;(refine AE rfl ?_;refine Iw rfl rfl rQ ?_);exact Z3))<;>refine D_R rfl rfl (fun W I=>AE rfl (Hb rfl rfl U U Z3)) (D_R rfl rfl (fun W I=>AE rfl (AV rfl Z3)) (D_R rfl rfl (fun W I=>AE rfl (AQ rfl (a9 W I) Z3)) (D_R rfl rfl (fun W I=>AE rfl (Aq rfl Z3)) (D_R rfl rfl (fun W I=>AE rfl (A7 rfl Z3)) (D_R rfl rfl (fun W I=>AE rfl (AV rfl Z3)) (D_R rfl rfl (fun W I=>AE rfl (AQ rfl (b0 W I) Z3)) ?_))))))<;>(refine SS rfl rfl rfl rfl (fun hc=>?_) (fun hc=>?_))<;>refine D_R rfl rfl (fun W I=>BJ rfl (AH rfl Z3)) (Cy ?_))
    ·have A:cc=true:=by rw[<-Q,u];simp;exact .inr rG
     exact uC
    ·have A:cc=false:=by rw[<-Q,u];simp[a1];assumption
     exact uC
  rintro _ w3 f3 g;have a6:=Z.ext g;have a7:=m.ext g;have d4:=l.ext g
  refine CE (α:=Value) (fun _=>[(0,pt p),(1,.pointer (sn b o)),(6,iV (k:Int)),(7,.pointer (sn f (n+k*8))),(24,.slice (sn f n) s.reqs.length D),(25,iV (s.reqs.length:Int)),(26,iV (k:Int))])
   (fun N W=>BP r.part=true/\WrB W p N (ut++if cc then[112,97,114,116,32]++(r.part++[32,123,10])else[])/\Wrote p v N w W) ?_ ?_
  ·cases cc with
   |true=>
    refine go ?_;have g5:=V w3 d4 k r B;refine go ?_;refine Av (Mc w3 r.part (a7.gp S hG T).gk) rfl ?_ ?_;rotate_left
    ·rintro ch w4⟨rfl,hb,rfl⟩;refine go ?_;exact Ap ⟨rfl,b5 (by simp[EQ,hb]),v2,a7⟩
    rintro _ w4⟨rfl,a2,rfl⟩;have e2:=(Gd a2).2.1;refine Ay (out:=[AA [112,97,114,116,32],AA r.part,AA [32,123,10]]) rfl U rD (fun w5 n5=>?_);refine AD (Hg (parts:=[[112,97,114,116,32],r.part,[32,123,10]]) a6 n5 O rE) rfl ?_;rintro _ w6⟨v6,b4,k6⟩;refine go ?_;refine Af v6 ag ⟨a2,?_,a7.Q k6⟩;rw[AJ rfl];simpa using b4
   |false=>
    refine go ?_;refine Af v2 ag ⟨?_,by simpa using a6,a7⟩;simp only[Ec,not_or,ne_eq,Decidable.not_not]at Q;obtain⟨C,u,e⟩:=Dd.1 Q.2;have:=Bu.1 y C (BA (i:=k-1) (by rw[List.getElem?_take_of_lt U];exact u));simp only[EQ,AZ]at this;rw[<-e];exact this.1
  rintro N w4 f4⟨a2,c6,k4⟩;have e2:=(Gd a2).2.1;generalize hot:(if cc then[112,97,114,116,32]++(r.part++[32,123,10])else[]:LU)=ot at c6;have g4:ot.length<=20:=by rw[<-hot];split<;>simp;omega
  refine go ?_;refine Ay (out:=[AA [32,32]]) rfl U rD (fun w5 n5=>?_);refine AD (Hg (parts:=[[32,32]]) c6 n5 O rE) rfl ?_;rintro _ w6⟨v6,b4,k6⟩;refine go ?_;have a8:=k4.Q k6;have b1:=E.wrote a8 S;have d3:=a8.gp S hG T
  have hpa:PA reqR (fun b=>b<p) w6 f (n+k*8) r:=by
   obtain⟨_,_,e,d6,d8⟩:=b1.rs.row b1.rr R z;cases e;exact⟨d6,d,d8,b1.rr.2 k d r R B⟩
  refine go ?_;refine Av (oX w6 p f (n+k*8) v6 _ r b4 hpa d3 T U rE) rfl ?_ ?_;rotate_left
  ·rintro ch w7⟨rfl,hb,v7,k7⟩;refine go ?_;exact Ap ⟨rfl,b5 (by simp[EQ,hb]),v7,a8.Q k7⟩
  rintro _ w7⟨hrok,v7,e9,k7⟩;have g7:=WN hrok;refine go ?_;have k47:=a8.Q k7;refine go ?_;refine Ay (out:=[AA [59,10]]) rfl U rD (fun w8 n8=>?_);refine AD (Hg (parts:=[[59,10]]) e9 n8 O rE) rfl ?_;rintro _ w9⟨v9,f0,k9⟩;have c9:=k47.Q k9;have a4:=E.wrote c9 S;repeat' first|refine AB ?_|refine Fx ?_|refine Gn ?_
  generalize a5:decide (k+1=s.reqs.length\/(s.reqs[k+1]?).map (·.part)≠some r.part)=ce;refine CE (α:=Unit) (fun _=>[(0,pt p),(1,.pointer (sn b o)),(24,.slice (sn f n) s.reqs.length D),(25,iV (s.reqs.length:Int)),(26,iV (k:Int)),(93,.bool ce)]) (fun _ W=>Ext w9 W) ?_ ?_
  ·refine Ab (rd 0 24 .done) AX rD (fun X q ed=>⟨Ext X,?_,?_⟩)
   ·exact sY
   have a3:∀W,Ext X W->CC W b (o+1) (.slice (sn f n) s.reqs.length D):=fun W e=>((a4.ext q).ext e).c1;have b0:∀W,Ext X W->CC W f (n+k*8+0) (AA r.part):=fun W e=>V W ((a4.ext q).ext e) k r B;by_cases a1:k+1=s.reqs.length
   ·have A:ce=true:=by rw[<-a5];simp[a1]
    exact uC
   ·obtain⟨C,u⟩:∃C,s.reqs[k+1]?=some C:=⟨_,AU U⟩
    have a9:∀W,Ext X W->CC W f (n+((k:Int)+1).toNat*8+0) (AA C.part):=fun W e=>by
     rw[show((k:Int)+1).toNat=k+1 by omega];exact V W ((a4.ext q).ext e) (k+1) C u
    have f7:∀W,Ext X W->CC W f (n+(k+1)*8+0) (AA C.part):=fun W e=>V W ((a4.ext q).ext e) (k+1) C u;(refine D_R rfl rfl (fun W I=>AS rfl Z3) ?_<;>(apply D_R rfl rfl;(intro W I;refine Fz rfl rfl rQ ?_;exact Z3))<;>refine D_R rfl rfl (fun W I=>Aq rfl Z3) (D_R rfl rfl (fun W I=>A7 rfl Z3) (D_R rfl rfl (fun W I=>AV rfl Z3) (D_R rfl rfl (fun W I=>AQ rfl (a3 W I) Z3) (D_R rfl rfl (fun W I=>Cj rfl Z3) (YA rfl rfl rfl rfl U (D_R rfl rfl (fun W I=>AH rfl Z3) (D_R rfl rfl (fun W I=>AE rfl (Aq rfl Z3)) (D_R rfl rfl (fun W I=>AE rfl (A7 rfl Z3)) (D_R rfl rfl (fun W I=>AE rfl (AV rfl Z3)) (D_R rfl rfl (fun W I=>AE rfl (AQ rfl (a3 W I) Z3)) (D_R rfl rfl (fun W I=>AE rfl (AS rfl Z3)) ?_)))))))))))<;>(apply D_R rfl rfl;(intro W I;(refine AE rfl ?_;refine Fz rfl rfl rQ ?_);exact Z3))<;>refine D_R rfl rfl (fun W I=>AE rfl (Hb rfl rfl U U Z3)) (D_R rfl rfl (fun W I=>AE rfl (AV rfl Z3)) (D_R rfl rfl (fun W I=>AE rfl (AQ rfl (a9 W I) Z3)) (D_R rfl rfl (fun W I=>AE rfl (Aq rfl Z3)) (D_R rfl rfl (fun W I=>AE rfl (A7 rfl Z3)) (D_R rfl rfl (fun W I=>AE rfl (AV rfl Z3)) (D_R rfl rfl (fun W I=>AE rfl (AQ rfl (b0 W I) Z3)) ?_))))))<;>(refine SS rfl rfl rfl rfl (fun hc=>?_) (fun hc=>?_))<;>refine D_R rfl rfl (fun W I=>BJ rfl (AH rfl Z3)) (Cy ?_))
    ·have A:ce=true:=by rw[<-a5,u];simp;exact .inr rG
     exact uC
    ·have A:ce=false:=by rw[<-a5,u];simp[a1];assumption
     exact uC
  rintro _ w10 f6 c7;have c5:=f0.ext c7;have c8:=c9.ext c7;have e6:EQ r=true:=by simp[EQ,a2,hrok]
  have d2:s.reqs.take (k+1)=s.reqs.take k++[r]:=by rw[CT,B];rfl
  have b8:(s.reqs.take (k+1)).all EQ=true:=by rw[d2,HC,y];simp[e6]
  have e4:(if k=0\/(s.reqs[k-1]?).map (·.part)≠some r.part then[112,97,114,116,32]++(r.part++[32,123,10])else[]:LU)=ot:=by
   rw[<-hot,<-Q];simp only[BD]
  have c2:tt++(List.range (k+1)).flatMap (rqI s.reqs)=ut++ot++[[32,32]].flatten++Gz r++[[59,10]].flatten++(if ce then[125,10]else[]):=by
   rw[RH,Lk,<-Cg,c4]
   have e:rqI s.reqs k=ot++([32,32]++(Gz r++([59,10]++(if ce then[125,10]else[])))):=by
    unfold rqI;rw[B];simp only;rw[e4,<-a5];simp only[BD]
   simp[e]
  cases ce with
  |true=>
   refine go ?_;refine Ay (out:=[AA [125,10]]) rfl U rD (fun w11 n11=>?_);refine AD (Hg (parts:=[[125,10]]) c5 n11 O rE) rfl ?_;rintro _ f5⟨d0,e8,k12⟩;refine go ?_
   have b3:WrB f5 p d0 (tt++(List.range (k+1)).flatMap (rqI s.reqs)):=by
    rw[c2,AJ rfl];simpa using e8
   refine go ?_;refine⟨(k+1,d0),⟨rfl,⟨rfl,rfl,rfl,rfl,?_,trivial⟩,⟨z,b8,b3,(c8.Q k12)⟩⟩,by simp only;omega⟩;show iV ((k:Int)+1)=_;rw[BB];rfl
  |false=>
   refine go ?_
   have b3:WrB w10 p v9 (tt++(List.range (k+1)).flatMap (rqI s.reqs)):=by
    rw[c2,AG O];simpa using c5
   refine go ?_;refine⟨(k+1,v9),⟨rfl,⟨rfl,rfl,rfl,rfl,?_,trivial⟩,⟨z,b8,b3,c8⟩⟩,by simp only;omega⟩;show iV ((k:Int)+1)=_;rw[BB];rfl
 ·refine go ?_;have e:k=s.reqs.length:=by omega
  subst e;rw[Co]at y;refine Bt rfl ⟨by simp[EO,b9,y],v2,?_,m⟩;have e:t++E8 s=tt++(List.range s.reqs.length).flatMap (rqI s.reqs):=by rw[<-c3];simp[E8,NR]
  rw[e];exact Z
def pF(r:Rqm):Bool:=r.part.isEmpty&&decide (r.kind=0)&&decide (r.formula.op=0)&&r.formula.name.isEmpty&&decide (r.formula.val=0)&&decide (r.formula.bound=0)&&r.formula.args.isEmpty
def okE(e:Edt):Bool:=if e.kind=2 then pF e.req&&BP e.req.name else(decide (e.kind=1)||decide (e.kind=3))&&BP e.req.part&&okR e.req
section
attribute [local semireducible] WC AF CO B0 Cx B8 Cc CB
variable {P:Program}{all:Array Oper}{Z:Fr->DS->List PanicEntry->World->Prop}{K:Fr->DS->World->Prop}{rest:List Oper}{f:Fr}{ds:DS}{w:World}{d:Nat}{ty:TypeId}{pos:String}{af:Array Edge}
def dx{i c v:TypeId}{o:Value}{x:Operand}[hT:IfT P i](b:ev f x=.iface v o)(h:AF P all Z K rest (upd f d (.bool true)) ds w):
  AF P all Z K (⟨some d,.binOp .neq i x (.const .nilIface) c,ty,pos,af,none⟩::rest) f ds w:=by
 obtain⟨g,a⟩:=hT.out;refine At rfl ?_ h
 have V:(Op.equalIn Op.maxDepth i (.iface v o) .nilIface).run P w=.ok false w:=by
  rw[show Op.maxDepth=9999+1 from rfl];generalize 9999=n;unfold Op.equalIn;simp[BV a]
 have I:ev f (.const .nilIface)=.nilIface:=rfl;simp[execOp,b,I,eqGuard,binOp,Op.equal,V]
end
instance:IfT Zp 20:=⟨_,underlying20⟩
def oO(w:World)(c:Nat):CallsDIn Fence.wide 0 Zp 84 ([]++[pt c]:LV).toArray .returning w (fun e v w'=>match e with| .returned _=>v=.returning/\w'=w|_=>False):=by
 refine JC (u1:=.returning) (v0:=.nilIface) (G:=fun _ w'=>w'=w) (args:=[pt c]) func84 rfl ntmps84 O rI rD rD (.inl ⟨rfl,rfl,rfl⟩) ?_;refine VN rfl (go ?_);exact Bt rfl rfl
def oN(w:World)(c:Nat)(x:Value)(d:Blk w c 9 [x]):CallsDIn Fence.wide 0 Zp 84 ([]++[pt c]:LV).toArray (.panicking [{v:=.iface 229 (.agg #[]),recovered:=false}]) w
   (fun u a w'=>match u with| .returned _=>a=.panicking [{v:=.iface 229 (.agg #[]),recovered:=true}]/\(Keep [c] w w'/\Blk w' c 9 [AA []])|_=>False):=by
 refine JC (u1:=.panicking [{v:=.iface 229 (.agg #[]),recovered:=true}]) (v0:=.iface 229 (.agg #[])) (G:=fun _ w'=>Keep [c] w w'/\Blk w' c 9 [AA []]) (args:=[pt c]) func84 rfl ntmps84 O rI rD rD (.inr ⟨_,rfl,rfl,rfl⟩) ?_;refine dx rfl ?_;refine nX ?_;refine AN ?_;refine AW rfl rfl rfl d O (fun L E=>?_);refine nX ?_;exact Bt rfl ⟨E.E,E.D⟩
def X0(w:World)(g c:Nat)[hg:AI Zp g](s:LU)(ok:Bool)(E:ok=true->s.length<=1000000000)(z:10<=w.heap.size)
  (T:∀Q p,Ext w Q->w.heap.size<p->WrB Q p (nS) []->FnP Zp g [pt p,pt c] Q (fun _ w'=>NL p (nS) [] s ok Q w') (NM p (nS) ok Q)):
  Fn Zp 30 [.func (.func g) #[] #[pt c]] w (fun v w'=>v=AA (if ok then s else[])/\Ext w w'):=by
 refine HN func30 rfl ntmps30 nlr rD (go ?_);refine Ai (fun Q D=>?_);have z1:=D.size;have q:Blk Q w.heap.size 9 [AA []]:=D.D;refine go ?_;refine Ox (v1:=[]) (v2:=[pt w.heap.size]) (vs:=[]) rfl rfl (go ?_);refine Ac (L:=[.pointer none,nS]) rfl (fun j R=>?_);have z2:=R.size;have h:Blk j Q.heap.size 139 [.pointer none,nS]:=R.D;refine go ?_;have m:Ext w j:=D.E.Q R.E;have G:WrB j Q.heap.size (nS) []:=⟨⟨none,.inl rfl,h⟩,⟨by simp[Ez],.inl ⟨rfl,rfl⟩⟩,.inl rfl⟩;have C:∀{X:List Nat}{a b:World},Keep X a b->True:=fun _=>trivial;clear C;have o:=q.E R.E O;refine go ?_;refine GJ (v1:=[]) (v2:=[pt c]) (vs:=[pt Q.heap.size]) rfl (T j Q.heap.size m U G) rfl ?_ ?_;rotate_left
 ·rintro W n⟨rfl,S,N,e⟩;refine go ?_;have k:=o.E e.E (by simp[Value.ownBlock];omega);refine Nb (a:=[]) (c:=[pt w.heap.size]) (oN n _ _ k) fun t A=>?_;obtain⟨i,l⟩:=A;refine CV rfl (l.cell rfl) ?_;refine⟨by rw[S];rfl,(m.E e.E ?_).E i O⟩;intro x V;simp[Value.ownBlock]at V;omega
 rintro _ n⟨S,N,B,e⟩;refine go ?_;have k:=o.E e.E (by simp[Value.ownBlock];omega);refine gC (cM n Q.heap.size N _ B (by simp;have:=E S;omega)) ?_;rintro _ t⟨rfl,i⟩;have u:∀y,N.ownBlock=some y->Q.heap.size<y:=fun y I=>(B.ge I).1;have l:=k.E i (fun V=>by have:=u _ (Aw.1 V);omega);refine AW rfl rfl rfl l O (fun M F=>go ?_);refine Nc (a:=[]) (c:=[pt w.heap.size]) (oO M _) fun r H=>?_;subst H;refine CV rfl (F.D.cell rfl) ?_;refine⟨by rw[S];rfl,((m.E e.E ?_).E i ?_).E F.E O⟩
 ·intro x V;simp[Value.ownBlock]at V;omega
 ·intro x V;have:=u x (Aw.1 V);omega
def qF{w:World}{p b o:Nat}{v:Value}{t:LU}{f:Fml}(S:WrB w p v t)(a:PF (fun b=>b<p) w b o f)(z:GP w)(C:10<=p)(c:szF f<=1000000)(N:t.length<=1000000000):
  FnP Zp 43 [pt p,.pointer (sn b o)] w (fun _ w'=>NL p v t (prF 0 f) (okF f) w w') (NM p v (okF f) w):=Ti w p b o v t f S a z C c N
def nQ(w:World)(x:Fml)(c:LV)(V:(fmlR).fits AL w c x)(z:GP w)(i:szF x<=1000000)(n:10<=w.heap.size)(N:(okF x)=true->(prF 0 x).length<=1000000000):
  Fn Zp 13 [.agg c.toArray] w (fun v w'=>v=AA (if okF x then prF 0 x else[])/\Ext w w'):=by
 refine AM func13 rfl ntmps13 (go ?_);refine Ac (L:=c) rfl (fun Q D=>go ?_);have j:=D.size;have a:=D.E;have W:=(fmlR).ext ((fmlR).lt V) a;have q:=D.D;refine gC (X0 Q 42 w.heap.size (prF 0 x) (okF x) N U ?_) ?_
 ·intro k p m C h;have S:=(z.ext a).ext m;have g:10<=p:=by omega
  refine CK func42 rfl ntmps42 nlr rD (go ?_);refine Av (qF h ⟨by omega,c,W.1,(D.D.E m O).cells,(W.2.ext m).mono fun b e=>Nat.lt_trans e.2 U⟩ S g i O) rfl ?_ ?_;rotate_left
  ·rintro y l R;refine go ?_;exact Ap R
  rintro _ l R;refine go ?_;exact Bt rfl R
 rintro _ k⟨rfl,m⟩;refine gR ?_;exact⟨rfl,a.Q m⟩
def nR(w:World)(x:Spc)(c:LV)(V:(spcR).fits AL w c x)(z:GP w)(k:szS x<=1000000)(n:10<=w.heap.size)(N:(EO x)=true->(E8 x).length<=1000000000):
  Fn Zp 8 [.agg c.toArray] w (fun v w'=>v=AA (if EO x then E8 x else[])/\Ext w w'):=by
 refine AM func8 rfl ntmps8 (go ?_);refine Ac (L:=c) rfl (fun Q D=>go ?_);have j:=D.size;have a:=D.E;have W:=(spcR).ext ((spcR).lt V) a;have q:=D.D;refine gC (X0 Q 31 w.heap.size (E8 x) (EO x) N U ?_) ?_
 ·intro e p m C i;have S:=(z.ext a).ext m;have h:10<=p:=by omega
  refine CK func31 rfl ntmps31 nlr rD (go ?_);refine Av (lM e p _ 0 _ [] x i ⟨by omega,c,(D.D.E m O).cells,spcR.mono (spcR.ext W m) fun b g=>Nat.lt_trans g.2 U⟩ S h k O) rfl ?_ ?_;rotate_left
  ·rintro y l R;refine go ?_;exact Ap R
  rintro _ l R;refine go ?_;exact Bt rfl R
 rintro _ e⟨rfl,m⟩;refine gR ?_;exact⟨rfl,a.Q m⟩


end Go.Proofs.YtjbocjodncbogaaGreatDoor
