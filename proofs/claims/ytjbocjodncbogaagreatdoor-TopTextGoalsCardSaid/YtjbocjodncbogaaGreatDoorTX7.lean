/- TopTextGoals, part 7 of 16: rules, lemmas, walks. Conditions: none. -/
import Derived.Test.YtjbocjodncbogaaGreatDoorTX6
import Derived.Test.YtjbocjodncbogaaGreatDoorShc
import Derived.Lib.Builder
import Derived.LaidEql
namespace Go.Proofs.YtjbocjodncbogaaGreatDoor
open Go.RowKit
set_option linter.unusedVariables false
section
variable {mk:Prop}[MK mk]
def cmpI(a b:Int):Int:=if a<b then -1 else if b<a then 1 else 0
def ED:LU->LU->Int
 | [],[]=>0
 | [],_::_=> -1
 |_::_,[]=>1
 |a::s,b::t=>if a.toNat<b.toNat then -1 else if b.toNat<a.toNat then 1 else ED s t
def CO(a b:Int):Int:=if a=0 then b else a
mutual
def B0:Fml->Fml->Int
 | .mk o n v b l,.mk o' n' v' b' l'=>CO (cmpI o o') (CO (ED n n') (CO (cmpI v v') (CO (cmpI b b') (CO (cmpI l.length l'.length) (cmpL l l')))))
def cmpL:LF->LF->Int
 |a::l,c::m=>CO (B0 a c) (cmpL l m)
 | [],_=>0
 |_::_,[]=>0
end
theorem thenI_zero{a b:Int}:CO a b=0↔a=0/\b=0:=by
 unfold CO;split<;>simp_all
theorem cmpI_zero{a b:Int}:cmpI a b=0↔a=b:=by unfold cmpI;split<;>(try split)<;>omega
theorem cmpI_flip(a b:Int):cmpI b a= -cmpI a b:=by unfold cmpI;split<;>(try split)<;>(try split)<;>omega
theorem cmpI_trans{a b c:Int}(h:cmpI a b<0)(T:cmpI b c<0):cmpI a c<0:=by
 unfold cmpI at*;split at h<;>(try split at h)<;>split at T<;>(try split at T)<;>split<;>(try split)<;>omega
theorem cmpS_zero:∀{s t:LU},ED s t=0↔s=t
 | [],[]=>by simp[ED]
 | [],_::_=>by simp[ED]
 |_::_,[]=>by simp[ED]
 |a::s,b::t=>by
  rw[ED]
  split
  ·rename_i h;refine⟨fun h=>by omega,fun W=>?_⟩;cases W;omega
  split
  ·rename_i h;refine⟨fun h=>by omega,fun W=>?_⟩;cases W;omega
  ·rename_i h1 W;have:a=b:=UInt8.toNat_inj.1 U;rw[cmpS_zero,this];simp
theorem cmpS_flip:∀(s t:LU),ED t s= -ED s t
 | [],[]=>rfl
 | [],_::_=>rfl
 |_::_,[]=>rfl
 |a::s,b::t=>by
  rw[ED,ED,cmpS_flip s t];by_cases h:a.toNat<b.toNat
  ·rw[if_neg U,if_pos h,if_pos h];rfl
  ·by_cases W:b.toNat<a.toNat
   ·rw[if_pos W,if_neg h,if_pos W]
   ·rw[if_neg W,if_neg h,if_neg h,if_neg W]
theorem cmpS_trans:∀{s t u:LU},ED s t<0->ED t u<0->ED s u<0
 | [],[],u,h,_=>by simp[ED]at h
 | [],_::_,[],_,h=>by simp[ED]at h
 | [],_::_,_::_,_,_=>by simp[ED]
 |_::_,[],u,h,_=>by simp[ED]at h
 |_::_,_::_,[],_,h=>by simp[ED]at h
 |a::s,b::t,c::u,h,h'=>by
  rw[ED]at h h'⊢;by_cases Z:a.toNat<b.toNat
  ·by_cases W:c.toNat<b.toNat
   ·rw[if_neg U,if_pos W]at h';omega
   ·rw[if_pos U];omega
  ·rw[if_neg Z]at h;by_cases W:b.toNat<a.toNat
   ·rw[if_pos W]at h;omega
   ·rw[if_neg W]at h;by_cases R:b.toNat<c.toNat
    ·rw[if_pos U];omega
    ·rw[if_neg R]at h';by_cases B:c.toNat<b.toNat
     ·rw[if_pos B]at h';omega
     ·rw[if_neg B]at h';rw[if_neg U,if_neg U];exact cmpS_trans h h'
theorem then_flip{a b Z v:Int}(h:Z= -a)(T:a=0->v= -b):CO Z v= -CO a b:=by
 unfold CO;by_cases t:a=0
 ·rw[if_pos U,if_pos t];exact T t
 ·rw[if_neg U,if_neg t];exact h
theorem then_lt{a b:Int}:CO a b<0↔a<0\/a=0/\b<0:=by
 unfold CO;split<;>omega
theorem then_trans{B R P n j z:Int}(a:B<0->R<0->P<0)(N:B=0->P=R)(I:R=0->P=B)(S:B=0->R=0->n<0->j<0->z<0)(Z:CO B n<0)(W:CO R j<0):CO P z<0:=by
 rw[then_lt]at*
 rcases Z with Z|⟨Z,i⟩<;>rcases W with W|⟨W,h⟩
 ·exact .inl (a Z W)
 ·exact .inl (by have:=I W;omega)
 ·exact .inl (by have:=N Z;omega)
 ·refine .inr ⟨by have:=N Z;omega,S Z W i h⟩
mutual
theorem C4:∀(f g:Fml),B0 f g=0↔f=g
 | .mk o n v b l,.mk o' n' v' b' l'=>by
  rw[B0];simp only[thenI_zero,cmpI_zero,cmpS_zero,Fml.mk.injEq];constructor
  ·rintro⟨rfl,rfl,rfl,rfl,h,h'⟩;exact⟨rfl,rfl,rfl,rfl,(cmpL_zero l l' U).1 h'⟩
  ·rintro⟨rfl,rfl,rfl,rfl,rfl⟩;exact⟨rfl,rfl,rfl,rfl,rfl,(cmpL_zero l l rfl).2 rfl⟩
theorem cmpL_zero:∀(l m:LF),l.length=m.length->(cmpL l m=0↔l=m)
 |a::l,c::m,h=>by
  rw[cmpL,thenI_zero,C4 a c,cmpL_zero l m Ed];simp
 | [],[],_=>by simp[cmpL]
 | [],_::_,h=>by simp at h
 |_::_,[],h=>by simp at h
end
mutual
theorem cmpF_flip:∀(f g:Fml),B0 g f= -B0 f g
 | .mk o n v b l,.mk o' n' v' b' l'=>by
  rw[B0,B0];refine then_flip (cmpI_flip _ _) fun _=>then_flip (cmpS_flip _ _) fun _=>then_flip (cmpI_flip _ _) fun _=>then_flip (cmpI_flip _ _) fun _=>then_flip (cmpI_flip _ _) fun _=>cmpL_flip l l'
theorem cmpL_flip:∀(l m:LF),cmpL m l= -cmpL l m
 |a::l,c::m=>by rw[cmpL,cmpL];exact then_flip (cmpF_flip a c) fun _=>cmpL_flip l m
 | [],[]=>rfl
 | [],_::_=>rfl
 |_::_,[]=>rfl
end
theorem cmpI_left{a b c:Int}(h:cmpI a b=0):cmpI a c=cmpI b c:=by rw[cmpI_zero.1 h]
theorem cmpI_right{a b c:Int}(h:cmpI b c=0):cmpI a c=cmpI a b:=by rw[cmpI_zero.1 h]
theorem cmpS_left{a b c:LU}(h:ED a b=0):ED a c=ED b c:=by rw[cmpS_zero.1 h]
theorem cmpS_right{a b c:LU}(h:ED b c=0):ED a c=ED a b:=by rw[cmpS_zero.1 h]
mutual
theorem Dl:∀(f g k:Fml),B0 f g<0->B0 g k<0->B0 f k<0
 | .mk o n v b l,.mk o' n' v' b' l',.mk o'' n'' v'' b'' l''=>by
  rw[B0,B0,B0]
  refine then_trans cmpI_trans cmpI_left cmpI_right fun _ _=>then_trans cmpS_trans cmpS_left cmpS_right fun _ _=>then_trans cmpI_trans cmpI_left cmpI_right fun _ _=>then_trans cmpI_trans cmpI_left cmpI_right fun _ _=>
   then_trans cmpI_trans cmpI_left cmpI_right fun h1 h2=>cmpL_trans l l' l'' (by have:=cmpI_zero.1 h1;omega) (by have:=cmpI_zero.1 h2;omega)
theorem cmpL_trans:∀(l m k:LF),l.length=m.length->m.length=k.length->cmpL l m<0->cmpL m k<0->cmpL l k<0
 |a::l,c::m,d::k,h,h'=>by
  rw[cmpL,cmpL,cmpL];exact then_trans (Dl a c d) (fun e=>by rw[(C4 a c).1 e]) (fun e=>by rw[(C4 c d).1 e]) fun _ _=>cmpL_trans l m k Ed (by simpa using h')
 | [],[],_,_,_=>fun h=>by simp[cmpL]at h
 | [],_::_,_,h,_=>by simp at h
 |_::_,[],_,h,_=>by simp at h
 |_::_,_::_,[],_,h=>by simp at h
end
def insF(a:Fml):LF->LF
 | []=>[a]
 |c::l=>if B0 a c<0 then a::c::l else if B0 a c=0 then c::l else c::insF a l
def dist(l:LF):LF:=l.foldr insF []
def Inc:LF->Prop
 | []=>True
 |a::l=>(∀c∈l,B0 a c<0)/\Inc l
theorem mem_insF{a x:Fml}:∀{l:LF},x∈insF a l↔x=a\/x∈l
 | []=>by simp[insF]
 |c::l=>by
  rw[insF]
  split
  ·simp
  split
  ·rename_i h;have:=(C4 a c).1 h;subst this;simp
  ·simp only[List.mem_cons,mem_insF (l:=l)];constructor
   ·rintro(h|h|h)
    ·exact .inr (.inl h)
    ·exact .inl h
    ·exact .inr (.inr h)
   ·rintro(h|h|h)
    ·exact .inr (.inl h)
    ·exact .inl h
    ·exact .inr (.inr h)
theorem mem_dist{x:Fml}:∀{l:LF},x∈dist l↔x∈l
 | []=>Iff.rfl
 |c::l=>by
  show x∈insF c (dist l)↔_;rw[mem_insF,mem_dist (l:=l)];simp
theorem inc_insF{a:Fml}:∀{l:LF},Inc l->Inc (insF a l)
 | [],_=>by simp[insF,Inc]
 |c::l,h=>by
  rw[insF]
  split
  ·rename_i hlt;refine⟨fun d C=>?_,h⟩;rcases List.mem_cons.1 C with rfl|C
   ·exact hlt
   ·exact Dl _ _ _ hlt (h.1 d C)
  split
  ·exact h
  ·rename_i h1 h2;refine⟨fun d C=>?_,inc_insF h.2⟩;rcases mem_insF.1 C with rfl|C
   ·have:=cmpF_flip d c;omega
   ·exact h.1 d C
theorem inc_dist:∀l:LF,Inc (dist l)
 | []=>trivial
 |c::l=>inc_insF (inc_dist l)
theorem cmp_irr(a:Fml):¬B0 a a<0:=by rw[(C4 a a).2 rfl];omega
theorem inc_ext:∀{l m:LF},Inc l->Inc m->(∀x,x∈l↔x∈m)->l=m
 | [],[],_,_,_=>rfl
 | [],c::m,_,_,h=>by have:=(h c).2 O;cases this
 |a::l,[],_,_,h=>by have:=(h a).1 O;cases this
 |a::l,c::m,hl,hm,h=>by
  have e:a=c:=by
   have Z:=(h a).1 O;have W:=(h c).2 O;rcases List.mem_cons.1 Z with rfl|Z
   ·rfl
   ·rcases List.mem_cons.1 W with rfl|W
    ·rfl
    ·exact absurd (Dl _ _ _ (hl.1 c W) (hm.1 a Z)) (cmp_irr a)
  subst e
  have:l=m:=inc_ext hl.2 hm.2 fun x=>by
   constructor
   ·intro V;rcases List.mem_cons.1 ((h x).1 (List.mem_cons_of_mem _ V))with rfl|I
    ·exact absurd (hl.1 x V) (cmp_irr x)
    ·exact I
   ·intro V;rcases List.mem_cons.1 ((h x).2 (List.mem_cons_of_mem _ V))with rfl|I
    ·exact absurd (hm.1 x V) (cmp_irr x)
    ·exact I
  rw[this]
theorem dist_id{l:LF}(h:Inc l):dist l=l:=inc_ext (inc_dist l) h fun _=>mem_dist
def Dw(op:Int):Int:=if op=6 then 2 else 1
def C5(op:Int):Int:=if op=6 then 1 else 2
def gath(op:Int):LF->Option (LF)
 | []=>some []
 |f::l=>if f.op=op then(gath op l).map (f.args++ ·)else if f.op=C5 op then none else if f.op=Dw op then gath op l else(gath op l).map (f:: ·)
def oppB(l:LF):Bool:=l.any fun x=>decide (x.op=4)&&l.any fun y=>decide (B0 y (x.args.getD 0 Am)=0)
def joinD(op:Int)(d:LF):Fml:=if oppB d then⟨C5 op,[],0,0,[]⟩else match d with
 | []=>⟨Dw op,[],0,0,[]⟩
 | [a]=>a
 |d=>opF op d
def joinM(op:Int)(l:LF):Fml:=match gath op l with
 |none=>⟨C5 op,[],0,0,[]⟩
 |some g=>joinD op (dist g)
def DQ(f:Fml):Bool:=decide (f.op=1)||decide (f.op=2)
def CU(op:Int)(k:LU)(v:Int)(l:LF):Fml:=
 if op=5\/op=6 then joinM op l
 else if op=8/\DQ (l.getD 0 Am)=true then l.getD 0 Am
 else if op=9/\(DQ (l.getD 1 Am)=true\/(l.getD 0 Am).op=2)then l.getD 1 Am
 else if op=10/\(DQ (l.getD 1 Am)=true\/(l.getD 0 Am).op=1)then l.getD 1 Am
 else⟨op,k,v,0,l⟩
mutual
def BR:Fml->Fml
 | .mk op nm v _ args=>CU op nm v (canonL args)
def canonL:LF->LF
 | []=>[]
 |a::l=>BR a::canonL l
end
theorem canonL_eq:∀l,canonL l=l.map BR
 | []=>rfl
 |a::l=>by rw[canonL,canonL_eq l];rfl
def Fl(op:Int)(c:Fml):LF:=if c.op=op then c.args else if c.op=Dw op then[]else[c]
def zAny(op:Int)(l:LF):Bool:=l.any fun c=>decide (c.op=C5 op)
def conO(op:Int):Fml:=⟨op,[],0,0,[]⟩
theorem joinD_eq(op:Int)(d:LF):joinD op d=if oppB d then conO (C5 op)else match d with| []=>conO (Dw op)| [a]=>a|d=>opF op d:=rfl
theorem uz_ne{op:Int}(h:op=5\/op=6):C5 op≠op/\Dw op≠op/\C5 op≠Dw op/\(C5 op=1\/C5 op=2)/\(Dw op=1\/Dw op=2):=by
 unfold C5 Dw;rcases h with rfl|rfl<;>decide
theorem gath_eq{op:Int}(h:op=5\/op=6):∀l:LF,gath op l=if zAny op l then none else some (l.flatMap (Fl op))
 | []=>rfl
 |f::l=>by
  obtain⟨Z,W,R,_,_⟩:=uz_ne h;have x:=gath_eq h l;rw[gath,x];have b:zAny op (f::l)=(decide (f.op=C5 op)||zAny op l):=rfl;rw[b,List.flatMap_cons];by_cases a:f.op=op
  ·rw[if_pos a,decide_eq_false (by rw[a];exact fun e=>Z e.symm),Bool.false_or];have:Fl op f=f.args:=by unfold Fl;rw[if_pos a]
   rw[this];cases zAny op l<;>rfl
  ·rw[if_neg a];by_cases o:f.op=C5 op
   ·rw[if_pos o,decide_eq_true o];rfl
   ·rw[if_neg o,decide_eq_false o,Bool.false_or];by_cases g:f.op=Dw op
    ·rw[if_pos g];have:Fl op f=[]:=by unfold Fl;rw[if_neg a,if_pos g]
     rw[this];rfl
    ·rw[if_neg g];have:Fl op f=[f]:=by unfold Fl;rw[if_neg a,if_neg g]
     rw[this];cases zAny op l<;>rfl
theorem joinM_eq{op:Int}(h:op=5\/op=6)(l:LF):joinM op l=if zAny op l then conO (C5 op)else joinD op (dist (l.flatMap (Fl op))):=by
 unfold joinM;rw[gath_eq h];cases zAny op l<;>rfl
def shO(op:Int)(k:LU)(v:Int)(args:LF):Prop:=
 looseO op=true/\BX op args.length=true/\(op≠3->k=[])/\(op≠3->op≠15->op≠16->op≠17->v=0)/\(op=4->∀a∈args,a.op=3)
mutual
def Sh:Fml->Prop
 | .mk op nm v b args=>b=0/\shO op nm v args/\ShL args
def ShL:LF->Prop
 | []=>True
 |a::l=>Sh a/\ShL l
end
theorem shL_iff:∀{l:LF},ShL l↔∀a∈l,Sh a
 | []=>by simp[ShL]
 |a::l=>by rw[ShL,shL_iff];simp
theorem sh_iff{op v b:Int}{k:LU}{args:LF}:Sh (.mk op k v b args)↔b=0/\shO op k v args/\∀a∈args,Sh a:=by rw[Sh,shL_iff]
theorem sh_eq{f:Fml}(h:Sh f):f.bound=0/\shO f.op f.name f.val f.args/\∀a∈f.args,Sh a:=by
 obtain⟨op,k,v,b,args⟩:=f;exact sh_iff.1 h
theorem sh_bare:∀{f:Fml}{i:Bool},Dq i f=true->Sh f
 | .mk op nm v b args,i,h=>by
  simp only[Dq,Bool.and_eq_true]at h;obtain⟨⟨⟨⟨Z,W⟩,R⟩,B⟩,d⟩:=h;have D:=bare_arity W;simp only[Bs,Bool.and_eq_true,decide_eq_true_eq]at W;obtain⟨⟨⟨⟨⟨⟨⟨o,L⟩,V⟩,G⟩,k⟩,t⟩,l⟩,e⟩:=W;have n:=loose_cases Z;refine sh_iff.2 ⟨?_,⟨Z,D,fun I=>?_,fun j r m g=>?_,fun P a s=>?_⟩,fun a s=>sh_bare (bareL_mem d s)⟩
  ·rw[if_neg U]at l;omega
  ·rw[if_neg I]at e;simpa using e
  ·rw[if_neg j,if_neg U]at k;omega
  ·rw[if_pos P]at B;subst P;have z:args.length=1:=by simpa[BX]using D
   obtain⟨c,rfl⟩:=one_arg z;have:a=c:=by simpa using s
   subst this;simpa using B
def cfO(op:Int)(args:LF):Prop:=
 (op=5\/op=6->Inc args/\oppB args=false/\∀a∈args,a.op≠op/\a.op≠C5 op/\a.op≠Dw op)/\
 (op=8->DQ (args.getD 0 Am)=false)/\(op=9->DQ (args.getD 1 Am)=false/\(args.getD 0 Am).op≠2)/\(op=10->DQ (args.getD 1 Am)=false/\(args.getD 0 Am).op≠1)
mutual
def CF:Fml->Prop
 | .mk op nm v b args=>b=0/\shO op nm v args/\cfO op args/\CFL args
def CFL:LF->Prop
 | []=>True
 |a::l=>CF a/\CFL l
end
theorem cfL_iff:∀{l:LF},CFL l↔∀a∈l,CF a
 | []=>by simp[CFL]
 |a::l=>by rw[CFL,cfL_iff];simp
theorem cf_iff{op v b:Int}{k:LU}{args:LF}:CF (.mk op k v b args)↔b=0/\shO op k v args/\cfO op args/\∀a∈args,CF a:=by rw[CF,cfL_iff]
theorem cf_eq{f:Fml}(h:CF f):f.bound=0/\shO f.op f.name f.val f.args/\cfO f.op f.args/\∀a∈f.args,CF a:=by
 obtain⟨op,k,v,b,args⟩:=f;exact cf_iff.1 h
theorem cf_sh:∀{f:Fml},CF f->Sh f
 | .mk op nm v b args,h=>by
  obtain⟨Z,W,_,B⟩:=cf_iff.1 h;exact sh_iff.2 ⟨Z,W,fun a D=>cf_sh (B a D)⟩
theorem cf_con{op:Int}(h:op=1\/op=2):CF (conO op):=by
 refine cf_iff.2 ⟨rfl,⟨?_,?_,fun _=>rfl,fun _ _ _ _=>rfl,fun B=>by omega⟩,⟨fun d=>by omega,fun d=>by omega,fun d=>by omega,fun d=>by omega⟩,fun a D=>by cases D⟩
 ·rcases h with rfl|rfl<;>rfl
 ·rcases h with rfl|rfl<;>rfl
theorem fl_cf{op:Int}(h:op=5\/op=6){c:Fml}(T:CF c)(o:c.op≠C5 op):∀a∈Fl op c,CF a/\a.op≠op/\a.op≠C5 op/\a.op≠Dw op:=by
 obtain⟨_,_,R,B⟩:=cf_eq T;intro a D;unfold Fl at D;by_cases b:c.op=op
 ·rw[if_pos b]at D;have:=(R.1 (by rw[b];exact h)).2.2 a D;rw[b]at this;exact⟨B a D,this⟩
 ·rw[if_neg b]at D;by_cases g:c.op=Dw op
  ·rw[if_pos g]at D;cases D
  ·rw[if_neg g]at D;have:a=c:=by simpa using D
   subst this;exact⟨T,b,o,g⟩
theorem fl_self{op:Int}{a:Fml}(Z:a.op≠op)(W:a.op≠Dw op):Fl op a=[a]:=by unfold Fl;rw[if_neg Z,if_neg W]
theorem zAny_false{op:Int}{l:LF}:zAny op l=false↔∀c∈l,c.op≠C5 op:=by
 unfold zAny;rw[List.any_eq_false];simp
theorem flat_self{op:Int}:∀{d:LF},(∀a∈d,a.op≠op/\a.op≠Dw op)->d.flatMap (Fl op)=d
 | [],_=>rfl
 |a::d,h=>by
  rw[List.flatMap_cons,fl_self (h a O).1 (h a O).2,flat_self fun c T=>h c Eb];rfl
theorem joinD_cf{op:Int}(h:op=5\/op=6){d:LF}(H:Inc d)(C:∀a∈d,CF a/\a.op≠op/\a.op≠C5 op/\a.op≠Dw op):CF (joinD op d):=by
 obtain⟨_,_,_,o,g⟩:=uz_ne h;rw[joinD_eq];cases ho:oppB d with
 |true=>exact cf_con o
 |false=>
  match d,H,C,ho with
  | [],_,_,_=>exact cf_con g
  | [a],_,C,_=>exact(C a O).1
  |a::c::d,H,C,ho=>
   refine cf_iff.2 ⟨rfl,⟨?_,?_,fun _=>rfl,fun _ _ _ _=>rfl,fun B=>by omega⟩,⟨fun _=>⟨H,ho,fun x V=>(C x V).2⟩,fun i=>by omega,fun i=>by omega,fun i=>by omega⟩,fun x V=>(C x V).1⟩
   ·rcases h with rfl|rfl<;>rfl
   ·unfold BX;rw[if_neg U,if_pos h];exact decide_eq_true O
theorem dist_parts{op:Int}(h:op=5\/op=6){l:LF}(K:∀c∈l,CF c)(o:zAny op l=false):∀a∈dist (l.flatMap (Fl op)),CF a/\a.op≠op/\a.op≠C5 op/\a.op≠Dw op:=by
 intro a D;rw[mem_dist,List.mem_flatMap]at D;obtain⟨c,T,D⟩:=D;exact fl_cf h (K c T) (zAny_false.1 o c T) a D
theorem joinM_cf{op:Int}(h:op=5\/op=6){l:LF}(K:∀c∈l,CF c):CF (joinM op l):=by
 rw[joinM_eq h];cases hz:zAny op l with
 |true=>exact cf_con (uz_ne h).2.2.2.1
 |false=>exact joinD_cf h (inc_dist _) (dist_parts h K hz)
theorem canon_eq(op v b:Int)(k:LU)(args:LF):BR (.mk op k v b args)=CU op k v (args.map BR):=by rw[BR,canonL_eq]
theorem canonOp_cf{op v:Int}{k:LU}{args:LF}(h:shO op k v args)(D:∀a∈args,CF a):CF (CU op k v args):=by
 obtain⟨Z,W,R,B,d⟩:=h;have P:=loose_cases Z;unfold CU;by_cases E:op=5\/op=6
 ·rw[if_pos E];exact joinM_cf E D
 rw[if_neg E]
 have L:∀i,i<args.length->CF (args.getD i Am):=fun i H=>by
  rw[List.getD_eq_getElem?_getD,List.getElem?_eq_getElem H];exact D _ (List.getElem_mem H)
 have q:op=8->args.length=1:=fun e=>by subst e;simpa[BX]using W
 have b:op=9\/op=10->args.length=2:=fun e=>by
  unfold BX at W;rw[if_neg U,if_neg E,if_pos U]at W;exact of_decide_eq_true W
 by_cases u:op=8/\DQ (args.getD 0 Am)=true
 ·rw[if_pos u];exact L 0 (by have:=q u.1;omega)
 rw[if_neg u];by_cases N:op=9/\(DQ (args.getD 1 Am)=true\/(args.getD 0 Am).op=2)
 ·rw[if_pos N];exact L 1 (by have:=b (.inl N.1);omega)
 rw[if_neg N];by_cases M:op=10/\(DQ (args.getD 1 Am)=true\/(args.getD 0 Am).op=1)
 ·rw[if_pos M];exact L 1 (by have:=b (.inr M.1);omega)
 rw[if_neg M];refine cf_iff.2 ⟨rfl,⟨Z,W,R,B,d⟩,⟨fun e=>absurd e E,fun e=>?_,fun e=>?_,fun e=>?_⟩,D⟩
 ·cases hb:DQ (args.getD 0 Am)with
  |false=>rfl
  |true=>exact absurd ⟨e,hb⟩ u
 ·refine⟨?_,fun T=>N ⟨e,.inr T⟩⟩;cases hb:DQ (args.getD 1 Am)with
  |false=>rfl
  |true=>exact absurd ⟨e,.inl hb⟩ N
 ·refine⟨?_,fun T=>M ⟨e,.inr T⟩⟩;cases hb:DQ (args.getD 1 Am)with
  |false=>rfl
  |true=>exact absurd ⟨e,.inl hb⟩ M
theorem canon_op3{f:Fml}(h:f.op=3):(BR f).op=3:=by
 obtain⟨op,k,v,b,a⟩:=f;obtain rfl:op=3:=h;rw[canon_eq];rfl
theorem shO_map{op v:Int}{k:LU}{args:LF}(h:shO op k v args)(g:Fml->Fml)(w:∀a,a.op=3->(g a).op=3):shO op k v (args.map g):=by
 obtain⟨Z,W,R,B,d⟩:=h;refine⟨Z,by rw[List.length_map];exact W,R,B,fun e a D=>?_⟩;obtain⟨c,T,rfl⟩:=List.mem_map.1 D;exact w c (d e c T)
theorem canon_cf:∀{f:Fml},Sh f->CF (BR f)
 | .mk op nm v b args,h=>by
  obtain⟨_,W,R⟩:=sh_iff.1 h;rw[canon_eq];refine canonOp_cf (shO_map W BR fun a=>canon_op3) fun a D=>?_;obtain⟨c,T,rfl⟩:=List.mem_map.1 D;exact canon_cf (R c T)
theorem canon_fix:∀{f:Fml},CF f->BR f=f
 | .mk op nm v b args,h=>by
  obtain⟨Z,W,R,B⟩:=cf_iff.1 h
  have e:args.map BR=args:=by
   have:∀l:LF,(∀a∈l,BR a=a)->l.map BR=l:=by
    intro l
    induction l with
    |nil=>intro _;rfl
    |cons a l ih=>intro K;rw[List.map_cons,K a O,ih fun c g=>K c (by simp[g])]
   exact this args fun a D=>canon_fix (B a D)
  rw[canon_eq,e];unfold CU;by_cases E:op=5\/op=6
  ·rw[if_pos E,joinM_eq E];obtain⟨j,L,V⟩:=R.1 E;have o:zAny op args=false:=zAny_false.2 fun c g=>(V c g).2.1;rw[o,flat_self fun a D=>⟨(V a D).1,(V a D).2.2⟩,dist_id j,joinD_eq,L]
   have K:2<=args.length:=by
    have:=W.2.1;unfold BX at this;rw[if_neg U,if_pos E]at this;exact of_decide_eq_true this
   have i:nm=[]:=W.2.2.1 U;have r:v=0:=W.2.2.2.1 U U U U;subst Z;subst i;subst r
   match args,K with
   |a::c::d,_=>rfl
  rw[if_neg E];rw[if_neg (by rintro⟨e,T⟩;rw[R.2.1 e]at T;cases T)]
  rw[if_neg (by
   rintro⟨e,T|T⟩
   ·rw[(R.2.2.1 e).1]at T;cases T
   ·exact(R.2.2.1 e).2 T)]
  rw[if_neg (by
   rintro⟨e,T|T⟩
   ·rw[(R.2.2.2 e).1]at T;cases T
   ·exact(R.2.2.2 e).2 T)]
  rw[Z]
theorem aged_eq(x:Vl)(op:Int)(k:LU)(v b:Int)(args:LF):aged x (.mk op k v b args)=.mk op k (agedV x op v ((args.map (Ck x)).getD 0 false) (Ck x (.mk op k v b args))) 0 (args.map (aged x)):=by rw[aged,agedL_eq]
theorem agedV_keep(x:Vl){op:Int}(v:Int)(a b:Bool)(h:¬(op=15\/op=16\/op=17)):agedV x op v a b=v:=by
 unfold agedV;rw[if_neg U,if_neg U]
theorem canonOp_8(k:LU)(v:Int)(l:LF):CU 8 k v l=if DQ (l.getD 0 Am)=true then l.getD 0 Am else⟨8,k,v,0,l⟩:=by
 unfold CU;rw[if_neg U,if_neg (show¬((8:Int)=9/\_)from fun q=>absurd q.1 U),if_neg (show¬((8:Int)=10/\_)from fun q=>absurd q.1 U)];simp
theorem canonOp_9(k:LU)(v:Int)(l:LF):CU 9 k v l=if DQ (l.getD 1 Am)=true\/(l.getD 0 Am).op=2 then l.getD 1 Am else⟨9,k,v,0,l⟩:=by
 unfold CU;rw[if_neg U,if_neg (show¬((9:Int)=8/\_)from fun q=>absurd q.1 U),if_neg (show¬((9:Int)=10/\_)from fun q=>absurd q.1 U)];simp
theorem canonOp_10(k:LU)(v:Int)(l:LF):CU 10 k v l=if DQ (l.getD 1 Am)=true\/(l.getD 0 Am).op=1 then l.getD 1 Am else⟨10,k,v,0,l⟩:=by
 unfold CU;rw[if_neg U,if_neg (show¬((10:Int)=8/\_)from fun q=>absurd q.1 U),if_neg (show¬((10:Int)=9/\_)from fun q=>absurd q.1 U)];simp
theorem canonOp_E{op:Int}(h:¬(op=5\/op=6))(i:op≠8)(m:op≠9)(N:op≠10)(k:LU)(v:Int)(l:LF):CU op k v l=⟨op,k,v,0,l⟩:=by
 unfold CU;rw[if_neg h,if_neg (fun q=>i q.1),if_neg (fun q=>m q.1),if_neg (fun q=>N q.1)]
theorem raw_eq(x:Vl)(op:Int)(k:LU)(v b:Int)(args:LF):rawF x (.mk op k v b args)=if Dc (.mk op k v b args)then constF (Ck x (.mk op k v b args))else rawOp op (aged x (.mk op k v b args)) (args.map (rawF x)) (args.map (aged x)):=by rw[rawF,rawL_eq,agedL_eq]
end
section
variable {mk:Prop}[MK mk]
end
section
variable {mk:Prop}[MK mk]
end
section
variable {mk:Prop}[MK mk]
end
section
variable {mk:Prop}[MK mk]
theorem lib_cmpI(a b:Int):Lib.compareInt a b=cmpI a b:=by
 unfold Lib.compareInt cmpI;rfl
theorem lib_cmpS:∀s t:LU,Lib.compareBytes s t=ED s t
 | [],[]=>rfl
 | [],_::_=>rfl
 |_::_,[]=>rfl
 |a::s,b::t=>by
  rw[Lib.compareBytes,ED,lib_cmpS s t];rfl
theorem cmpInt_ok(a b:Int)(w:World):Fn Zp 325 [iV a,iV b] w fun v w'=>v=iV (cmpI a b)/\w'=w:=by
 refine Calls.mono (Tryz.cmp_Compare_int a b w) ?_;rintro e w'⟨rfl,rfl⟩;exact⟨by rw[lib_cmpI],rfl⟩
theorem cmpStr_ok(a b:LU)(w:World):Fn Zp 326 [AL a,AL b] w fun v w'=>v=iV (ED a b)/\w'=w:=by
 refine Calls.mono (Tryz.strings_Compare ⟨a.toArray⟩ ⟨b.toArray⟩ w) ?_;rintro e w'⟨rfl,rfl⟩;exact⟨by rw[lib_cmpS],rfl⟩
def cmpN(f g:Fml):Int:=CO (cmpI f.op g.op) (CO (ED f.name g.name) (CO (cmpI f.val g.val) (CO (cmpI f.bound g.bound) (cmpI f.args.length g.args.length))))
theorem thenI_ne{a b:Int}(h:a≠0):CO a b=a:=if_neg h
theorem Cw{a b:Int}(h:a=0):CO a b=b:=if_pos h
theorem cmpF_split(f g:Fml):B0 f g=CO (cmpN f g) (cmpL f.args g.args):=by
 obtain⟨o,n,v,b,l⟩:=f;obtain⟨k,C,E,d,G⟩:=g;rw[B0];simp only[cmpN,Fml.op,Fml.name,Fml.val,Fml.bound,Fml.args]
 have h:∀a b c:Int,CO (CO a b) c=CO a (CO b c):=by
  intro a b c;unfold CO;by_cases h:a=0
  ·rw[if_pos h,if_pos h]
  ·rw[if_neg h,if_neg h,if_neg h]
 simp only[h]
set_option maxHeartbeats 1600000 in
theorem cmpNodes_ok(w:World)(b o i k:Nat)(f g:Fml)(P:PF Af w b o f)(hg:PF Af w i k g):
  Fn Zp 290 [.pointer (some ⟨b,o,none⟩),.pointer (some ⟨i,k,none⟩)] w fun v w'=>v=iV (cmpN f g)/\Ext w w':=by
 obtain⟨_,a,c,L,T,_,_⟩:=P.form;obtain⟨_,Z,I,L',l,_,_⟩:=hg.form;have K:w.cell? ⟨b,o+0,none⟩=some (iV f.op):=T 0 _ rfl;have Q:w.cell? ⟨b,o+1,none⟩=some (AL f.name):=T 1 _ rfl;have j:w.cell? ⟨b,o+2,none⟩=some (iV f.val):=T 2 _ rfl;have s:w.cell? ⟨b,o+3,none⟩=some (iV f.bound):=T 3 _ rfl;have r:w.cell? ⟨b,o+4,none⟩=some (.slice a f.args.length c):=T 4 _ rfl;have S:w.cell? ⟨i,k+0,none⟩=some (iV g.op):=l 0 _ rfl;have p:w.cell? ⟨i,k+1,none⟩=some (AL g.name):=l 1 _ rfl;have x:w.cell? ⟨i,k+2,none⟩=some (iV g.val):=l 2 _ rfl;have z:w.cell? ⟨i,k+3,none⟩=some (iV g.bound):=l 3 _ rfl;have V:w.cell? ⟨i,k+4,none⟩=some (.slice Z g.args.length I):=l 4 _ rfl;clear T l;have B:Ext w w:=Ext.refl w;have q:∀W,Ext w W->W.cell? ⟨b,o+0,none⟩=some (iV f.op):=fun W e=>e.cell K O;have F:∀W,Ext w W->W.cell? ⟨b,o+1,none⟩=some (AL f.name):=fun W e=>e.cell Q O;have u:∀W,Ext w W->W.cell? ⟨b,o+2,none⟩=some (iV f.val):=fun W e=>e.cell j O;have G:∀W,Ext w W->W.cell? ⟨b,o+3,none⟩=some (iV f.bound):=fun W e=>e.cell s O;have a0:∀W,Ext w W->W.cell? ⟨b,o+4,none⟩=some (.slice a f.args.length c):=fun W e=>e.cell r O;have E:∀W,Ext w W->W.cell? ⟨i,k+0,none⟩=some (iV g.op):=fun W e=>e.cell S O;have D:∀W,Ext w W->W.cell? ⟨i,k+1,none⟩=some (AL g.name):=fun W e=>e.cell p O;have C:∀W,Ext w W->W.cell? ⟨i,k+2,none⟩=some (iV g.val):=fun W e=>e.cell x O;have y:∀W,Ext w W->W.cell? ⟨i,k+3,none⟩=some (iV g.bound):=fun W e=>e.cell z O;have a1:∀W,Ext w W->W.cell? ⟨i,k+4,none⟩=some (.slice Z g.args.length I):=fun W e=>e.cell V O;clear K Q j s r S p x z V;refine AN Tryz.func290 rfl Tryz.ntmps290 (go ?_);by_cases t:f.op=g.op;rotate_left
 ·refine Ac (rd 0 10 .done) Ap EO (fun N M H=>⟨Ext w,?_,?_⟩)
  ·exact B.trans M
  replace B:=B.trans M;((refine D_R rfl rfl (fun W h=>AX rfl dz) ?_)<;>(refine D_R rfl rfl (fun W h=>AG rfl dz) ?_)<;>(refine D_R rfl rfl (fun W h=>AB rfl dz) ?_)<;>(refine D_R rfl rfl (fun W h=>AH rfl (q W h) dz) ?_)<;>(refine D_R rfl rfl (fun W h=>AX rfl dz) ?_)<;>(refine D_R rfl rfl (fun W h=>AG rfl dz) ?_)<;>(refine D_R rfl rfl (fun W h=>AB rfl dz) ?_)<;>(refine D_R rfl rfl (fun W h=>AH rfl (E W h) dz) ?_)<;>(refine D_neq rfl rfl rfl rfl (fun T=>?_) (fun T=>?_)<;>try omega)<;>(refine D_R rfl rfl (fun W h=>AO (AE rfl dz)) ?_)<;>refine Bc ?_)
  refine go ?_;have d:cmpI f.op g.op≠0:=fun e=>t (cmpI_zero.1 e);refine Ac (rd 0 8 (.alt 8 (.read 9 .done) .stop)) Ap EO (fun N M H=>⟨Ext w,?_,?_⟩)
  ·exact B.trans M
  replace B:=B.trans M;((refine D_R rfl rfl (fun W h=>AX rfl dz) ?_)<;>(refine D_R rfl rfl (fun W h=>AG rfl dz) ?_)<;>(refine D_R rfl rfl (fun W h=>AB rfl dz) ?_)<;>(refine D_R rfl rfl (fun W h=>AH rfl (q W h) dz) ?_)<;>(refine D_R rfl rfl (fun W h=>AX rfl dz) ?_)<;>(refine D_R rfl rfl (fun W h=>AG rfl dz) ?_)<;>(refine D_R rfl rfl (fun W h=>AB rfl dz) ?_)<;>(refine D_R rfl rfl (fun W h=>AH rfl (E W h) dz) ?_))
  refine D_E rfl ?_;refine AF (cmpInt_ok f.op g.op _) rfl ?_;rintro _ _⟨rfl,rfl⟩;refine AA ⟨Ext w,fun _ e=>e,B,?_⟩;refine go ?_;exact AC rfl ⟨congrArg (Value.int .i64) (by simp only[cmpN];rw[thenI_ne d]),B⟩
 have n:=cmpI_zero.2 t;refine Ac (rd 0 10 .done) Ap EO (fun N M H=>⟨Ext w,?_,?_⟩)
 ·exact B.trans M
 replace B:=B.trans M;((refine D_R rfl rfl (fun W h=>AX rfl dz) ?_)<;>(refine D_R rfl rfl (fun W h=>AG rfl dz) ?_)<;>(refine D_R rfl rfl (fun W h=>AB rfl dz) ?_)<;>(refine D_R rfl rfl (fun W h=>AH rfl (q W h) dz) ?_)<;>(refine D_R rfl rfl (fun W h=>AX rfl dz) ?_)<;>(refine D_R rfl rfl (fun W h=>AG rfl dz) ?_)<;>(refine D_R rfl rfl (fun W h=>AB rfl dz) ?_)<;>(refine D_R rfl rfl (fun W h=>AH rfl (E W h) dz) ?_)<;>(refine D_neq rfl rfl rfl rfl (fun T=>?_) (fun T=>?_)<;>try omega)<;>(refine D_R rfl rfl (fun W h=>AO (AE rfl dz)) ?_)<;>refine Bc ?_)
 refine go ?_;refine Ac (rd 0 10 .done) Ap EO (fun N M H=>⟨Ext w,?_,?_⟩)
 ·exact B.trans M
 replace B:=B.trans M;((refine D_R rfl rfl (fun W h=>AX rfl dz) ?_)<;>(refine D_R rfl rfl (fun W h=>AG rfl dz) ?_)<;>(refine D_R rfl rfl (fun W h=>AB rfl dz) ?_)<;>(refine D_R rfl rfl (fun W h=>AH rfl (F W h) dz) ?_)<;>(refine D_R rfl rfl (fun W h=>AX rfl dz) ?_)<;>(refine D_R rfl rfl (fun W h=>AG rfl dz) ?_)<;>(refine D_R rfl rfl (fun W h=>AB rfl dz) ?_)<;>(refine D_R rfl rfl (fun W h=>AH rfl (D W h) dz) ?_)<;>(refine D_sneq rfl rfl rfl rfl (fun T=>?_) (fun T=>?_))<;>(refine D_R rfl rfl (fun W h=>AO (AE rfl dz)) ?_)<;>refine Bc ?_)
 ·refine go ?_;have n1:ED f.name g.name≠0:=fun e=>T (cmpS_zero.1 e);refine Ac (rd 0 8 (.alt 8 (.read 9 .done) .stop)) Ap EO (fun N M H=>⟨Ext w,?_,?_⟩)
  ·exact B.trans M
  replace B:=B.trans M;((refine D_R rfl rfl (fun W h=>AX rfl dz) ?_)<;>(refine D_R rfl rfl (fun W h=>AG rfl dz) ?_)<;>(refine D_R rfl rfl (fun W h=>AB rfl dz) ?_)<;>(refine D_R rfl rfl (fun W h=>AH rfl (F W h) dz) ?_)<;>(refine D_R rfl rfl (fun W h=>AX rfl dz) ?_)<;>(refine D_R rfl rfl (fun W h=>AG rfl dz) ?_)<;>(refine D_R rfl rfl (fun W h=>AB rfl dz) ?_)<;>(refine D_R rfl rfl (fun W h=>AH rfl (D W h) dz) ?_))
  refine D_E rfl ?_;refine AF (cmpStr_ok f.name g.name _) rfl ?_;rintro _ _⟨rfl,rfl⟩;refine AA ⟨Ext w,fun _ e=>e,B,?_⟩;refine go ?_;exact AC rfl ⟨congrArg (Value.int .i64) (by simp only[cmpN];rw[Cw n,thenI_ne n1]),B⟩
 have m:=cmpS_zero.2 T;refine go ?_;by_cases A:f.val=g.val;rotate_left
 ·refine Ac (rd 0 10 .done) Ap EO (fun N M H=>⟨Ext w,?_,?_⟩)
  ·exact B.trans M
  replace B:=B.trans M;((refine D_R rfl rfl (fun W h=>AX rfl dz) ?_)<;>(refine D_R rfl rfl (fun W h=>AG rfl dz) ?_)<;>(refine D_R rfl rfl (fun W h=>AB rfl dz) ?_)<;>(refine D_R rfl rfl (fun W h=>AH rfl (u W h) dz) ?_)<;>(refine D_R rfl rfl (fun W h=>AX rfl dz) ?_)<;>(refine D_R rfl rfl (fun W h=>AG rfl dz) ?_)<;>(refine D_R rfl rfl (fun W h=>AB rfl dz) ?_)<;>(refine D_R rfl rfl (fun W h=>AH rfl (C W h) dz) ?_)<;>(refine D_neq rfl rfl rfl rfl (fun T=>?_) (fun T=>?_)<;>try omega)<;>(refine D_R rfl rfl (fun W h=>AO (AE rfl dz)) ?_)<;>refine Bc ?_)
  refine go ?_;have n2:cmpI f.val g.val≠0:=fun e=>A (cmpI_zero.1 e);refine Ac (rd 0 8 (.alt 8 (.read 9 .done) .stop)) Ap EO (fun N M H=>⟨Ext w,?_,?_⟩)
  ·exact B.trans M
  replace B:=B.trans M;((refine D_R rfl rfl (fun W h=>AX rfl dz) ?_)<;>(refine D_R rfl rfl (fun W h=>AG rfl dz) ?_)<;>(refine D_R rfl rfl (fun W h=>AB rfl dz) ?_)<;>(refine D_R rfl rfl (fun W h=>AH rfl (u W h) dz) ?_)<;>(refine D_R rfl rfl (fun W h=>AX rfl dz) ?_)<;>(refine D_R rfl rfl (fun W h=>AG rfl dz) ?_)<;>(refine D_R rfl rfl (fun W h=>AB rfl dz) ?_)<;>(refine D_R rfl rfl (fun W h=>AH rfl (C W h) dz) ?_))
  refine D_E rfl ?_;refine AF (cmpInt_ok f.val g.val _) rfl ?_;rintro _ _⟨rfl,rfl⟩;refine AA ⟨Ext w,fun _ e=>e,B,?_⟩;refine go ?_;exact AC rfl ⟨congrArg (Value.int .i64) (by simp only[cmpN];rw[Cw n,Cw m,thenI_ne n2]),B⟩
 have X:=cmpI_zero.2 A;refine Ac (rd 0 10 .done) Ap EO (fun N M H=>⟨Ext w,?_,?_⟩)
 ·exact B.trans M
 replace B:=B.trans M;((refine D_R rfl rfl (fun W h=>AX rfl dz) ?_)<;>(refine D_R rfl rfl (fun W h=>AG rfl dz) ?_)<;>(refine D_R rfl rfl (fun W h=>AB rfl dz) ?_)<;>(refine D_R rfl rfl (fun W h=>AH rfl (u W h) dz) ?_)<;>(refine D_R rfl rfl (fun W h=>AX rfl dz) ?_)<;>(refine D_R rfl rfl (fun W h=>AG rfl dz) ?_)<;>(refine D_R rfl rfl (fun W h=>AB rfl dz) ?_)<;>(refine D_R rfl rfl (fun W h=>AH rfl (C W h) dz) ?_)<;>(refine D_neq rfl rfl rfl rfl (fun T=>?_) (fun T=>?_)<;>try omega)<;>(refine D_R rfl rfl (fun W h=>AO (AE rfl dz)) ?_)<;>refine Bc ?_)
 refine go ?_;by_cases R:f.bound=g.bound;rotate_left
 ·refine Ac (rd 0 10 .done) Ap EO (fun N M H=>⟨Ext w,?_,?_⟩)
  ·exact B.trans M
  replace B:=B.trans M;((refine D_R rfl rfl (fun W h=>AX rfl dz) ?_)<;>(refine D_R rfl rfl (fun W h=>AG rfl dz) ?_)<;>(refine D_R rfl rfl (fun W h=>AB rfl dz) ?_)<;>(refine D_R rfl rfl (fun W h=>AH rfl (G W h) dz) ?_)<;>(refine D_R rfl rfl (fun W h=>AX rfl dz) ?_)<;>(refine D_R rfl rfl (fun W h=>AG rfl dz) ?_)<;>(refine D_R rfl rfl (fun W h=>AB rfl dz) ?_)<;>(refine D_R rfl rfl (fun W h=>AH rfl (y W h) dz) ?_)<;>(refine D_neq rfl rfl rfl rfl (fun T=>?_) (fun T=>?_)<;>try omega)<;>(refine D_R rfl rfl (fun W h=>AO (AE rfl dz)) ?_)<;>refine Bc ?_)
  refine go ?_;have n3:cmpI f.bound g.bound≠0:=fun e=>R (cmpI_zero.1 e);refine Ac (rd 0 8 (.alt 8 (.read 9 .done) .stop)) Ap EO (fun N M H=>⟨Ext w,?_,?_⟩)
  ·exact B.trans M
  replace B:=B.trans M;((refine D_R rfl rfl (fun W h=>AX rfl dz) ?_)<;>(refine D_R rfl rfl (fun W h=>AG rfl dz) ?_)<;>(refine D_R rfl rfl (fun W h=>AB rfl dz) ?_)<;>(refine D_R rfl rfl (fun W h=>AH rfl (G W h) dz) ?_)<;>(refine D_R rfl rfl (fun W h=>AX rfl dz) ?_)<;>(refine D_R rfl rfl (fun W h=>AG rfl dz) ?_)<;>(refine D_R rfl rfl (fun W h=>AB rfl dz) ?_)<;>(refine D_R rfl rfl (fun W h=>AH rfl (y W h) dz) ?_))
  refine D_E rfl ?_;refine AF (cmpInt_ok f.bound g.bound _) rfl ?_;rintro _ _⟨rfl,rfl⟩;refine AA ⟨Ext w,fun _ e=>e,B,?_⟩;refine go ?_;exact AC rfl ⟨congrArg (Value.int .i64) (by simp only[cmpN];rw[Cw n,Cw m,Cw X,thenI_ne n3]),B⟩
 have z3:=cmpI_zero.2 R;refine Ac (rd 0 10 .done) Ap EO (fun N M H=>⟨Ext w,?_,?_⟩)
 ·exact B.trans M
 replace B:=B.trans M;((refine D_R rfl rfl (fun W h=>AX rfl dz) ?_)<;>(refine D_R rfl rfl (fun W h=>AG rfl dz) ?_)<;>(refine D_R rfl rfl (fun W h=>AB rfl dz) ?_)<;>(refine D_R rfl rfl (fun W h=>AH rfl (G W h) dz) ?_)<;>(refine D_R rfl rfl (fun W h=>AX rfl dz) ?_)<;>(refine D_R rfl rfl (fun W h=>AG rfl dz) ?_)<;>(refine D_R rfl rfl (fun W h=>AB rfl dz) ?_)<;>(refine D_R rfl rfl (fun W h=>AH rfl (y W h) dz) ?_)<;>(refine D_neq rfl rfl rfl rfl (fun T=>?_) (fun T=>?_)<;>try omega)<;>(refine D_R rfl rfl (fun W h=>AO (AE rfl dz)) ?_)<;>refine Bc ?_)
 refine go ?_;refine Ac (rd 0 10 (.alt 10 (.read 11 .done) .stop)) Ap EO (fun N M H=>⟨Ext w,?_,?_⟩)
 ·exact B.trans M
 replace B:=B.trans M;((refine D_R rfl rfl (fun W h=>AX rfl dz) ?_)<;>(refine D_R rfl rfl (fun W h=>AG rfl dz) ?_)<;>(refine D_R rfl rfl (fun W h=>AB rfl dz) ?_)<;>(refine D_R rfl rfl (fun W h=>AH rfl (a0 W h) dz) ?_)<;>(refine D_R rfl rfl (fun W h=>Bi rfl dz) ?_)<;>(refine D_R rfl rfl (fun W h=>AX rfl dz) ?_)<;>(refine D_R rfl rfl (fun W h=>AG rfl dz) ?_)<;>(refine D_R rfl rfl (fun W h=>AB rfl dz) ?_)<;>(refine D_R rfl rfl (fun W h=>AH rfl (a1 W h) dz) ?_)<;>(refine D_R rfl rfl (fun W h=>Bi rfl dz) ?_))
 refine D_E rfl ?_;refine AF (cmpInt_ok f.args.length g.args.length _) rfl ?_;rintro _ _⟨rfl,rfl⟩;refine AA ⟨Ext w,fun _ e=>e,B,?_⟩;refine go ?_;exact AC rfl ⟨congrArg (Value.int .i64) (by simp only[cmpN];rw[Cw n,Cw m,Cw X,Cw z3]),B⟩
section
attribute [local semireducible] WC AT B6 BK Bz Cx DZ By
variable {P:Program}{all:Array Oper}{Z:Fr->DS->List PanicEntry->World->Prop}{K:Fr->DS->World->Prop}{rest:List Oper}{f:Fr}{ds:DS}{w:World}{d:Nat}{ty:TypeId}{pos:String}{af:Array Edge}
class PtrT (P:Program) (T:TypeId) (e:outParam TypeId):Prop where
 und:P.underlying T=some (.pointer e)
 info:∃j,P.info? e=some j/\j.size≠0
theorem ptrT_of{T e:TypeId}(h:P.underlying T=some (.pointer e))(W:((P.info? e).map fun j=>decide (j.size≠0))=some true):PtrT P T e:=by
 obtain⟨j,a,R⟩:=Option.map_eq_some_iff.1 W;exact⟨h,j,a,by simpa using R⟩
theorem run_eql_none{T e:TypeId}(m:P.underlying T=some (.pointer e)):(binOp .eql T (.pointer none) (.pointer none)).run P w=.ok (.bool true) w:=by
 have h:∀d:Nat,(Op.equalIn (d+1) T (.pointer none) (.pointer none)).run P w=.ok true w:=fun d=>by
  simp[Op.equalIn,run_underlying m]
 simp only[binOp];simp[Op.equal,Op.maxDepth,h 9999]
theorem run_eql_some{T e:TypeId}(m:P.underlying T=some (.pointer e))(a:Addr):(binOp .eql T (.pointer (some a)) (.pointer none)).run P w=.ok (.bool false) w:=by
 have h:∀d:Nat,(Op.equalIn (d+1) T (.pointer (some a)) (.pointer none)).run P w=.ok false w:=fun d=>by
  simp[Op.equalIn,run_underlying m]
 simp only[binOp];simp[Op.equal,Op.maxDepth,h 9999]
theorem W_ptrNil{T M e:TypeId}{x:Operand}{p:Option Addr}[hT:PtrT P T e](V:ev f x=.pointer p)(h:AT P all Z K rest (upd f d (.bool p.isNone)) ds w):
  AT P all Z K (⟨some d,.binOp .eql T x (.const (.pointer none)) M,ty,pos,af,none⟩::rest) f ds w:=by
 refine A0 rfl ?_ h;have E:ev f (.const (.pointer none))=.pointer none:=rfl;cases p with
 |none=>simp[execOp,V,E,eqGuard,run_eql_none hT.und]
 |some a=>simp[execOp,V,E,eqGuard,run_eql_some hT.und]
theorem W_ptrNeqSame{T M e:TypeId}{x y:Operand}{a:Addr}[hT:PtrT P T e](V:ev f x=.pointer (some a))(E:ev f y=.pointer (some a))(h:AT P all Z K rest (upd f d (.bool false)) ds w):
  AT P all Z K (⟨some d,.binOp .neq T x y M,ty,pos,af,none⟩::rest) f ds w:=by
 refine A0 rfl ?_ h;obtain⟨j,b,_⟩:=hT.info;simp[execOp,V,E,eqGuard,Lib.run_neq_ptr_same w a hT.und b]
theorem run_sameAddr_unm(w:World){a b:Addr}{r s:Array Value}{i V:TypeId}{M L:Nat×Nat}(D:w.heap[a.block]?=some (.cells r i M))(S:w.heap[b.block]?=some (.cells s V L))(g:M=(0,0)\/L=(0,0))(t:0<r.size)(j:0<s.size)(N:a≠b):(sameAddr a b).run P w=.ok false w:=by
 by_cases q:a.block=b.block
 ·simp[sameAddr,q,N]
 ·have H:r.size≠0:=by omega
  have c:s.size≠0:=by omega
  have I:(match some (i,r.size)with|some (_,0)=>true|_=>false)=false:=by
   cases h:r.size with
   |zero=>exact absurd h H
   |succ n=>rfl
  have e:(match some (V,s.size)with|some (_,0)=>true|_=>false)=false:=by
   cases h:s.size with
   |zero=>exact absurd h c
   |succ n=>rfl
  rcases g with rfl|rfl
  ·simp[sameAddr,q,World.frozen?,D,S,noView,viewAt,World.shape?,mayBeOne,stringish,H,c];try (split<;>simp[I,e])
  ·simp[sameAddr,q,World.frozen?,D,S,noView,viewAt,World.shape?,mayBeOne,stringish,H,c];try (split<;>simp[I,e])
theorem W_ptrEq{T o e:TypeId}{x y:Operand}{a b:Addr}{r s:Array Value}{l m:TypeId}{M L:Nat×Nat}[hT:PtrT P T e](V:ev f x=.pointer (some a))(E:ev f y=.pointer (some b))(D:w.heap[a.block]?=some (.cells r l M))(S:w.heap[b.block]?=some (.cells s m L))(g:M=(0,0)\/L=(0,0))(t:0<r.size)(k:0<s.size)
  (h:AT P all Z K rest (upd f d (.bool (decide (a=b)))) ds w):AT P all Z K (⟨some d,.binOp .eql T x y o,ty,pos,af,none⟩::rest) f ds w:=by
 refine A0 rfl ?_ h;obtain⟨j,i,F⟩:=hT.info
 have C:∀n:Nat,(Op.equalIn (n+1) T (.pointer (some a)) (.pointer (some b))).run P w=.ok (decide (a=b)) w:=fun n=>by
  by_cases c:a=b
  ·subst c;simp[Op.equalIn,run_underlying hT.und,sizeOf,typeInfo,i,run_sameAddr_same]
  ·simp[Op.equalIn,run_underlying hT.und,sizeOf,typeInfo,i,F,run_sameAddr_unm w D S g t k c,c]
 have G:(binOp .eql T (.pointer (some a)) (.pointer (some b))).run P w=.ok (.bool (decide (a=b))) w:=by
  simp only[binOp];simp[Op.equal,Op.maxDepth,C 9999]
 simp[execOp,V,E,eqGuard,G]
end
instance :PtrT Zp 89 37:=ptrT_of Tryz.underlying89 EO
theorem sl_same{ok ok':Nat->Prop}{w:World}{a:Option Addr}{n c I k:Nat}{cs g:LV}(h:Sl ok w (.slice a n c) n cs)(T:Sl ok' w (.slice a n I) n g)(u:cs.length=n*k)(z:g.length=n*k):cs=g:=by
 by_cases t:n=0
 ·subst t;have j:cs=[]:=List.eq_nil_of_length_eq_zero (by simpa using u);have r:g=[]:=List.eq_nil_of_length_eq_zero (by simpa using z);rw[j,r]
 ·obtain⟨_,_,e,_,_,_,B⟩:=h;obtain⟨_,_,m,_,_,_,y⟩:=T;cases e;cases m;obtain⟨b,o,rfl,_,q⟩:=B.resolve_left t;obtain⟨v,x,e,_,s⟩:=y.resolve_left t;cases e;refine List.ext_getElem? fun i=>?_;by_cases H:i<n*k
  ·have j:=List.getElem?_eq_getElem (l:=cs) (i:=i) U;have r:=List.getElem?_eq_getElem (l:=g) (i:=i) U;have p:=q i _ j;have W:=s i _ r;rw[j,r,<-p,<-W]
  ·rw[List.getElem?_eq_none U,List.getElem?_eq_none U]
theorem flat_inj(n:Nat)(I:0<n):∀{L M:List (LV)},(∀d∈L,d.length=n)->(∀d∈M,d.length=n)->L.flatten=M.flatten->L=M
 | [],[],_,_,_=>rfl
 | [],d::M,_,hM,e=>by
  have:=congrArg List.length e;have a:=hM d O;simp only[List.flatten_nil,List.length_nil,List.flatten_cons,List.length_append]at this;omega
 |c::L,[],hL,_,e=>by
  have:=congrArg List.length e;have a:=hL c O;simp only[List.flatten_nil,List.length_nil,List.flatten_cons,List.length_append]at this;omega
 |c::L,d::M,hL,hM,e=>by
  rw[List.flatten_cons,List.flatten_cons]at e;obtain⟨b,r⟩:=List.append_inj e (by rw[hL c O,hM d O]);rw[b,flat_inj n I (fun x V=>hL x (by simp[V])) (fun x V=>hM x (by simp[V])) r]
theorem FAt.uniq{ok ok':Nat->Prop}{w:World}:∀(f g:Fml)(v:Value),FAt ok w v f->FAt ok' w v g->f=g
 | .mk op nm x b args,g,v,hf,hg=>by
  obtain⟨av,rfl,L,l,M,n,Q⟩:=hf.form;obtain⟨a0,e,u,t,N,p,F⟩:=hg.form;simp only[Value.agg.injEq,Array.mk.injEq,List.cons.injEq,Value.int.injEq,true_and,and_true]at e;obtain⟨j,r,I,m,C⟩:=e;subst C;obtain⟨a,c,rfl,a1⟩:=id l;obtain⟨X,c',A,a2⟩:=id t;have h:args.length=g.args.length:=(Value.slice.inj A).2.1
  have q:L.flatten=u.flatten:=by
   have R:Sl ok' w (.slice a args.length c) args.length u.flatten:=by rw[h];rw[<-h];exact h▸t
   refine sl_same (k:=5) l R ?_ ?_
   ·rw[Bw 5 L n,M]
   ·rw[Bw 5 u p,N];exact congrArg (·*5) h.symm
  have B:=flat_inj 5 U n p q;subst B
  have V:args=g.args:=by
   refine List.ext_getElem? fun i=>?_;by_cases H:i<args.length
   ·have s:L[i]?=some L[i]:=List.getElem?_eq_getElem U;have D:args[i]?=some args[i]:=List.getElem?_eq_getElem H;have S:g.args[i]?=some g.args[i]:=List.getElem?_eq_getElem U;rw[D,S,FAt.uniq args[i] g.args[i] _ (Q i _ _ s D) (F i _ _ s S)]
   ·rw[List.getElem?_eq_none U,List.getElem?_eq_none U]
  have z:nm=g.name:=by
   have W:AL nm=AL g.name:=r;simp only[AL,Value.string.injEq,ByteArray.mk.injEq]at W;simpa using congrArg Array.toList W
  obtain⟨o,T,E,y,G⟩:=g;have j:op=o:=j;have r:nm=T:=z;have I:x=E:=I;have m:b=y:=m;have C:args=G:=V;rw[j,r,I,m,C]
 termination_by f=>f
 decreasing_by
  have:=List.sizeOf_lt_of_mem (List.getElem_mem H)
  simp_wf
  omega
def FL(ok:Nat->Prop)(w:World)(v:Value)(l:LF):Prop:=∃a c L,v=.slice a l.length c/\Sl ok w (.slice a l.length c) l.length L.flatten/\FsAt ok w L l
theorem FL.E{ok:Nat->Prop}{X:List Nat}{w w':World}{v:Value}{l:LF}(h:FL ok w v l)(k:Keep X w w')(e:∀b,ok b->b∉X):FL ok w' v l:=by
 obtain⟨a,c,L,rfl,g,W⟩:=h;exact⟨a,c,L,rfl,g.E k e,W.E k e⟩
theorem PF.args{ok:Nat->Prop}{w:World}{b o:Nat}{f:Fml}(h:PF ok w b o f):∃v,w.cell? ⟨b,o+4,none⟩=some v/\FL ok w v f.args:=by
 obtain⟨_,a,c,L,T,l,s⟩:=h.form;exact⟨_,T 4 _ rfl,a,c,L,rfl,l,s⟩
theorem FL.cons{ok:Nat->Prop}{w:World}{v:Value}{x:Fml}{l:LF}(h:FL ok w v (x::l)):∃b o c,v=.slice (some ⟨b,o,none⟩) (l.length+1) c/\1<=c/\PF ok w b o x/\FL ok w (.slice (adv c 1 5 (some ⟨b,o,none⟩)) l.length (c-1)) l:=by
 obtain⟨a,c,L,rfl,q,s⟩:=h;obtain⟨y,I,e,m,W,R,B⟩:=q;cases e;obtain⟨b,o,rfl,S,T⟩:=B.resolve_left O;obtain⟨n,j,Q⟩:=s
 match L,n,j,Q,T with
 |d::L,n,j,Q,T=>
  have C:=j d O;have G:Cells w b o d:=fun i u k=>T i u (by rw[List.flatten_cons,List.getElem?_append_left (List.getElem?_eq_some_iff.1 k).1];exact k);have p:L.length=l.length:=by simpa using n
  refine⟨b,o,c,rfl,by simp at m;omega,⟨S,d,C,G,Q 0 d x rfl rfl⟩,_,_,L,rfl,⟨_,_,rfl,by simp at m;omega,by omega,?_,?_⟩,p,fun c T=>j c Eb,fun i c g T r=>Q (i+1) c g (by simpa using T) (by simpa using r)⟩
  ·intro D;unfold adv at D
   split at D
   ·cases D
   ·simp at D
  ·by_cases t:l.length=0
   ·exact .inl t
   ·refine .inr ⟨b,o+5,?_,S,?_⟩
    ·unfold adv;rw[if_neg (by simp at m;omega)];rfl
    ·intro i u k;have:=T (5+i) u (by rw[List.flatten_cons,List.getElem?_append_right U,C,show 5+i-5=i by omega];exact k);rw[Nat.add_assoc];exact this
theorem FL.form{ok:Nat->Prop}{w:World}{v:Value}{l:LF}(h:FL ok w v l):∃a c,v=.slice a l.length c:=by
 obtain⟨a,c,L,rfl,_⟩:=h;exact⟨a,c,rfl⟩
theorem PF.uniq{ok ok':Nat->Prop}{w:World}{b o:Nat}{f g:Fml}(j:PF ok w b o f)(k:PF ok' w b o g):f=g:=by
 obtain⟨_,d,C,T,e⟩:=j;obtain⟨_,a,B,h,W⟩:=k
 have:d=a:=by
  refine List.ext_getElem? fun i=>?_;by_cases H:i<5
  ·have c:=List.getElem?_eq_getElem (l:=d) (i:=i) U;have r:=List.getElem?_eq_getElem (l:=a) (i:=i) U;rw[c,r,<-T i _ c,<-h i _ r]
  ·rw[List.getElem?_eq_none U,List.getElem?_eq_none U]
 subst this;exact FAt.uniq f g _ e W
theorem cell_blk{w:World}{b o:Nat}{v:Value}(h:w.cell? ⟨b,o,none⟩=some v):∃c t D,w.heap[b]?=some (.cells c t D)/\0<c.size/\c[o]?=some v:=by
 unfold World.cell? at h
 split at h
 ·rename_i c t D heq;simp at h;exact⟨c,t,D,heq,by have:=(Array.getElem?_eq_some_iff.1 h).1;omega,h⟩
 ·cases h
theorem unm_blk{w:World}{b o:Nat}{n:Int}(g:Unm w b)(h:w.cell? ⟨b,o,none⟩=some (iV n)):∃c t,w.heap[b]?=some (.cells c t (0,0))/\0<c.size:=by
 obtain⟨c,t,D,a,W,R⟩:=cell_blk h;rcases g c t D a with rfl|B
 ·exact⟨c,t,a,W⟩
 ·obtain⟨m,e⟩:=B o _ R;cases e
section
attribute [local semireducible] WC AT B6 BK Bz Cx DZ By
variable {P:Program}{all:Array Oper}{Z:Fr->DS->List PanicEntry->World->Prop}{K:Fr->DS->World->Prop}{rest:List Oper}{f:Fr}{ds:DS}{w:World}{d:Nat}{ty:TypeId}{pos:String}{af:Array Edge}
theorem W_slice_arr_h{T e size l:Nat}{b o:Nat}{x H:Operand}{E:IntKind}{a:Int}[hT:ArrT P T l e size](V:ev f x=.pointer (some ⟨b,o,none⟩))(M:ev f H=.int E a)(c:0<=a)(W:a<=l)
  (h:AT P all Z K rest (upd f d (.slice (some ⟨b,o,none⟩) a.toNat l)) ds w):AT P all Z K (⟨some d,.slice T x none (some H) none,ty,pos,af,none⟩::rest) f ds w:=by
 obtain⟨q,g,F⟩:=hT.out;refine A0 rfl ?_ h;simp only[execOp,V,M,Option.map_some,Option.map_none,Instr.sliceAt,Sem.run_bind,run_underlying hT.und,Result.andThen_ok,Instr.sureAddr,Instr.sliceBounds,Instr.sliceBound,asIntOf,Sem.run_pure,sizeOf,typeInfo,program];simp[Sem.run,g,F,c,W,Addr.add_lit]
theorem run_append_roomE(t ty e H:TypeId)(i:TypeInfo)(r:P.underlying t=some (.slice e))(p:P.info? e=some i)
  (g b h:Nat)(G:Array Value)(o:w.heap[g]?=some (.cells G H (0,0)))
  (a:Addr)(m c:Nat)(s:LV)(q:s.length=m*i.size)(C:∀j u,s[j]?=some u->w.cell? (a.add j)=some u)(k:∀u∈s,u.oneCell'=true)
  (v:b+m<=h)(n:b*i.size+s.length<=G.size):
  (Builtin.append_ #[t,t] ty #[.slice (sm g) b h,.slice (some a) m c]).run P w=
   .ok (.slice (sm g) (b+m) h) (w.setRow g (G.toList.take (b*i.size)++s++G.toList.drop (b*i.size+s.length)).toArray):=by
 have l:=run_firstCells_some (P:=P) w i.size m a m c s q C;have X:=run_storeCells_at P g (b*i.size) H s 0 G w o (by simpa using n) k;simp only[Nat.add_zero]at X;simp[Builtin.append_,run_underlying r,sizeOf,typeInfo,p,Builtin.lenOf,v,l,Addr.add_lit,X]
theorem W_append1{T e H size B n cap g:Nat}{z:Value}{s x:Operand}{sv:Value}{G:Array Value}{cs:LV}{ok:Nat->Prop}[hT:SlT P T e size B z](p:ev f s=.slice (sm g) n cap)(V:ev f x=sv)
  (l:w.heap[g]?=some (.cells G H (0,0)))(C:G.size=cap*size)(I:n<=cap)(m:cap<=maxLen)(hs:Sl ok w sv 1 cs)(a6:0<size)(a2:z.cells.size=size)(o:cs.length=size)(Q:oneC cs)(hm:n+1<=9223372036854775807)(S:(n+1)*B<=140737488355328)
  (h:∀g' cap' e'(F:Array Value)w',(g'=g\/g'=w.heap.size)->w'.heap[g']?=some (.cells F e' (0,0))->F.size=cap'*size->n+1<=cap'->cap'<=maxLen->F.toList.take ((n+1)*size)=G.toList.take (n*size)++cs->Keep [g] w w'->
   AT P all Z K rest (upd f d (.slice (sm g') (n+1) cap')) ds w'):
  AT P all Z K (⟨some d,.call ⟨.builtin .append,#[s,x],#[T,T]⟩,ty,pos,af,none⟩::rest) f ds w:=by
 obtain⟨i,M,hz,q,R⟩:=hT.out;obtain⟨a,D,rfl,a4,_,a5,X⟩:=hs;obtain⟨b,A,rfl,_,W⟩:=X.resolve_left U;have N:∀j u,cs[j]?=some u->w.cell? ((⟨b,A,none⟩:Addr).add j)=some u:=fun j u c=>by rw[Addr.add_lit];exact W j u c
 have E:cs.length=1*i.size:=by rw[q];omega
 have t:(G.toList.take (n*size)).length=n*size:=by
  rw[List.length_take,Array.length_toList,C];exact Nat.min_eq_left (Nat.mul_le_mul_right _ I)
 by_cases v:n+1<=cap
 ·have a0:n*i.size+cs.length<=G.size:=by
   rw[q,o,C,<-Nat.succ_mul];exact Nat.mul_le_mul_right _ v
  have y:=run_append_roomE (P:=P) (w:=w) T ty e H i hT.und M g n cap G l ⟨b,A,none⟩ 1 D cs E N Q v a0;refine A0 (w':=w.setRow g (G.toList.take (n*i.size)++cs++G.toList.drop (n*i.size+cs.length)).toArray) rfl (by simp[execOp,resolve,invoke,builtin,p,V,y]) (h g cap H _ _ (.inl rfl) (setRow_heap w g G _ H _ l) ?_ v m ?_ ?_)
  ·simp only[List.size_toArray,List.length_append,List.length_take,List.length_drop,Array.length_toList];omega
  ·rw[q,List.append_assoc];exact GJ
  ·exact⟨rfl,rfl,rfl,by simp,fun k _ L=>setRow_other w g k _ (by simpa using L),fun _=>mark_put (g:=g) (by simp[World.setRow]) (fun k L=>setRow_other w g k _ L) (Unm.cells (setRow_heap w g _ _ H _ l)),Nat.le_refl _⟩
 ·have a1:∀j u,(G.toList.take (n*size))[j]?=some u->w.cell? ((⟨g,0,none⟩:Addr).add j)=some u:=fun j u c=>by
   rw[Addr.add_lit,Nat.zero_add];rw[List.getElem?_take]at c
   split at c
   ·simp only[World.cell?,l];simpa using c
   ·cases c
  have r:((n+1:Nat):Int)<=9223372036854775807:=by omega
  have y:=run_append_grow (P:=P) w T ty e i z hT.und M hz ⟨g,0,none⟩ n cap (G.toList.take (n*size)) (by rw[q];exact t) a1 ⟨b,A,none⟩ 1 D cs E N U r (by rw[R];exact growslice_fits U S);refine A0 (w':=w.drew.alloc (.cells ((G.toList.take (n*size)).toArray++cs.toArray++Builtin.zeroCells z.cells (grownCap w (n+1) cap e-(n+1))) e)) rfl (by simp[execOp,resolve,invoke,builtin,p,V,y]) (h w.heap.size _ e _ _ (.inr rfl) (heap_alloc_new w.drew _) ?_ (grownCap_ge w (n+1) cap e) (grownCap_le_maxLen w (n+1) cap e EW) ?_ ?_)
  ·simp only[Array.size_append,List.size_toArray,size_zeroCells,a2,t,o];have a3:=grownCap_ge w (n+1) cap e;rw[<-Nat.succ_mul,<-Nat.add_mul]
   congr 1
   omega
  ·simp only[Array.toList_append,List.append_assoc];exact GJ
  ·exact⟨rfl,rfl,rfl,by simp,fun k L _=>heap_alloc_old w.drew _ L,fun _=>mark_new O (fun k L=>heap_alloc_old w.drew _ L) (Unm.cells (heap_alloc_new w.drew _)),Nat.le_succ _⟩
end
abbrev PP:=LF×LF
def cmpSt:List PP->Int
 | []=>0
 |p::r=>CO (cmpL p.1 p.2) (cmpSt r)
def wtSt(ps:List PP):Nat:=(ps.map fun p=>2*szL p.1+1).sum
theorem BN(ps:List PP)(p:PP):wtSt (ps++[p])=wtSt ps+(2*szL p.1+1):=by simp[wtSt]
theorem wtSt_len:∀ps:List PP,ps.length<=wtSt ps
 | []=>Nat.zero_le _
 |p::ps=>by have:=wtSt_len ps;simp only[wtSt,List.map_cons,List.sum_cons,List.length_cons]at this⊢;omega
def Row2(okf okg:Nat->Prop)(W:World)(c:LV)(p:PP):Prop:=∃v E,c=[v,E]/\FL okf W v p.1/\FL okg W E p.2/\p.1.length=p.2.length
theorem Row2.E{okf okg:Nat->Prop}{X:List Nat}{W W':World}{c:LV}{p:PP}(h:Row2 okf okg W c p)(k:Keep X W W')(Z:∀b,okf b->b∉X)(d:∀b,okg b->b∉X):Row2 okf okg W' c p:=by
 obtain⟨v,E,e,a,b,l⟩:=h;exact⟨v,E,e,a.E k Z,b.E k d,l⟩
structure CS(okf okg:Nat->Prop)(C:Nat)(W:World)(g cap:Nat)(e:TypeId)(L:List (LV))(rest:LV)(ps:List PP):Prop where
 ge:C<=g
 D:Blk W g e (L.flatten++rest)
 len:(L.flatten++rest).length=cap*2
 mx:cap<=maxLen
 two:∀c∈L,c.length=2
 ll:L.length=ps.length
 rows:∀(i:Nat)(c:LV)(p:PP),L[i]?=some c->ps[i]?=some p->Row2 okf okg W c p
 lo:∀b,okf b\/okg b->b<C
section
variable {okf okg:Nat->Prop}{C g cap:Nat}{W W':World}{e:TypeId}{L:List (LV)}{rest:LV}{ps:List PP}
theorem CS.flat(h:CS okf okg C W g cap e L rest ps):L.flatten.length=ps.length*2:=by rw[Bw 2 L h.two,h.ll]
theorem CS.le(h:CS okf okg C W g cap e L rest ps):ps.length<=cap:=by
 have Z:=h.len;rw[List.length_append,h.flat]at Z;omega
theorem CS.ext(h:CS okf okg C W g cap e L rest ps)(k:Ext W W'):CS okf okg C W' g cap e L rest ps:=
 ⟨h.ge,h.D.E k O,h.len,h.mx,h.two,h.ll,fun i c p T y=>(h.rows i c p T y).E k O O,h.lo⟩
theorem CS.cut{c:LV}{p:PP}(h:CS okf okg C W g cap e (L++[c]) rest (ps++[p])):CS okf okg C W g cap e L (c++rest) ps:=by
 have b:(L++[c]).flatten++rest=L.flatten++(c++rest):=by simp
 refine⟨h.ge,by rw[<-b];exact h.D,by rw[<-b];exact h.len,h.mx,fun d a=>h.two d (by simp[a]),by have:=h.ll;simpa using this,fun i d q a K=>?_,h.lo⟩;have H:=(List.getElem?_eq_some_iff.1 a).1;have y:=(List.getElem?_eq_some_iff.1 K).1;exact h.rows i d q (by rw[List.getElem?_append_left H];exact a) (by rw[List.getElem?_append_left y];exact K)
theorem CS.split(h:CS okf okg C W g cap e L rest ps)(t:0<ps.length):∃u x v E l m,L=u++[[v,E]]/\ps=x++[(l,m)]/\FL okf W v l/\FL okg W E m/\l.length=m.length:=by
 have K:=h.ll;obtain⟨x,q,rfl⟩:∃x q,ps=x++[q]:=⟨ps.dropLast,ps.getLast (by intro e;simp[e]at t),(List.dropLast_concat_getLast _).symm⟩;obtain⟨u,c,rfl⟩:∃u c,L=u++[c]:=⟨L.dropLast,L.getLast (by intro e;simp[e]at K),(List.dropLast_concat_getLast _).symm⟩;simp only[List.length_append,List.length_singleton]at K;have G:=h.rows x.length c q (by rw[List.getElem?_append_right U];simp[show x.length-u.length=0 by omega]) O;obtain⟨v,E,rfl,Z,a,R⟩:=G;exact⟨u,x,v,E,q.1,q.2,rfl,rfl,Z,a,R⟩
theorem CS.cells{v E:Value}{l m:LF}(h:CS okf okg C W g cap e (L++[[v,E]]) rest (ps++[(l,m)])):W.cell? ⟨g,0+ps.length*2+0,none⟩=some v/\W.cell? ⟨g,0+ps.length*2+1,none⟩=some E/\0+ps.length*2+1<((L++[[v,E]]).flatten++rest).length:=by
 have G:=h.ll;simp only[List.length_append,List.length_singleton]at G;have K:L.flatten.length=ps.length*2:=by rw[Bw 2 L fun c T=>h.two c Eb];omega
 have H:((L++[[v,E]]).flatten++rest)[0+ps.length*2+0]?=some v:=by
  simp only[List.flatten_append,List.flatten_cons,List.flatten_nil,List.append_nil,List.append_assoc];rw[List.getElem?_append_right U];simp[K]
 have b:((L++[[v,E]]).flatten++rest)[0+ps.length*2+1]?=some E:=by
  simp only[List.flatten_append,List.flatten_cons,List.flatten_nil,List.append_nil,List.append_assoc];rw[List.getElem?_append_right U];rw[show 0+ps.length*2+1-L.flatten.length=1 by omega];rfl
 exact⟨h.D.cell H,h.D.cell b,(List.getElem?_eq_some_iff.1 b).1⟩
theorem CS.put{v E u a:Value}{l m l' X:LF}(h:CS okf okg C W g cap e (L++[[v,E]]) rest (ps++[(l,m)]))(k:Keep [g] W W')
  (S:Blk W' g e ((((L++[[v,E]]).flatten++rest).set (0+ps.length*2+0) u).set (0+ps.length*2+1) a))(Z:FL okf W' u l')(n:FL okg W' a X)(s:l'.length=X.length):CS okf okg C W' g cap e (L++[[u,a]]) rest (ps++[(l',X)]):=by
 have G:=h.ll;simp only[List.length_append,List.length_singleton]at G;have d:∀c∈L,c.length=2:=fun c T=>h.two c Eb;have K:L.flatten.length=ps.length*2:=by rw[Bw 2 L d];omega
 have j:(((L++[[v,E]]).flatten++rest).set (0+ps.length*2+0) u).set (0+ps.length*2+1) a=(L++[[u,a]]).flatten++rest:=by
  simp only[List.flatten_append,List.flatten_cons,List.flatten_nil,List.append_nil,List.append_assoc];rw[List.set_append_right _ _ U,List.set_append_right _ _ U,show 0+ps.length*2+0-L.flatten.length=0 by omega,show 0+ps.length*2+1-L.flatten.length=1 by omega];rfl
 have w:∀b,okf b\/okg b->b∉[g]:=fun b S q=>by
  have:=h.lo b S;have:=h.ge;simp at q;omega
 refine⟨h.ge,by rw[<-j];exact S,?_,h.mx,fun c T=>?_,by simp;omega,fun i c p T y=>?_,h.lo⟩
 ·have:=h.len;simp only[List.flatten_append,List.flatten_cons,List.flatten_nil,List.append_nil,List.length_append,List.length_cons,List.length_nil]at this⊢;exact this
 ·rcases List.mem_append.1 T with T|T
  ·exact d c T
  ·simp at T;subst T;rfl
 ·by_cases H:i<L.length
  ·rw[List.getElem?_append_left H]at T;rw[List.getElem?_append_left U]at y;exact(h.rows i c p (by rw[List.getElem?_append_left H];exact T) (by rw[List.getElem?_append_left U];exact y)).E k (fun b S=>w b (.inl S)) fun b S=>w b (.inr S)
  ·have o:=(List.getElem?_eq_some_iff.1 T).1;simp at o;have:i=L.length:=by omega
   subst this;simp at T;have f:(ps++[(l',X)])[ps.length]?=some p:=by rw[show ps.length=L.length by omega];exact y
   simp at f;subst T;subst f;exact⟨u,a,rfl,Z,n,s⟩
theorem CS.push{l V:Nat}{n:TypeId}{F:Array Value}{u a:Value}{l' X:LF}(h:CS okf okg C W g cap e L rest ps)(x:C<=W.heap.size)(m:l=g\/l=W.heap.size)(S:W'.heap[l]?=some (.cells F n (0,0)))(v:F.size=V*2)(s:V<=maxLen)
  (w:F.toList.take ((ps.length+1)*2)=(L.flatten++rest).take (ps.length*2)++[u,a])(k:Keep [g] W W')(Z:FL okf W' u l')(j:FL okg W' a X)(q:l'.length=X.length):CS okf okg C W' l V n (L++[[u,a]]) (F.toList.drop ((ps.length+1)*2)) (ps++[(l',X)]):=by
 have G:=h.ll;have z:=h.ge
 have t:∀b,okf b\/okg b->b∉[g]:=fun b S s=>by
  have:=h.lo b S;simp at s;omega
 have f:(L.flatten++rest).take (ps.length*2)=L.flatten:=by rw[<-h.flat];exact List.take_left
 have r:(L++[[u,a]]).flatten++F.toList.drop ((ps.length+1)*2)=F.toList:=by
  rw[f]at w;simp only[List.flatten_append,List.flatten_cons,List.flatten_nil,List.append_nil];rw[<-w,List.take_append_drop]
 refine⟨by rcases m with rfl|rfl<;>omega,?_,by rw[r];simpa using v,s,fun c T=>?_,by simp;omega,fun i c p T y=>?_,h.lo⟩
 ·rw[r];show W'.heap[l]?=_;rw[S]
 ·rcases List.mem_append.1 T with T|T
  ·exact h.two c T
  ·simp at T;subst T;rfl
 ·by_cases H:i<L.length
  ·rw[List.getElem?_append_left H]at T;rw[List.getElem?_append_left U]at y;exact(h.rows i c p T y).E k (fun b S=>t b (.inl S)) fun b S=>t b (.inr S)
  ·have o:=(List.getElem?_eq_some_iff.1 T).1;simp at o;have:i=L.length:=by omega
   subst this;have d:(ps++[(l',X)])[ps.length]?=some p:=by rw[show ps.length=L.length by omega];exact y
   simp at d T;subst T;subst d;exact⟨u,a,rfl,Z,j,q⟩
end
theorem cmpL_cons0{x y:Fml}{l m:LF}(h:B0 x y=0):cmpL (x::l) (y::m)=cmpL l m:=by rw[cmpL,Cw h]
theorem EK(a b c:Int):CO (CO a b) c=CO a (CO b c):=by
 unfold CO;by_cases h:a=0
 ·rw[if_pos h,if_pos h]
 ·rw[if_neg h,if_neg h,if_neg h]
structure CI(w:World)(okf okg:Nat->Prop)(N:Nat)(r:Int)(x:Nat×Nat×List PP)(W:World):Prop where
 cs:∃e L rest,CS okf okg w.heap.size W x.1 x.2.1 e L rest x.2.2
 ext:Ext w W
 res:r=cmpSt x.2.2.reverse
 wt:wtSt x.2.2<=N
theorem PF.op{ok:Nat->Prop}{w:World}{b o:Nat}{f:Fml}(h:PF ok w b o f):w.cell? ⟨b,o+0,none⟩=some (iV f.op):=by
 obtain⟨_,a,c,L,T,_⟩:=h.form;exact T 0 _ rfl
theorem DF(l:List PP)(p:PP):cmpSt (l++[p]).reverse=CO (cmpL p.1 p.2) (cmpSt l.reverse):=by simp[cmpSt]
theorem cell_same{w W V:World}{b o:Nat}{v:Value}(k:Ext w W)(E:Ext w V)(S:b<w.heap.size)(h:W.cell? ⟨b,o,none⟩=some v):V.cell? ⟨b,o,none⟩=some v:=by
 have a:=k.block b S O;have r:=E.block b S O;unfold World.cell? at h⊢;rw[r,<-a];exact h
set_option maxHeartbeats 6400000 in
theorem fcompare_ok(w:World)(v v':Value)(f g:Fml)(a8 a9:Nat->Prop)(hf:FAt a8 w v f)(hg:FAt a9 w v' g)(A:(∀b,a8 b->Unm w b)\/(∀b,a9 b->Unm w b))(hz:szF f<=1000000):
  Fn Zp 208 [v,v'] w fun r w'=>r=iV (B0 f g)/\Ext w w':=by
 obtain⟨av,rfl,Lf,e5,c7⟩:=hf.form;obtain⟨bv,rfl,Lg,e7,c8⟩:=hg.form;obtain⟨a,c,rfl,_⟩:=id e5;obtain⟨a',c',rfl,_⟩:=id e7;have e6:=e5.lt (flatten_ne c7.1 c7.2.1);have e8:=e7.lt (flatten_ne c8.1 c8.2.1);have g6:=hf.lt;have g7:=hg.lt;refine AN Tryz.func208 rfl Tryz.ntmps208 (go ?_);refine A3 (L:=fcC f (.slice a f.args.length c)) rfl (fun w1 n1=>?_);refine A3 (L:=fcC g (.slice a' g.args.length c')) rfl (fun w2 n2=>?_);have b1:=n1.D.E n2.E O;have b2:=n2.D;have z1:=n1.size;have z2:=n2.size;have k2:Ext w w2:=n1.E.trans n2.E;refine go ?_;have pf:PF Af w2 w.heap.size 0 f:=⟨trivial,fcC f _,rfl,b1.cells,((hf.ext k2).mono fun _ _=>trivial)⟩;have pg:PF Af w2 w1.heap.size 0 g:=⟨trivial,fcC g _,rfl,b2.cells,((hg.ext k2).mono fun _ _=>trivial)⟩;refine go ?_;refine AF (cmpNodes_ok w2 _ _ _ _ f g pf pg) rfl ?_;rintro _ z⟨rfl,k3⟩;((refine AO ?_;refine AS rfl ?_))
 repeat refine nx rfl ?_
 have e4:z.cell? ⟨w.heap.size,0+4,none⟩=some (.slice a f.args.length c):=(b1.E k3 O).cell rfl;have e4':z.cell? ⟨w1.heap.size,0+4,none⟩=some (.slice a' g.args.length c'):=(b2.E k3 O).cell rfl;have b0:Ext w z:=k2.trans k3;generalize b9:cmpN f g=cn;have b6:=cmpF_split f g;rw[b9]at b6;by_cases hne:cn=0;rotate_left
 ·(refine AJ (AS rfl ?_)<;>(refine W_neq rfl rfl (fun T=>?_) (fun T=>?_)<;>try omega)<;>refine AE rfl (Ah rfl (Ah rfl (Ah rfl (Ah rfl (Ae rfl (AE rfl ?_)))))))
  repeat refine nx rfl ?_
  refine AJ (AS rfl (AO (AS rfl ?_)));repeat refine nx rfl ?_
  exact AC rfl ⟨congrArg (Value.int .i64) (by rw[b6,thenI_ne hne]),b0⟩
 rw[Cw hne]at b6;by_cases h0:f.args.length=0
 ·(refine AJ (AS rfl ?_)<;>(refine W_neq rfl rfl (fun T=>?_) (fun T=>?_)<;>try omega)<;>refine AE rfl (AK rfl (AB rfl (AK rfl ?_)))<;>refine AH rfl ER ?_<;>refine AK rfl (Bi rfl ?_)<;>(refine AK rfl ?_;(refine Bf rfl rfl (fun T=>?_) (fun T=>?_)<;>try omega))<;>refine Ad rfl (AE rfl ?_))
  repeat refine nx rfl ?_
  refine AJ (AS rfl (AO (AS rfl ?_)));repeat refine nx rfl ?_
  refine AC rfl ⟨congrArg (Value.int .i64) ?_,b0⟩;rw[b6,List.length_eq_zero_iff.1 h0,hne];cases g.args<;>rfl
 (refine AJ (AS rfl ?_)<;>(refine W_neq rfl rfl (fun T=>?_) (fun T=>?_)<;>try omega)<;>refine AE rfl (AK rfl (AB rfl (AK rfl ?_)))<;>refine AH rfl ER ?_<;>refine AK rfl (Bi rfl ?_)<;>(refine AK rfl ?_;(refine Bf rfl rfl (fun T=>?_) (fun T=>?_)<;>try omega))<;>refine Ad rfl (AE rfl ?_))
 repeat first|refine nx rfl ?_|refine nf rfl ?_
 have g5:f.args.length=g.args.length:=by
  unfold cmpN at b9;rw[hne]at b9;simp only[thenI_zero,cmpI_zero]at b9;omega
 (refine AJ ?_)
 refine AY (fun w4 n4=>?_);repeat refine nx rfl ?_
 have z4:=n4.size;have z3:=k3.size;have i0:=b0.trans n4.E;have FLf:∀W,Ext w W->FL (fun b=>a8 b/\b<w.heap.size) W (.slice a f.args.length c) f.args:=fun W k=>⟨a,c,Lf,rfl,e6.ext k,(FsAt.lt c7).E k O⟩;have e3:∀W,Ext w W->FL (fun b=>a9 b/\b<w.heap.size) W (.slice a' g.args.length c') g.args:=fun W k=>⟨a',c',Lg,rfl,e8.ext k,(FsAt.lt c8).E k O⟩
 have e9:(∀W,Ext w W->∀b,a8 b/\b<w.heap.size->Unm W b)\/(∀W,Ext w W->∀b,a9 b/\b<w.heap.size->Unm W b):=by
  rcases A with A|A
  ·exact .inl fun W k b S=>(A b S.1).eq (k.block b S.2 O)
  ·exact .inr fun W k b S=>(A b S.1).eq (k.block b S.2 O)
 clear g6 g7 e6 e8 pf pg;refine Ac (rd 0 6 (.alt 6 (.alt 7 (.read 8 .done) .stop) .stop)) Ap EO (fun P M ed=>⟨Ext z,?_,?_⟩)
 ·exact n4.E.trans M
 have qa:∀W,Ext z W->W.cell? ⟨w.heap.size,0+4,none⟩=some (.slice a f.args.length c):=fun W e=>e.cell e4 O;have qb:∀W,Ext z W->W.cell? ⟨w1.heap.size,0+4,none⟩=some (.slice a' g.args.length c'):=fun W e=>e.cell e4' O;(apply D_R rfl rfl;(intro W o;(refine W_slice_arr_h rfl rfl U U ?_);exact AA ⟨rfl,rfl,rfl⟩))
 ((refine D_R rfl rfl (fun W o=>AB rfl dz) ?_)<;>(refine D_R rfl rfl (fun W o=>AH rfl (qa W o) dz) ?_)<;>(refine D_R rfl rfl (fun W o=>AB rfl dz) ?_)<;>(refine D_R rfl rfl (fun W o=>AH rfl (qb W o) dz) ?_)<;>(apply D_R rfl rfl;(intro W o;refine BO EQ EQ ?_;exact AA ⟨rfl,rfl,rfl⟩)))
 refine D_E rfl ?_;refine AP (out:=[.slice a f.args.length c,.slice a' g.args.length c']) rfl U EO (fun w5 n5=>?_);have z5:=n5.size;have zd:=M.size;refine AA ⟨Ext z,fun _ e=>e,(n4.E.trans M).trans n5.E,?_⟩;have b5:=(n4.D.E M O).E n5.E O;have f6:=(n4.E.trans M).trans n5.E;refine D_E rfl ?_
 refine W_append1 (size:=2) (n:=0) (cap:=8) (g:=z.heap.size) (sv:=.slice (sm P.heap.size) 1 1) (ok:=Af) (cs:=[.slice a f.args.length c,.slice a' g.args.length c']) rfl rfl b5 EQ U ET
  ⟨_,_,rfl,by omega,by omega,(fun h=>by cases h),.inr ⟨_,_,rfl,trivial,n5.D.cells⟩⟩ ET rfl rfl E0 U U (fun g' f9 e' h1 w6 hg' f0 hs' h5 g9 f5 k6=>?_)
 have c0:CS (fun b=>a8 b/\b<w.heap.size) (fun b=>a9 b/\b<w.heap.size) w.heap.size w5 z.heap.size 8 _ [] _ []:=⟨by omega,b5,rfl,by decide,(fun c T=>by cases T),rfl,(fun i c p T=>by simp at T),fun b S=>by rcases S with S|S<;>exact S.2⟩;have b7:Ext z w6:=f6.E k6 O;have c6:=c0.push U hg' f0 hs' g9 f5 k6 (FLf w6 (b0.trans b7)) (e3 w6 (b0.trans b7)) g5;refine AA ⟨Ext z,fun _ e=>e,b7,?_⟩;((refine D_R rfl rfl (fun W o=>AO (Ay rfl dz)) ?_)<;>refine Bc ?_)
 repeat refine nx rfl ?_
 have h9:=BL f
 refine Ar (α:=Nat×Nat×List PP) (fun x=>[(7,.slice (sm x.1) x.2.2.length x.2.1)]) (CI w (fun b=>a8 b/\b<w.heap.size) (fun b=>a9 b/\b<w.heap.size) 2000001 (B0 f g)) (fun x=>wtSt x.2.2) (g',f9,[(f.args,g.args)]) ag
  ⟨⟨_,_,_,c6⟩,b0.trans b7,by rw[b6];simp[cmpSt,CO],by simp[wtSt];omega⟩ ?_
 clear c6 c0 b7 f6 f0 f5 k6 FLf e3 b5 n5 n4 T qa qb e4 e4' M;rintro⟨Q,E,ps⟩W f3 hI;obtain⟨⟨e,L,i1,C⟩,kW,D,hwt⟩:=hI;simp only at C D hwt⊢;repeat refine nx rfl ?_
 by_cases f4:ps.length=0
 ·have e0:ps=[]:=List.length_eq_zero_iff.1 f4;subst e0;(refine AJ (Ay rfl (Bi rfl ?_))<;>(refine W_gtr rfl rfl (fun T=>?_) (fun T=>?_)<;>try omega))
  repeat first|refine nx rfl ?_|refine nf rfl ?_
  refine AJ (AO (AS rfl ?_));repeat refine nx rfl ?_
  exact AC rfl ⟨congrArg (Value.int .i64) (by rw[D];rfl),kW⟩
 obtain⟨L',d,v,v',l,m,rfl,rfl,hl,s,f2⟩:=C.split U;obtain⟨x0,x1,h7⟩:=C.cells;have g3:=C.le;have g8:=C.lo;have f1:=C.ge
 have G:∀b,(a8 b/\b<w.heap.size)\/(a9 b/\b<w.heap.size)->b∉[Q]:=fun b S s=>by
  have:=g8 b S;simp at s;omega
 have h6:=wtSt_len d;rw[DF]at D;rw[BN]at hwt;simp only[List.length_append,List.length_singleton]at g3⊢;simp only at D hwt;clear f4;(refine AJ (Ay rfl (Bi rfl ?_))<;>(refine W_gtr rfl rfl (fun T=>?_) (fun T=>?_)<;>try omega))
 repeat refine nx rfl ?_
 (refine AJ (Ay rfl (Ay rfl (Bi rfl ?_)))<;>refine W_sub rfl rfl Ea ?_)
 refine CG (k:=d.length) rfl rfl U U ?_;((refine AO ?_;refine AX rfl ?_))
 repeat refine nx rfl ?_
 cases l with
 |nil=>
  obtain⟨a0,c0,rfl⟩:=hl.form;have h4:([]:LF).length=0:=rfl;(refine AJ (AX rfl (AG rfl (AB rfl ?_)))<;>refine AH rfl ER ?_<;>refine Bi rfl ?_<;>(refine Bf rfl rfl (fun T=>?_) (fun T=>?_)<;>try omega))
  repeat refine nx rfl ?_
  (refine AJ (Ay rfl (Ay rfl (Bi rfl ?_)))<;>refine W_sub rfl rfl Ea ?_)
  refine W_slice_h rfl rfl U U ?_;rw[show((((d.length+1:Nat):Int)-1).toNat)=d.length by omega];((refine AO ?_;refine Ay rfl ?_))
  repeat refine nx rfl ?_
  refine⟨(Q,E,d),⟨rfl,ag,⟨⟨_,_,_,C.cut⟩,kW,?_,by simp only;omega⟩⟩,by simp only;rw[BN];omega⟩;simp only;rw[D];rfl
 |cons x l=>
  cases m with
  |nil=>simp at f2
  |cons y m=>
   obtain⟨j,H,cx,rfl,h2,hx,tx⟩:=hl.cons;obtain⟨q,K,cy,rfl,h3,hy,ty⟩:=s.cons;have hlm':l.length=m.length:=by simpa using f2
   have h8:=BL x;simp only[szL]at hwt;(refine AJ (AX rfl (AG rfl (AB rfl ?_)))<;>refine AH rfl ER ?_<;>refine Bi rfl ?_<;>(refine Bf rfl rfl (fun T=>?_) (fun T=>?_)<;>try omega))
   repeat first|refine nx rfl ?_|refine nf rfl ?_
   refine Ac (rd 0 12 .done) Ap EO (fun P M ed=>⟨Ext P,?_,?_⟩)
   ·exact FQ
   have f7:∀V,Ext P V->V.cell? ⟨Q,0+d.length*2+0,none⟩=some (.slice (some ⟨j,H,none⟩) (l.length+1) cx):=fun V e=>(M.trans e).cell x0 O;have f8:∀V,Ext P V->V.cell? ⟨Q,0+d.length*2+1,none⟩=some (.slice (some ⟨q,K,none⟩) (m.length+1) cy):=fun V e=>(M.trans e).cell x1 O;((refine D_R rfl rfl (fun W o=>AX rfl dz) ?_)<;>(refine D_R rfl rfl (fun W o=>AG rfl dz) ?_)<;>(refine D_R rfl rfl (fun W o=>AB rfl dz) ?_)<;>(refine D_R rfl rfl (fun W o=>AH rfl (f7 W o) dz) ?_))
   (apply D_R rfl rfl;(intro W o;refine CG (k:=0) rfl rfl rfl U ?_;exact AA ⟨rfl,rfl,rfl⟩))
   ((refine D_R rfl rfl (fun W o=>AX rfl dz) ?_)<;>(refine D_R rfl rfl (fun W o=>AG rfl dz) ?_)<;>(refine D_R rfl rfl (fun W o=>AB rfl dz) ?_)<;>(refine D_R rfl rfl (fun W o=>AH rfl (f8 W o) dz) ?_))
   refine go ?_;have kA:=M;clear M f7 f8;refine Ac (rd 0 5 (rd 7 3 (.alt 5 (.read 6 (.alt 10 (rd 11 3 (.alt 14 (.read 15 (.read 16 (.alt 17 .done .stop))) .stop)) .stop)) (.alt 10 (.read 11 (.alt 5 (.read 6 (.read 12 (.read 13 (.alt 14 (.read 15 (.read 16 (.alt 17 .done .stop))) .stop)))) .stop)) .stop)))) Ap EO (fun P M ed=>⟨fun _=>True,?_,?_⟩)
   ·trivial
   have c2:=kA.trans M;have kD:Keep [Q] W P:=c2.any;have bd:=C.D.E c2 O;have y0:=c2.cell x0 O;have y1:=c2.cell x1 O;refine go ?_;refine D_A rfl ?_ (D_E rfl ?_)
   ·refine AH rfl y0 ?_;refine wNl trivial ?_;refine go ?_;refine D_E rfl ?_;refine AH rfl y1 ?_;refine wNl trivial ?_;refine go ?_;refine D_E rfl ?_;refine AU rfl rfl rfl bd U (fun wA pA=>?_);refine wNl trivial ?_;refine go ?_;refine D_E rfl ?_;refine AU rfl rfl rfl pA.D Ey (fun F pB=>?_);refine wNl trivial ?_;refine go ?_;have kB:Keep [Q] W F:=(kD.trans pA.E O).trans pB.E O;have hB:=C.put kB pB.D (tx.E kB fun b S s=>G b (.inl S) s) (ty.E kB fun b S s=>G b (.inr S) s) hlm';have a4:Ext w F:=kW.E kB (by simp;exact C.ge);have t:=hx.E kB fun b S s=>G b (.inl S) s;have N:=hy.E kB fun b S s=>G b (.inr S) s;obtain⟨ca,ta,fa,b4,c9,_⟩:=cell_blk t.op;obtain⟨cb,tb,fb,hb1,d0,_⟩:=cell_blk N.op
    have d8:fa=(0,0)\/fb=(0,0):=by
     rcases e9 with hU|hU
     ·obtain⟨c1,t1,Z,_⟩:=unm_blk (hU F a4 j t.1) t.op;rw[b4]at Z;cases Z;exact .inl rfl
     ·obtain⟨c1,t1,Z,_⟩:=unm_blk (hU F a4 q N.1) N.op;rw[hb1]at Z;cases Z;exact .inr rfl
    refine go ?_;refine W_ptrEq (a:=⟨j,H+0*5,none⟩) (b:=⟨q,K+0*5,none⟩) rfl rfl b4 hb1 d8 c9 d0 (go ?_);by_cases a5:(⟨j,H+0*5,none⟩:Addr)=⟨q,K+0*5,none⟩
    ·rw[decide_eq_true a5];refine go ?_
     obtain⟨rfl,rfl⟩:j=q/\H=K:=by
      have:=Addr.mk.inj a5;exact⟨this.1,by have:=this.2.1;omega⟩
     have d9:=t.uniq N;refine⟨(Q,E,d++[(l,m)]),⟨rfl,⟨congrArg (fun n=>Value.slice (sm Q) n E) O,trivial⟩,⟨⟨_,_,_,hB⟩,a4,?_,by simp only;rw[BN];simp only;omega⟩⟩,by simp only;rw[BN,BN];simp only[szL];omega⟩;simp only;rw[DF,D,cmpL_cons0 ((C4 x y).2 d9)]
    ·rw[decide_eq_false a5];refine go ?_;refine AF (cmpNodes_ok F j _ q _ x y (t.mono fun _ _=>trivial) (N.mono fun _ _=>trivial)) rfl ?_;rintro _ wC⟨rfl,kC⟩;refine go ?_;have I:=a4.trans kC;have hC:=hB.ext kC;have pxC:=t.E kC O;have e1:=N.E kC O;generalize a2:cmpN x y=cn2;have B:=cmpF_split x y;rw[a2]at B;by_cases a6:cn2=0;rotate_left
     ·refine go ?_;exact AC rfl ⟨congrArg (Value.int .i64) (by rw[D,cmpL,B,EK,EK,thenI_ne a6]),I⟩
     rw[Cw a6]at B
     have d3:x.args.length=y.args.length:=by
      unfold cmpN at a2;rw[a6]at a2;simp only[thenI_zero,cmpI_zero]at a2;omega
     refine go ?_;obtain⟨vx,c3,fvx⟩:=pxC.args;obtain⟨vy,c5,b3⟩:=e1.args;obtain⟨R,cxx,rfl⟩:=fvx.form;obtain⟨X,a1,rfl⟩:=b3.form;have c4:wC.cell? ⟨j,H+0*5+4,none⟩=some (.slice R x.args.length cxx):=c3;have cvy':wC.cell? ⟨q,K+0*5+4,none⟩=some (.slice X y.args.length a1):=c5;by_cases g1:0<x.args.length
     ·refine go ?_;refine Ac (rd 0 10 (.alt 10 (.alt 11 (.read 12 .done) .stop) .stop)) Ap EO (fun P M ed=>⟨Ext w,?_,?_⟩)
      ·exact I.trans M
      have qp:∀V,Ext w V->V.cell? ⟨j,H+0*5+4,none⟩=some (.slice R x.args.length cxx):=fun V e=>cell_same I e t.1.2 c4;have qq:∀V,Ext w V->V.cell? ⟨q,K+0*5+4,none⟩=some (.slice X y.args.length a1):=fun V e=>cell_same I e N.1.2 cvy';((refine D_R rfl rfl (fun W o=>Ay rfl dz) ?_)<;>(refine D_R rfl rfl (fun W o=>AX rfl dz) ?_)<;>(refine D_R rfl rfl (fun W o=>AG rfl dz) ?_)<;>(refine D_R rfl rfl (fun W o=>AB rfl dz) ?_)<;>(refine D_R rfl rfl (fun W o=>AH rfl (qp W o) dz) ?_)<;>(refine D_R rfl rfl (fun W o=>AX rfl dz) ?_)<;>(refine D_R rfl rfl (fun W o=>AG rfl dz) ?_)<;>(refine D_R rfl rfl (fun W o=>AB rfl dz) ?_)<;>(refine D_R rfl rfl (fun W o=>AH rfl (qq W o) dz) ?_)<;>(apply D_R rfl rfl;(intro W o;refine BO EQ EQ ?_;exact AA ⟨rfl,rfl,rfl⟩)))
      refine D_E rfl ?_;refine AP (out:=[.slice R x.args.length cxx,.slice X y.args.length a1]) rfl U EO (fun wE nE=>?_);have a3:=M.trans nE.E;have a7:=I.trans a3;have hE:=hC.ext a3;refine AA ⟨Ext w,fun _ e=>e,a7,?_⟩;have d5:(d++[(l,m)]).length=d.length+1:=by simp
      refine D_E rfl ?_
      refine W_append1 (size:=2) (n:=d.length+1) (cap:=E) (g:=Q) (sv:=.slice (sm P.heap.size) 1 1) (ok:=Af) (cs:=[.slice R x.args.length cxx,.slice X y.args.length a1]) rfl rfl hE.D (by rw[List.size_toArray];exact hE.len) U hE.mx
       ⟨_,_,rfl,by omega,by omega,(fun h=>by cases h),.inr ⟨_,_,rfl,trivial,nE.D.cells⟩⟩ ET rfl rfl E0 U U (fun g2 cap2 e2 g0 wF d2 d1 d6 g4 d4 d7 kF=>?_)
      have hF:=hE.push a7.size d2 d1 d6 d4 (by rw[d5];simpa using d7) kF (fvx.E (a3.any.trans kF O) fun b S s=>G b (.inl S) s) (b3.E (a3.any.trans kF O) fun b S s=>G b (.inr S) s) d3;have b8:=a7.E kF (by simp;exact f1);refine AA ⟨Ext w,fun _ e=>e,b8,?_⟩;refine go ?_;refine⟨(g2,cap2,d++[(l,m)]++[(x.args,y.args)]),⟨rfl,⟨congrArg (fun n=>Value.slice (sm g2) n cap2) O,trivial⟩,⟨⟨_,_,_,hF⟩,b8,?_,by simp only;rw[BN,BN];simp only;omega⟩⟩,by simp only;rw[BN,BN,BN];simp only[szL];omega⟩;simp only;rw[DF,DF,D,cmpL,B,EK]
     ·refine go ?_;have ex:x.args=[]:=List.length_eq_zero_iff.1 U;have ez:B0 x y=0:=by rw[B,ex];cases y.args<;>rfl
      refine⟨(Q,E,d++[(l,m)]),⟨rfl,⟨congrArg (fun n=>Value.slice (sm Q) n E) O,trivial⟩,⟨⟨_,_,_,hC⟩,I,?_,by simp only;rw[BN];simp only;omega⟩⟩,by simp only;rw[BN,BN];simp only[szL];omega⟩;simp only;rw[DF,D,cmpL_cons0 ez]
   ·refine AH rfl y1 ?_;refine wNl trivial ?_;refine go ?_;refine D_E rfl ?_;refine AH rfl y0 ?_;refine wNl trivial ?_;refine go ?_;refine D_E rfl ?_;refine AU rfl rfl rfl bd U (fun wA pA=>?_);refine wNl trivial ?_;refine go ?_;refine D_E rfl ?_;refine AU rfl rfl rfl pA.D Ey (fun F pB=>?_);refine wNl trivial ?_;refine go ?_;have kB:Keep [Q] W F:=(kD.trans pA.E O).trans pB.E O;have hB:=C.put kB pB.D (tx.E kB fun b S s=>G b (.inl S) s) (ty.E kB fun b S s=>G b (.inr S) s) hlm';have a4:Ext w F:=kW.E kB (by simp;exact C.ge);have t:=hx.E kB fun b S s=>G b (.inl S) s;have N:=hy.E kB fun b S s=>G b (.inr S) s;obtain⟨ca,ta,fa,b4,c9,_⟩:=cell_blk t.op;obtain⟨cb,tb,fb,hb1,d0,_⟩:=cell_blk N.op
    have d8:fa=(0,0)\/fb=(0,0):=by
     rcases e9 with hU|hU
     ·obtain⟨c1,t1,Z,_⟩:=unm_blk (hU F a4 j t.1) t.op;rw[b4]at Z;cases Z;exact .inl rfl
     ·obtain⟨c1,t1,Z,_⟩:=unm_blk (hU F a4 q N.1) N.op;rw[hb1]at Z;cases Z;exact .inr rfl
    refine go ?_;refine W_ptrEq (a:=⟨j,H+0*5,none⟩) (b:=⟨q,K+0*5,none⟩) rfl rfl b4 hb1 d8 c9 d0 (go ?_);by_cases a5:(⟨j,H+0*5,none⟩:Addr)=⟨q,K+0*5,none⟩
    ·rw[decide_eq_true a5];refine go ?_
     obtain⟨rfl,rfl⟩:j=q/\H=K:=by
      have:=Addr.mk.inj a5;exact⟨this.1,by have:=this.2.1;omega⟩
     have d9:=t.uniq N;refine⟨(Q,E,d++[(l,m)]),⟨rfl,⟨congrArg (fun n=>Value.slice (sm Q) n E) O,trivial⟩,⟨⟨_,_,_,hB⟩,a4,?_,by simp only;rw[BN];simp only;omega⟩⟩,by simp only;rw[BN,BN];simp only[szL];omega⟩;simp only;rw[DF,D,cmpL_cons0 ((C4 x y).2 d9)]
    ·rw[decide_eq_false a5];refine go ?_;refine AF (cmpNodes_ok F j _ q _ x y (t.mono fun _ _=>trivial) (N.mono fun _ _=>trivial)) rfl ?_;rintro _ wC⟨rfl,kC⟩;refine go ?_;have I:=a4.trans kC;have hC:=hB.ext kC;have pxC:=t.E kC O;have e1:=N.E kC O;generalize a2:cmpN x y=cn2;have B:=cmpF_split x y;rw[a2]at B;by_cases a6:cn2=0;rotate_left
     ·refine go ?_;exact AC rfl ⟨congrArg (Value.int .i64) (by rw[D,cmpL,B,EK,EK,thenI_ne a6]),I⟩
     rw[Cw a6]at B
     have d3:x.args.length=y.args.length:=by
      unfold cmpN at a2;rw[a6]at a2;simp only[thenI_zero,cmpI_zero]at a2;omega
     refine go ?_;obtain⟨vx,c3,fvx⟩:=pxC.args;obtain⟨vy,c5,b3⟩:=e1.args;obtain⟨R,cxx,rfl⟩:=fvx.form;obtain⟨X,a1,rfl⟩:=b3.form;have c4:wC.cell? ⟨j,H+0*5+4,none⟩=some (.slice R x.args.length cxx):=c3;have cvy':wC.cell? ⟨q,K+0*5+4,none⟩=some (.slice X y.args.length a1):=c5;by_cases g1:0<x.args.length
     ·refine go ?_;refine Ac (rd 0 10 (.alt 10 (.alt 11 (.read 12 .done) .stop) .stop)) Ap EO (fun P M ed=>⟨Ext w,?_,?_⟩)
      ·exact I.trans M
      have qp:∀V,Ext w V->V.cell? ⟨j,H+0*5+4,none⟩=some (.slice R x.args.length cxx):=fun V e=>cell_same I e t.1.2 c4;have qq:∀V,Ext w V->V.cell? ⟨q,K+0*5+4,none⟩=some (.slice X y.args.length a1):=fun V e=>cell_same I e N.1.2 cvy';((refine D_R rfl rfl (fun W o=>Ay rfl dz) ?_)<;>(refine D_R rfl rfl (fun W o=>AX rfl dz) ?_)<;>(refine D_R rfl rfl (fun W o=>AG rfl dz) ?_)<;>(refine D_R rfl rfl (fun W o=>AB rfl dz) ?_)<;>(refine D_R rfl rfl (fun W o=>AH rfl (qp W o) dz) ?_)<;>(refine D_R rfl rfl (fun W o=>AX rfl dz) ?_)<;>(refine D_R rfl rfl (fun W o=>AG rfl dz) ?_)<;>(refine D_R rfl rfl (fun W o=>AB rfl dz) ?_)<;>(refine D_R rfl rfl (fun W o=>AH rfl (qq W o) dz) ?_)<;>(apply D_R rfl rfl;(intro W o;refine BO EQ EQ ?_;exact AA ⟨rfl,rfl,rfl⟩)))
      refine D_E rfl ?_;refine AP (out:=[.slice R x.args.length cxx,.slice X y.args.length a1]) rfl U EO (fun wE nE=>?_);have a3:=M.trans nE.E;have a7:=I.trans a3;have hE:=hC.ext a3;refine AA ⟨Ext w,fun _ e=>e,a7,?_⟩;have d5:(d++[(l,m)]).length=d.length+1:=by simp
      refine D_E rfl ?_
      refine W_append1 (size:=2) (n:=d.length+1) (cap:=E) (g:=Q) (sv:=.slice (sm P.heap.size) 1 1) (ok:=Af) (cs:=[.slice R x.args.length cxx,.slice X y.args.length a1]) rfl rfl hE.D (by rw[List.size_toArray];exact hE.len) U hE.mx
       ⟨_,_,rfl,by omega,by omega,(fun h=>by cases h),.inr ⟨_,_,rfl,trivial,nE.D.cells⟩⟩ ET rfl rfl E0 U U (fun g2 cap2 e2 g0 wF d2 d1 d6 g4 d4 d7 kF=>?_)
      have hF:=hE.push a7.size d2 d1 d6 d4 (by rw[d5];simpa using d7) kF (fvx.E (a3.any.trans kF O) fun b S s=>G b (.inl S) s) (b3.E (a3.any.trans kF O) fun b S s=>G b (.inr S) s) d3;have b8:=a7.E kF (by simp;exact f1);refine AA ⟨Ext w,fun _ e=>e,b8,?_⟩;refine go ?_;refine⟨(g2,cap2,d++[(l,m)]++[(x.args,y.args)]),⟨rfl,⟨congrArg (fun n=>Value.slice (sm g2) n cap2) O,trivial⟩,⟨⟨_,_,_,hF⟩,b8,?_,by simp only;rw[BN,BN];simp only;omega⟩⟩,by simp only;rw[BN,BN,BN];simp only[szL];omega⟩;simp only;rw[DF,DF,D,cmpL,B,EK]
     ·refine go ?_;have ex:x.args=[]:=List.length_eq_zero_iff.1 U;have ez:B0 x y=0:=by rw[B,ex];cases y.args<;>rfl
      refine⟨(Q,E,d++[(l,m)]),⟨rfl,⟨congrArg (fun n=>Value.slice (sm Q) n E) O,trivial⟩,⟨⟨_,_,_,hC⟩,I,?_,by simp only;rw[BN];simp only;omega⟩⟩,by simp only;rw[BN,BN];simp only[szL];omega⟩;simp only;rw[DF,D,cmpL_cons0 ez]
theorem DH{op v b:Int}{k:LU}{args:LF}{i:Bool}(h:Dq i (.mk op k v b args)=true):
  looseO op=true/\Bs op k v b args.length=true/\(i=true->futB op=false)/\∀a∈args,Dq (i||pstB op) a=true:=by
 simp only[Dq,Bool.and_eq_true]at h;obtain⟨⟨⟨⟨Z,W⟩,R⟩,B⟩,d⟩:=h;refine⟨Z,W,fun e=>?_,fun a D=>bareL_mem d D⟩;subst e;simpa using R
theorem dpL_le{n:Nat}:∀{l:LF},dpL l<=n↔∀a∈l,dpF a<=n
 | []=>by simp[dpL]
 |a::l=>by rw[dpL,Nat.max_le,dpL_le];simp
theorem szL_cat:∀l m:LF,szL (l++m)=szL l+szL m
 | [],m=>by simp[szL]
 |a::l,m=>by rw[List.cons_append,szL,szL,szL_cat l m];omega
theorem sz_ins(a:Fml):∀l:LF,szL (insF a l)<=szF a+szL l
 | []=>by simp[insF,szL]
 |c::l=>by
  have:=sz_ins a l;unfold insF
  split
  ·simp only[szL];omega
  ·split
   ·simp only[szL];omega
   ·simp only[szL];omega
theorem sz_dist:∀l:LF,szL (dist l)<=szL l
 | []=>Nat.le_refl _
 |a::l=>by
  have Z:=sz_ins a (dist l);have W:=sz_dist l;show szL (insF a (dist l))<=szF a+szL l;omega
theorem sz_flat(op:Int):∀l:LF,szL (l.flatMap (Fl op))<=szL l
 | []=>Nat.le_refl _
 |a::l=>by
  have W:=sz_flat op l;rw[List.flatMap_cons,szL_cat]
  have Z:szL (Fl op a)<=szF a:=by
   unfold Fl
   split
   ·rw[BL];omega
   ·split
    ·simp[szL]
    ·simp[szL]
  simp only[szL];omega
theorem sz_join{op:Int}(h:op=5\/op=6)(l:LF):szF (joinM op l)<=szL l+1:=by
 rw[joinM_eq h];have Z:=sz_dist (l.flatMap (Fl op));have W:=sz_flat op l;cases zAny op l with
 |true=>simp[conO,szF,szL]
 |false=>
  simp only[Bool.false_eq_true,if_false];rw[joinD_eq];generalize dist (l.flatMap (Fl op))=d at Z;cases oppB d with
  |true=>simp[conO,szF,szL]
  |false=>
   match d,Z with
   | [],_=>simp[conO,szF,szL]
   | [a],Z=>simp only[szL]at Z;simp only[Bool.false_eq_true,if_false];omega
   |a::c::d,Z=>show szL (a::c::d)+1<=_;omega
theorem sz_getD{l:LF}{k:Nat}(h:k<l.length):szF (l.getD k Am)<=szL l:=by
 rw[List.getD_eq_getElem?_getD,List.getElem?_eq_getElem h];exact Bb (List.getElem_mem h)
theorem canonOp_sz{op v:Int}{k:LU}{l:LF}(D:BX op l.length=true):szF (CU op k v l)<=szL l+1:=by
 by_cases E:op=5\/op=6
 ·unfold CU;rw[if_pos E];exact sz_join E l
 have I:szF (.mk op k v 0 l)<=szL l+1:=Nat.le_refl _;by_cases g:op=8
 ·subst g;have K:l.length=1:=by simpa[BX]using D
  have:=@sz_getD l 0 U;rw[canonOp_8];split
  ·omega
  ·exact I
 by_cases V:op=9
 ·subst V;have K:l.length=2:=by simpa[BX]using D
  have:=@sz_getD l 1 U;rw[canonOp_9];split
  ·omega
  ·exact I
 by_cases x:op=10
 ·subst x;have K:l.length=2:=by simpa[BX]using D
  have:=@sz_getD l 1 U;rw[canonOp_10];split
  ·omega
  ·exact I
 rw[canonOp_E E g V x];exact I
theorem szL_map(g:Fml->Fml):∀l:LF,(∀a∈l,szF (g a)<=szF a)->szL (l.map g)<=szL l
 | [],_=>Nat.le_refl _
 |a::l,h=>by
  have Z:=h a O;have W:=szL_map g l fun c T=>h c Eb;simp only[List.map_cons,szL];omega
theorem canon_sz:∀{f:Fml},Sh f->szF (BR f)<=szF f
 | .mk op nm v b args,h=>by
  obtain⟨_,W,R⟩:=sh_iff.1 h;rw[canon_eq];refine Nat.le_trans (canonOp_sz (by rw[List.length_map];exact W.2.1)) ?_;have:=szL_map BR args fun a D=>canon_sz (R a D);show _<=szL args+1;omega
theorem aged_sz(x:Vl):∀f:Fml,szF (aged x f)=szF f
 | .mk op nm v b args=>by
  rw[aged_eq]
  have:∀l:LF,(∀a∈l,szF (aged x a)=szF a)->szL (l.map (aged x))=szL l:=by
   intro l
   induction l with
   |nil=>intro _;rfl
   |cons a l ih=>intro K;rw[List.map_cons,szL,szL,K a O,ih fun c T=>K c Eb]
  show szL (args.map (aged x))+1=szL args+1;rw[this args fun a _=>aged_sz x a]
theorem dp_sz:∀f:Fml,dpF f<=szF f
 | .mk op nm v b args=>by
  have:dpL args<=szL args:=dpL_le.2 fun a D=>Nat.le_trans (dp_sz a) (Bb D);show dpL args+1<=szL args+1;omega
mutual
def isB(k:LU->Int->Bool):Fml->Bool
 | .mk op nm v _ args=>(if op=3 then k nm v else true)&&isL k args
def isL(k:LU->Int->Bool):LF->Bool
 | []=>true
 |a::l=>isB k a&&isL k l
end
theorem isL_iff{k:LU->Int->Bool}:∀{l:LF},isL k l=true↔∀a∈l,isB k a=true
 | []=>by simp[isL]
 |a::l=>by rw[isL,Bool.and_eq_true,isL_iff];simp
theorem is_iff{k:LU->Int->Bool}{op v b:Int}{c:LU}{args:LF}:isB k (.mk op c v b args)=true↔(op=3->k c v=true)/\∀a∈args,isB k a=true:=by
 rw[isB,Bool.and_eq_true,isL_iff];by_cases h:op=3
 ·rw[if_pos h];simp[h]
 ·rw[if_neg h];simp[h]
end
section
variable {mk:Prop}[MK mk]
end
section
variable {mk:Prop}[MK mk]
theorem SlAt.pf{ok:Nat->Prop}{w:World}{a:Option Addr}{n c:Nat}{l:LF}{k:Nat}{x:Fml}(h:SlAt fmlR ok w (.slice a n c) l)(V:l[k]?=some x):∃b o,a=some ⟨b,o,none⟩/\PF ok w b (o+k*5) x:=by
 obtain⟨Z,I,L,e,f,s⟩:=h;cases e;have T:=(List.getElem?_eq_some_iff.1 V).1;obtain⟨d,C⟩:∃d,L[k]?=some d:=⟨_,List.getElem?_eq_getElem (by rw[s.1];exact T)⟩;obtain⟨b,o,rfl,S,g⟩:=f.recs s (sz:=5) rfl C T;have i:=s.2 k d x C V;exact⟨b,o,rfl,S,d,i.1,g,i.2⟩
def negOk(f:Fml):Bool:=match f.args with
 |a::_=>decide (a.op=3)
 | []=>false
def bareN(x:Nd):Bool:=((Bd x.1.op).loose&&Dn x.1&& !((Bd x.1.op).future&&x.2))&&(if x.1.op=4 then negOk x.1 else true)
def bareG(f:Fml):Bool:=(Dp false f).all bareN
theorem bare_ok(w:World)(b o:Nat)(f:Fml)(hf:PF Af w b o f)(X:GF w)(hK:KY w)(hN:10<=w.heap.size)(hd:dpF f<=5000)(hz:szF f<=1000000):Fn Zp 153 [.pointer (some ⟨b,o,none⟩)] w fun u w'=>u=.bool (bareG f)/\Ext w w':=by
 have a1:=hf.lt;refine DC Tryz.func153 rfl Tryz.ntmps153 nlr EO (go ?_);refine AY (fun N s=>go ?_);have z2:=s.size;have b2:Blk N w.heap.size 4 [.bool false]:=s.D;have n:=s.E;have a0:PF (fun b=>b≠w.heap.size) N b o f:=(a1.E n (fun _ _=>by simp)).mono fun x V=>by have:=V.2;omega
 refine go ?_;refine AF (nodes_ok N b o) rfl ?_;rintro _ w4⟨rfl,k⟩;refine go ?_;refine C_allNodes bareN rfl EO rfl (b2.E k.E O) k.D (a0.E k.E (fun _ _=>by simp)) (X.ext (n.trans k.E)) U hd (fun l Z o' x i W b1=>?_) (fun W kW E M=>?_)
 ·refine go ?_;refine⟨rfl,fun j r V S=>?_⟩;have z:=(n.trans k.E).trans r;have H:=X.ext z;refine go ?_;have c0:=V.opc;refine go ?_;refine AF (formOf_ok j x.op H) rfl ?_;rintro _ W3⟨rfl,I⟩;refine go ?_;refine A2 (cs:=CJ (Bd x.op)) rfl rfl EQ (formC_one _) (fun P G=>go ?_);have T:=G.D;have g:=I.trans G.E;have q:bareN (x,i)=(((Bd x.op).loose&&Dn x&& !((Bd x.op).future&&i))&&(if x.op=4 then negOk x else true)):=rfl;have a8:=CE x.args;have b0:=BL x;have a4:=shaped_ok P Z o' x ((V.E g (fun _ _=>by simp)).mono fun _ _=>trivial) (H.ext g) (hK.E (z.trans g) O) U
  have a5:x.op=4->Dn x=true->x.args.length=1:=fun B F=>by
   unfold Dn at F;rw[B]at F;simp[Bd,isOpB,formsL,shapeX]at F;omega
  rw[q];clear q;generalize Bd x.op=y at T⊢;obtain⟨xl,xm,xv,xb,xn,xp,p,xo⟩:=y;cases xo with
  |false=>
   refine go ?_;refine AU (v:=.bool false) rfl rfl rfl (S.E g O) O (fun D c=>go ?_);exact⟨rfl,(g).any.trans c.E (fun _ h _=>h),c.D⟩
  |true=>
   refine go ?_;refine AF a4 rfl ?_;rintro _ Q⟨rfl,C⟩;have e:=g.trans C;cases F:Dn x with
   |false=>
    exact GR
   |true=>
   replace T:=T.E C O;by_cases d:p=true/\i=true
   ·obtain⟨rfl,rfl⟩:=d;exact GR
   have a9:(!(p&&i))=true:=by cases p<;>cases i<;>simp_all
   have a6:=V.E e (fun _ _=>by simp);obtain⟨aa,cc,_,q0,_,_,_,q4,qa⟩:=a6.all;cases p<;>cases i
   case true.true=>simp at d
   all_goals
    refine go ?_;by_cases B:x.op=4
    ·have a2:=a5 B F
     obtain⟨a,K⟩:∃a,x.args=[a]:=by
      match hxa:x.args,a2 with
      | [a],_=>exact⟨a,rfl⟩
     obtain⟨a7,o2',rfl,a3⟩:=qa 0 a (by rw[K];rfl);have q5:=a3.opc;have L:negOk x=decide (a.op=3):=by unfold negOk;rw[K]
     by_cases R:a.op=3
     ·rw[if_pos B,L,decide_eq_true R];refine go ?_;exact⟨rfl,e⟩
     ·rw[if_pos B,L,decide_eq_false R];refine go ?_;refine AU (v:=.bool false) rfl rfl rfl (S.E e O) O (fun D c=>go ?_);exact⟨rfl,e.any.trans c.E (fun _ h _=>h),c.D⟩
    ·rw[if_neg B];refine go ?_;exact⟨rfl,e⟩
 ·have z4:=k.size;unfold bareG;have t:Ext w W:=(n.trans k.E).E kW (fun x V=>by simp at V;omega);cases q:(Dp false f).all bareN with
  |true=>
   rw[if_pos rfl];refine go ?_;refine AU (v:=.bool true) rfl rfl rfl E O (fun Q A=>go ?_);refine Cm ((A.E.block _ (Array.getElem?_eq_some_iff.1 M).1 EP).trans M) fun w9 m s9=>?_;exact BF (A7 rfl ((A.D.E m EP).cell (o:=0) rfl) ⟨rfl,(t.E A.E (fun x V=>by simp at V;omega)).E m (fun x V=>by simp at V;omega)⟩)
  |false=>
   rw[if_neg O];refine go ?_;refine Cm M fun w9 m s9=>?_;exact BF (A7 rfl ((E.E m EP).cell (o:=0) rfl) ⟨rfl,t.E m (fun x V=>by simp at V;omega)⟩)
def CB(f:Fml):Bool:=decide (szF f<=400)&&decide (dpF f<=60)&&bareG f
def kernG(f:Fml):Bool:=decide (szF f<=60)&&decide (dpF f<=20)&&bareG f
theorem loose_ok(w:World)(b o:Nat)(f:Fml)(P:PF Af w b o f)(X:GF w)(H:KY w)(S:10<=w.heap.size):Fn Zp 99 [.pointer (some ⟨b,o,none⟩)] w fun u w'=>u=.bool (CB f)/\Ext w w':=by
 refine AN Tryz.func99 rfl Tryz.ntmps99 (go ?_);refine AF (within_ok w b o f 400 60 U U (P.lt.mono fun _ h=>h.2)) rfl ?_;rintro _ Q⟨rfl,Z⟩;unfold CB;cases hsz:(decide (szF f<=400)&&decide (dpF f<=60))with
 |false=>
  exact Fh
 |true=>
  simp at hsz;refine go ?_;refine AF (bare_ok Q b o f (P.E Z (fun _ _=>by simp)) (X.ext Z) (H.E Z O) (Nat.le_trans S Z.size) U U) rfl ?_;rintro _ N⟨rfl,e⟩;exact F9
theorem iskernel_ok(w:World)(v:Value)(f:Fml)(P:FAt Af w v f)(X:GF w)(H:KY w)(S:10<=w.heap.size):Fn Zp 295 [v] w fun u w'=>u=.bool (kernG f)/\Ext w w':=by
 obtain⟨q,rfl,C,i⟩:=P.cells;refine AN Tryz.func295 rfl Tryz.ntmps295 (go ?_);refine A3 (L:=q) rfl (fun y d=>go ?_);have s:=d.E;have r:PF Af y w.heap.size 0 f:=⟨trivial,q,C,d.D.cells,P.ext s⟩;refine go ?_;refine AF (within_ok y w.heap.size 0 f 60 20 U U (r.lt.mono fun _ h=>h.2)) rfl ?_;rintro _ Q⟨rfl,Z⟩;unfold kernG;cases hsz:(decide (szF f<=60)&&decide (dpF f<=20))with
 |false=>
  refine go ?_;exact AC rfl ⟨rfl,s.trans Z⟩
 |true=>
  simp at hsz;refine go ?_;refine AF (bare_ok Q w.heap.size 0 f (r.E Z (fun _ _=>by simp)) (X.ext (s.trans Z)) (H.E (s.trans Z) O) (Nat.le_trans S (s.trans Z).size) U U) rfl ?_;rintro _ N⟨rfl,e⟩;refine go ?_;exact AC rfl ⟨rfl,(s.trans Z).trans e⟩
end
section
variable {mk:Prop}[MK mk]
end
section
variable {mk:Prop}[MK mk]
end
section
variable {mk:Prop}[MK mk]
end
section
variable {mk:Prop}[MK mk]
end
section
variable {mk:Prop}[MK mk]
end
section
variable {mk:Prop}[MK mk]
def numLet(l:List Sgn):Int:=if Bk l then Bq l else 0
theorem letters1_ok(w:World)(c:LV):Fn Zp 183 [.agg c.toArray] w fun v w'=>v=.bool true/\Ext w w':=by
 refine AN Tryz.func183 rfl Tryz.ntmps183 (go ?_);refine A3 (L:=c) rfl (fun Q A=>go ?_);exact AC rfl ⟨rfl,A.E⟩
set_option maxHeartbeats 800000 in
theorem count_ok(w:World)(v:Value)(l:List Sgn)(h:SlAt sgnR Af w v l)(hK:KY w)(hN:10<=w.heap.size):Fn Zp 182 [v,.func (.func 183) #[] #[]] w fun u w'=>u=iV (numLet l)/\Ext w w':=by
 have a3:=h.lt (show(0:Nat)<3 by omega);obtain⟨a,c,rfl,b0⟩:=h.len;refine DC Tryz.func182 rfl Tryz.ntmps182 nlr EO (go ?_);refine A3 (L:=[.slice a l.length c]) rfl (fun w1 n1=>?_);refine A3 (L:=[.func (.func 183) #[] #[]]) rfl (fun w2 n2=>go ?_);have z1:=n1.size;have z2:=n2.size;have k2:Ext w w2:=n1.E.trans n2.E;have n:=n1.D.E n2.E O;have j:=n2.D;refine go ?_;refine AF (sigValid_ok w2 _ l (h.ext k2) (hK.E k2 O)) rfl ?_;rintro _ z⟨rfl,k3⟩;have a0:numLet l=if Bk l then Bq l else 0:=rfl;cases hv:Bk l with
 |false=>
  rw[hv]at a0;refine go ?_;exact finD_ret1 rfl ⟨by rw[a0];rfl,k2.trans k3⟩
 |true=>
 rw[hv]at a0;refine go ?_;refine AY (fun w4 n4=>?_);refine AU (v:=iV 1) rfl rfl rfl n4.D O (fun f p5=>go ?_);have z3:=k3.size;have z4:=n4.size;have z5:=p5.size;have a6:Ext z f:=n4.E.E p5.E O;have a1:=k3.trans a6;replace n:=n.E a1 O;replace j:=j.E a1 O;have B:Blk f z.heap.size 3 [iV 1]:=p5.D;have k5:=k2.trans a1;refine go ?_;refine AF (weights_ok f _ rfl) rfl ?_;rintro _ p⟨rfl,y⟩;refine go ?_;have z6:=y.size;replace n:=n.E y.E O;replace j:=j.E y.E O;replace B:=B.E y.E O;have G:=y.D;have k6:=k5.trans y.E;refine C_range [] [pt f.heap.size] rfl EO fun a4 a8 a9 w7 i D s7 m7 r7=>?_;replace n:=n.E D O;replace j:=j.E D O;replace B:=B.E D O;replace G:=G.E D O;have e7:=k6.trans D;obtain⟨E,m⟩:∃E:Nat->World->Prop,∀k W,E k W↔(Ext w W/\Blk W z.heap.size 3 [iV (Bq (l.take k))]/\Blk W w.heap.size 22 [.slice a l.length c]/\Blk W w1.heap.size 237 [.func (.func 183) #[] #[]]/\a4 W/\W.heap[p.heap.size]?=some (.deferred (some []))/\w7.heap.size<=W.heap.size):=⟨_,fun _ _=>Iff.rfl⟩
 have H:WtsR (.func (.yield (p.heap.size+1)) #[] #[]) [z.heap.size,p.heap.size+1] w7.heap.size l E (fun _=>False):=by
  refine⟨⟨_,rfl⟩,fun T k F=>?_,fun{k W x}T d=>?_⟩
  ·obtain⟨C,Z,X,Q,P,q,j7⟩:=(m _ _).1 T;exact(m _ _).2 ⟨C.E k (fun x d=>by have:=F x d;omega),Z.E k (fun h=>by have:=F _ h;omega),X.E k (fun h=>by have:=F _ h;omega),Q.E k (fun h=>by have:=F _ h;omega),i.rdy P k (fun h=>by have:=F _ h;omega),(k.block _ (by have:=i.lt P;omega) (fun h=>by have:=F _ h;omega)).trans q,Nat.le_trans j7 k.size⟩
  ·obtain⟨C,Z,X,Q,P,q,j7⟩:=(m _ _).1 T;have b2:=i.lt P;have a2:=(List.getElem?_eq_some_iff.1 d).1;obtain⟨p1,p2,p3,p4,p5,p6⟩:=prod_bound hv d;refine YldP.mono (R:=fun v W'=>v=.bool true/\Keep [z.heap.size,p.heap.size+1] W W'/\E (k+1) W') (Y:=fun _ _=>False) (i.round P rfl ?_) (fun v W' h=>⟨h.2.1,.inl ⟨h.1,h.2.2⟩⟩) (fun _ _ h=>h);refine go ?_;refine⟨P,fun W2 A b7 y2=>?_⟩;replace Z:=Z.E A EP;replace X:=X.E A EP;replace Q:=Q.E A EP;replace q:=(A.block _ U O).trans q;have r:=C.E A EP;have a7:Keep [z.heap.size,p.heap.size+1] W W2:=A.mono (fun x d=>by simp at d;simp[d]);obtain⟨_,b,o,rfl,hb,S⟩:=(a3.ext r).sig d;refine go ?_;refine Ac (rd 0 5 (.alt 5 .done .stop)) Ap EO (fun N M ed=>⟨Ext N,?_,?_⟩)
   ·exact FQ
   have f1:∀V,Ext N V->V.cell? ⟨w1.heap.size,0,none⟩=some (.func (.func 183) #[] #[]):=fun V e=>(Q.E (M.trans e) O).cell rfl;have K:∀V,Ext N V->V.cell? ⟨w.heap.size,0,none⟩=some (.slice (some ⟨b,o,none⟩) l.length c):=fun V e=>(X.E (M.trans e) O).cell rfl;have f3:∀V,Ext N V->Cells V b (o+k*3) (sgnC x):=fun V e=>(S.E (M.trans e) O);((refine D_R rfl rfl (fun W g=>AH rfl (f1 W g) dz) ?_)<;>(refine D_R rfl rfl (fun W g=>AH rfl (K W g) dz) ?_)<;>(refine D_R rfl rfl (fun W g=>AS rfl dz) ?_))
   refine D_R rfl rfl (fun V hV=>by refine CG (k:=k) rfl rfl rfl a2 ?_;exact AA ⟨rfl,rfl,rfl⟩) ?_;refine D_R (v:=.agg (sgnC x).toArray) rfl rfl (fun V hV=>by refine AQ (L:=sgnC x) rfl rfl (f3 V hV) ?_;exact AA ⟨rfl,rfl,rfl⟩) ?_;refine D_E rfl ?_;refine A9 (v1:=[]) (v2:=[]) (vs:=[.agg (sgnC x).toArray]) rfl (letters1_ok N (sgnC x)) rfl ?_;rintro _ W3⟨rfl,I⟩;refine AA ⟨Ext N,fun _ e=>e,I,?_⟩;refine go ?_;have q3:=a7.trans (M.trans I) (fun x d=>by cases d);replace Z:=Z.E (M.trans I) O;replace X:=X.E (M.trans I) O;replace Q:=Q.E (M.trans I) O;replace q:=((M.trans I).block _ U O).trans q;replace r:=r.trans (M.trans I);replace y2:=i.bsy y2 (M.trans I) O;replace S:=S.E (M.trans I) O;clear f1 K f3 I M;refine Ac (rd 1 5 (.alt 0 (.read 6 (.alt 7 .done .stop)) .stop)) Ap EO (fun N M ed=>⟨Keep [z.heap.size] N,?_,?_⟩)
   ·exact Ff
   have K:∀V,Keep [z.heap.size] N V->V.cell? ⟨w.heap.size,0,none⟩=some (.slice (some ⟨b,o,none⟩) l.length c):=fun V e=>((X.E M O).E e EP).cell rfl;have f3:∀V,Keep [z.heap.size] N V->V.cell? ⟨b,o+k*3+2,none⟩=some (iV x.size):=fun V e=>((S.E M O).E e (by have:=hb.2;simp;omega)) 2 _ rfl;((refine D_R rfl rfl (fun W g=>AH rfl (K W g) dz) ?_)<;>(refine D_R rfl rfl (fun W g=>AS rfl dz) ?_))
   refine D_R rfl rfl (fun V hV=>by refine CG (k:=k) rfl rfl rfl a2 ?_;exact AA ⟨rfl,rfl,rfl⟩) ?_;((refine D_R rfl rfl (fun W g=>AB rfl dz) ?_)<;>(refine D_R rfl rfl (fun W g=>AH rfl (f3 W g) dz) ?_))
   refine D_E rfl ?_;refine AH rfl ((Z.E M O).cell rfl) ?_;refine AA ⟨Keep [z.heap.size] N,fun _ e=>e,Keep.refl _ _,?_⟩;refine go ?_;refine D_E rfl ?_;refine AU (v:=iV (Bq (l.take k)*x.size)) rfl rfl rfl (Z.E M O) O (fun W5 pp=>?_);refine AA ⟨Keep [z.heap.size] N,fun _ e=>e,pp.E,?_⟩;refine go ?_;have s:Keep [z.heap.size] W3 W5:=M.any.trans pp.E (fun x d _=>d);have y3:=i.bsy y2 s EP;have q5:Keep [z.heap.size,p.heap.size+1] W W5:=q3.trans s (fun x d _=>by simp at d;simp[d]);replace X:=X.E s EP;replace Q:=Q.E s EP;replace q:=(s.block _ (by have:=q3.size;omega) EP).trans q;replace r:=r.E s EP;have Z:Blk W5 z.heap.size 3 [iV (Bq (l.take k)*x.size)]:=pp.D;have b3:=q5.size;refine go ?_;refine Q_rnd y3 fun W6 t z6 y6=>⟨rfl,q5.trans t (fun x d _=>by simp at d;simp[d]),(m _ _).2 ⟨r.E t EP,?_,X.E t EP,Q.E t EP,y6,(t.block _ U O).trans q,by omega⟩⟩;rw[prodS_take d];exact Z.E t EP
 have b4:w7.heap.size=p.heap.size+2:=s7;refine Fn.mono (weightsIt_ok w7 f.heap.size (.slice a l.length c) l H G (((a3.ext e7)).mono fun x d=>by have:=d.2;simp;omega) hv ((m _ _).2 ⟨e7,B,n,j,r7,m7,Nat.le_refl _⟩) EP) ?_;rintro v w8⟨_,T|hh⟩
 case inr=>exact hh.elim
 obtain⟨C,Z,X,Q,P,q,j7⟩:=(m _ _).1 T;have b1:=i.lt P;refine .inl ⟨P,fun w9 k9 s9=>?_⟩;clear m H T i r7 m7 G;rw[List.take_length]at Z;replace Z:=Z.E k9 EP;replace q:=(k9.block _ U O).trans q;have e9:=C.E k9 EP;refine go ?_;refine Cm q fun b6 a5 b5=>?_;exact finD_ret1 rfl ⟨by rw[a0];rfl,e9.E a5 EP⟩
theorem letters_ok(w:World)(v:Value)(l:List Sgn)(h:SlAt sgnR Af w v l)(H:KY w)(S:10<=w.heap.size):Fn Zp 122 [v] w fun u w'=>u=iV (numLet l)/\Ext w w':=by
 obtain⟨a,c,rfl,s⟩:=h.len;refine AN Tryz.func122 rfl Tryz.ntmps122 (go ?_);refine AF (count_ok w _ l h H S) rfl ?_;rintro _ Q⟨rfl,Z⟩;exact Fh
end
end Go.Proofs.YtjbocjodncbogaaGreatDoor
