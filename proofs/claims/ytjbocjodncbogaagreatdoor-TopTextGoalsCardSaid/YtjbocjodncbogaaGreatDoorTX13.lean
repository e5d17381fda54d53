/- TopTextGoals, part 13 of 16: rules, lemmas, walks. Conditions: none. -/
import Derived.Test.YtjbocjodncbogaaGreatDoorTX12
import Derived.Maps.RangeRun
namespace Go.Proofs.YtjbocjodncbogaaGreatDoor
open Go.RowKit
set_option linter.unusedVariables false
theorem sigs_len:∀l:List Sgn,l.all okS=true->(l.flatMap sgnT).length<=44*l.length
 | [],_=>by simp
 |x::l,h=>by
  rw[List.all_cons,Bool.and_eq_true]at h;have Z:=sgnT_len h.1;have W:=sigs_len l h.2;rw[List.flatMap_cons,List.length_append,List.length_cons];omega
structure SpV(w:World)(p b o:Nat)(s:Spc)(sa ra:Option Addr)(sc rc:Nat)(LS LR:List (LV)):Prop where
 lt:b<p
 c0:w.cell? ⟨b,o+0,none⟩=some (.slice sa s.sigs.length sc)
 c1:w.cell? ⟨b,o+1,none⟩=some (.slice ra s.reqs.length rc)
 ss:Sl (fun b=>b<p) w (.slice sa s.sigs.length sc) s.sigs.length LS.flatten
 sr:RsAt sgnR (fun b=>b<p) w LS s.sigs
 rs:Sl (fun b=>b<p) w (.slice ra s.reqs.length rc) s.reqs.length LR.flatten
 rr:RsAt reqR (fun b=>b<p) w LR s.reqs
theorem SpV.E{X:List Nat}{w w':World}{p b o:Nat}{s:Spc}{d T:Option Addr}{W S:Nat}{t c:List (LV)}(h:SpV w p b o s d T W S t c)(k:Keep X w w')(a:∀b,b<p->b∉X):SpV w' p b o s d T W S t c:=
 ⟨h.lt,k.cell h.c0 (a b h.lt),k.cell h.c1 (a b h.lt),h.ss.E k a,h.sr.E k a,h.rs.E k a,h.rr.E k a⟩
theorem SpV.ext{w w':World}{p b o:Nat}{s:Spc}{X T:Option Addr}{W S:Nat}{t a:List (LV)}(h:SpV w p b o s X T W S t a)(k:Ext w w'):SpV w' p b o s X T W S t a:=h.E k fun _ _=>by simp
theorem SpV.wrote{w w':World}{p b o:Nat}{s:Spc}{X T:Option Addr}{W S:Nat}{c a:List (LV)}{v E:Value}{t:LU}(h:SpV w p b o s X T W S c a)(k:Wrote p v E w w')(e:WrB w p v t):SpV w' p b o s X T W S c a:=h.E k.E (k.old e)
set_option maxHeartbeats 1600000 in
theorem wspec_ok(w:World)(p b o:Nat)(v:Value)(t:LU)(s:Spc)(D:WrB w p v t)(hf:PA spcR (fun b=>b<p) w b o s)(hG:GP w)(y:10<=p)(hz:szS s<=1000000)(hl:t.length<=100000000):
  FnP Zp 32 [pt p,.pointer (some ⟨b,o,none⟩)] w (fun _ w'=>WAns p v t (spcT s) (DB s) w w') (WPan p v (DB s) w):=by
 obtain⟨X,sc,ra,S,Q,K,E⟩:∃X sc ra S Q K,SpV w p b o s X ra sc S Q K:=by
  obtain⟨hb,d,b6,sv,rv,rfl,⟨X,sc,Q,rfl,h1,h2⟩,⟨ra,S,K,rfl,h3,h4⟩⟩:=id hf;exact⟨X,sc,ra,S,Q,K,hb,b6 0 _ rfl,b6 1 _ rfl,h1,h2,h3,h4⟩
 clear hf;have g9:s.sigs.length<=1000000:=by unfold szS at hz;omega
 have g8:szR s.reqs<=1000000:=by unfold szS at hz;omega
 have g6:=szR_len s.reqs;refine Az Tryz.func32 rfl Tryz.ntmps32 nlr EO ?_;repeat refine nx rfl ?_
 have c0:=E.c0;(refine AJ (AX rfl (AG rfl (AB rfl ?_)))<;>refine AH rfl ER ?_<;>refine Bi rfl (AS rfl (AA ?_)))
 repeat' first|refine AA ?_|refine Q_then ?_|refine C_seq ?_
 refine CA (α:=Value) (fun _=>[(0,pt p),(1,.pointer (some ⟨b,o,none⟩))]) (fun u W=>s.sigs.all okS=true/\WrB W p u (t++s.sigs.flatMap sgnT)/\Wrote p v u w W) ?_ ?_
 ·refine go ?_
  refine Ar (α:=Nat×Value) (fun x=>[(0,pt p),(1,.pointer (some ⟨b,o,none⟩)),(11,.slice X s.sigs.length sc),(12,iV (s.sigs.length:Int)),(13,iV (x.1:Int))])
   (fun x W=>x.1<=s.sigs.length/\(s.sigs.take x.1).all okS=true/\WrB W p x.2 (t++(s.sigs.take x.1).flatMap sgnT)/\Wrote p v x.2 w W) (fun x=>s.sigs.length-x.1) (0,v) ag ⟨by simp,by simp,by simpa using D,Wrote.refl _ _ _⟩ ?_
  rintro⟨k,u⟩w1 f1⟨hk,z,H,Z⟩;simp only at hk z H Z⊢;refine go ?_;by_cases B:k<s.sigs.length
  ·refine go ?_;obtain⟨x,hx⟩:∃x,s.sigs[k]?=some x:=⟨_,List.getElem?_eq_getElem B⟩;have a1:=E.wrote Z D;obtain⟨d,C⟩:∃d,Q[k]?=some d:=⟨_,List.getElem?_eq_getElem (by rw[E.sr.1];exact B)⟩;obtain⟨bs,os,rfl,g0,d9⟩:=a1.ss.row a1.sr C B;have e0:d=sgnC x:=a1.sr.2 k d x C hx;subst e0;refine go ?_;refine AQ (L:=sgnC x) rfl rfl d9 ?_;refine A2 (cs:=sgnC x) rfl rfl EQ (sgnR.one (ok:=Af) (w:=w) (a:=x) rfl) (fun w2 n2=>go ?_);have V:=H.ext n2.E;have F:=Z.ext n2.E;have e7:=sigs_len _ z;have h0:(s.sigs.take k).length<=1000000:=by simp;omega
   refine Ag (wsig_ok w2 p u _ x V (F.gp D hG y) y (by rw[List.length_append];omega)) rfl ?_ ?_;rotate_left
   ·rintro ch w3⟨rfl,hb3,f,P⟩;refine go ?_;refine Ab ⟨rfl,?_,f,F.trans P⟩
    have:s.sigs.all okS=false:=by
     rw[<-Bool.not_eq_true,List.all_eq_true];intro h;have:=h x (List.mem_of_getElem? hx);rw[hb3]at this;cases this
    simp[DB,this]
   rintro _ w3⟨e3,f,a6,P⟩;refine go ?_;have e:s.sigs.take (k+1)=s.sigs.take k++[x]:=by rw[List.take_add_one,hx];rfl
   refine⟨(k+1,f),⟨rfl,⟨rfl,rfl,rfl,rfl,?_,trivial⟩,⟨B,?_,?_,F.trans P⟩⟩,by simp only;omega⟩
   ·show iV ((k:Int)+1)=_;rw[Int.natCast_add];rfl
   ·simp only;rw[e,List.all_append,z];simp[e3]
   ·simp only;rw[e,List.flatMap_append];simpa using a6
  ·refine go ?_;have e:k=s.sigs.length:=by omega
   subst e;rw[List.take_length]at z H;exact Aj u ag ⟨z,H,Z⟩
 rintro u w1 f1⟨b9,H,Z⟩;have a1:=E.wrote Z D;have c1:=a1.c1;have f8:=Z.gp D hG y;have e7:=sigs_len _ b9;generalize c3:t++s.sigs.flatMap sgnT=tt at H;have httl:tt.length<=100000000+44000000:=by rw[<-c3,List.length_append];omega
 refine go ?_
 refine Ar (α:=Nat×Value) (fun x=>[(0,pt p),(1,.pointer (some ⟨b,o,none⟩)),(24,.slice ra s.reqs.length S),(25,iV (s.reqs.length:Int)),(26,iV (x.1:Int))])
  (fun x W=>x.1<=s.reqs.length/\(s.reqs.take x.1).all okRq=true/\WrB W p x.2 (tt++(List.range x.1).flatMap (rqI s.reqs))/\Wrote p v x.2 w W) (fun x=>s.reqs.length-x.1) (0,u) ag ⟨by simp,by simp,by simpa using H,Z⟩ ?_
 clear c0 c1;rintro⟨k,v2⟩w2 f2⟨hk,z,V,F⟩;simp only at hk z V F⊢;refine go ?_;by_cases B:k<s.reqs.length
 ·obtain⟨r,G⟩:∃r,s.reqs[k]?=some r:=⟨_,List.getElem?_eq_getElem B⟩;have g3:=rqs_len s.reqs k hk z;have g2:=szR_le s.reqs k;have e1:=szR_le s.reqs (k+1);rw[szR_take G]at e1;generalize c4:tt++(List.range k).flatMap (rqI s.reqs)=ut at V;have hutl:ut.length<=144000000+44*szR s.reqs:=by rw[<-c4,List.length_append];omega
  have b5:okRq r=false->DB s=false:=fun h=>by
   have:s.reqs.all okRq=false:=by
    rw[<-Bool.not_eq_true,List.all_eq_true];intro h2;have:=h2 r (List.mem_of_getElem? G);rw[h]at this;cases this
   simp[DB,this]
  have q:=E.wrote F D;obtain⟨d,C⟩:∃d,K[k]?=some d:=⟨_,List.getElem?_eq_getElem (by rw[E.rr.1];exact B)⟩;obtain⟨l,n,d1,f9,g1⟩:=q.rs.row q.rr C B;subst d1
  have m:∀(W:World),SpV W p b o s X (some ⟨l,n,none⟩) sc S Q K->∀j g,s.reqs[j]?=some g->W.cell? ⟨l,n+j*8+0,none⟩=some (AL g.part):=by
   intro W b2 j g I;have hj:=(List.getElem?_eq_some_iff.1 I).1;obtain⟨d',b7⟩:∃d,K[j]?=some d:=⟨_,List.getElem?_eq_getElem (by rw[E.rr.1];exact hj)⟩;obtain⟨_,_,e,_,d7⟩:=b2.rs.row b2.rr b7 hj;cases e;obtain⟨d5,e5,_⟩:=b2.rr.2 j d' g b7 I;exact d7 0 _ (by rw[e5];rfl)
  have c1:=q.c1;refine go ?_;repeat' first|refine AA ?_|refine Q_then ?_|refine C_seq ?_
  generalize R:decide (k=0\/(s.reqs[k-1]?).map (·.part)≠some r.part)=cc;refine CA (α:=Unit) (fun _=>[(0,pt p),(1,.pointer (some ⟨b,o,none⟩)),(6,iV (k:Int)),(7,.pointer (some ⟨l,n+k*8,none⟩)),(24,.slice (some ⟨l,n,none⟩) s.reqs.length S),(25,iV (s.reqs.length:Int)),(26,iV (k:Int)),(52,.bool cc)]) (fun _ W=>Ext w2 W) ?_ ?_
  ·refine Ac (rd 0 18 .done) Ap EO (fun N M ed=>⟨Ext N,?_,?_⟩)
   ·exact FQ
   have a0:∀W,Ext N W->W.cell? ⟨b,o+1,none⟩=some (.slice (some ⟨l,n,none⟩) s.reqs.length S):=fun W e=>((q.ext M).ext e).c1;have b0:∀W,Ext N W->W.cell? ⟨l,n+k*8+0,none⟩=some (AL r.part):=fun W e=>m W ((q.ext M).ext e) k r G;by_cases a2:k=0
   ·subst a2;have A:cc=true:=by rw[<-R];simp
    exact Gf
   ·obtain⟨g,I⟩:∃g,s.reqs[k-1]?=some g:=⟨_,List.getElem?_eq_getElem U⟩
    have a9:∀W,Ext N W->W.cell? ⟨l,n+((k:Int)-1).toNat*8+0,none⟩=some (AL g.part):=fun W e=>by
     rw[show((k:Int)-1).toNat=k-1 by omega];exact m W ((q.ext M).ext e) (k-1) g I
    ((refine D_R rfl rfl (fun W c=>AS rfl dz) ?_)<;>(refine D_eql rfl rfl rfl rfl (fun T=>?_) (fun T=>?_)<;>try omega)<;>(refine D_R rfl rfl (fun W c=>AE rfl dz) ?_)<;>(refine D_R rfl rfl (fun W c=>AK rfl (AX rfl dz)) ?_)<;>(refine D_R rfl rfl (fun W c=>AK rfl (AG rfl dz)) ?_)<;>(refine D_R rfl rfl (fun W c=>AK rfl (AB rfl dz)) ?_)<;>(refine D_R rfl rfl (fun W c=>AK rfl (AH rfl (a0 W c) dz)) ?_)<;>(refine D_R rfl rfl (fun W c=>AK rfl (AS rfl dz)) ?_)<;>(apply D_R rfl rfl;(intro W c;(refine AK rfl ?_;refine W_sub rfl rfl Ea ?_);exact AA ⟨rfl,rfl,rfl⟩))<;>(apply D_R rfl rfl;(intro W c;(refine AK rfl ?_;refine Bt rfl rfl U U ?_);exact AA ⟨rfl,rfl,rfl⟩))<;>(refine D_R rfl rfl (fun W c=>AK rfl (AB rfl dz)) ?_)<;>(refine D_R rfl rfl (fun W c=>AK rfl (AH rfl (a9 W c) dz)) ?_)<;>(refine D_R rfl rfl (fun W c=>AK rfl (AX rfl dz)) ?_)<;>(refine D_R rfl rfl (fun W c=>AK rfl (AG rfl dz)) ?_)<;>(refine D_R rfl rfl (fun W c=>AK rfl (AB rfl dz)) ?_)<;>(refine D_R rfl rfl (fun W c=>AK rfl (AH rfl (b0 W c) dz)) ?_)<;>(refine D_sneq rfl rfl rfl rfl (fun T=>?_) (fun T=>?_))<;>(refine D_R rfl rfl (fun W c=>Ad rfl (AE rfl dz)) ?_)<;>refine Bc ?_)
    ·have A:cc=true:=by rw[<-R,I];simp;exact .inr ER
     exact Gf
    ·have A:cc=false:=by rw[<-R,I];simp[a2];assumption
     exact Gf
  rintro _ w3 f3 P;have a6:=V.ext P;have a7:=F.ext P;have d4:=q.ext P
  refine CA (α:=Value) (fun _=>[(0,pt p),(1,.pointer (some ⟨b,o,none⟩)),(6,iV (k:Int)),(7,.pointer (some ⟨l,n+k*8,none⟩)),(24,.slice (some ⟨l,n,none⟩) s.reqs.length S),(25,iV (s.reqs.length:Int)),(26,iV (k:Int))])
   (fun f W=>BH r.part=true/\WrB W p f (ut++if cc then[112,97,114,116,32]++(r.part++[32,123,10])else[])/\Wrote p v f w W) ?_ ?_
  ·cases cc with
   |true=>
    refine go ?_;have g5:=m w3 d4 k r G;refine go ?_;refine Ag (wname_ok w3 r.part (a7.gp D hG y).gk) rfl ?_ ?_;rotate_left
    ·rintro ch w4⟨rfl,hb,rfl⟩;refine go ?_;exact Ab ⟨rfl,b5 (by simp[okRq,hb]),v2,a7⟩
    rintro _ w4⟨rfl,a3,rfl⟩;have e2:=(CL a3).2.1;refine AP (out:=[AL [112,97,114,116,32],AL r.part,AL [32,123,10]]) rfl U EO (fun w5 n5=>?_);refine AF (De (parts:=[[112,97,114,116,32],r.part,[32,123,10]]) a6 n5 O EP) rfl ?_;rintro _ w6⟨v6,b4,k6⟩;refine go ?_;refine Aj v6 ag ⟨a3,?_,a7.trans k6⟩;rw[if_pos rfl];simpa using b4
   |false=>
    refine go ?_;refine Aj v2 ag ⟨?_,by simpa using a6,a7⟩;simp only[decide_eq_false_iff_not,not_or,ne_eq,Decidable.not_not]at R;obtain⟨g,I,e⟩:=Option.map_eq_some_iff.1 R.2;have:=List.all_eq_true.1 z g (List.mem_of_getElem? (i:=k-1) (by rw[List.getElem?_take_of_lt U];exact I));simp only[okRq,Bool.and_eq_true]at this;rw[<-e];exact this.1
  rintro f w4 f4⟨a3,c6,k4⟩;have e2:=(CL a3).2.1;generalize hot:(if cc then[112,97,114,116,32]++(r.part++[32,123,10])else[]:LU)=ot at c6;have g4:ot.length<=20:=by rw[<-hot];split<;>simp;omega
  refine go ?_;refine AP (out:=[AL [32,32]]) rfl U EO (fun w5 n5=>?_);refine AF (De (parts:=[[32,32]]) c6 n5 O EP) rfl ?_;rintro _ w6⟨v6,b4,k6⟩;refine go ?_;have a8:=k4.trans k6;have b1:=E.wrote a8 D;have d3:=a8.gp D hG y
  have hpa:PA reqR (fun b=>b<p) w6 l (n+k*8) r:=by
   obtain⟨_,_,e,d6,d8⟩:=b1.rs.row b1.rr C B;cases e;exact⟨d6,d,d8,b1.rr.2 k d r C G⟩
  refine go ?_;refine Ag (wreq_ok w6 p l (n+k*8) v6 _ r b4 hpa d3 y U EP) rfl ?_ ?_;rotate_left
  ·rintro ch w7⟨rfl,hb,v7,k7⟩;refine go ?_;exact Ab ⟨rfl,b5 (by simp[okRq,hb]),v7,a8.trans k7⟩
  rintro _ w7⟨hrok,v7,e9,k7⟩;have g7:=reqT_len hrok;refine go ?_;have k47:=a8.trans k7;refine go ?_;refine AP (out:=[AL [59,10]]) rfl U EO (fun w8 n8=>?_);refine AF (De (parts:=[[59,10]]) e9 n8 O EP) rfl ?_;rintro _ w9⟨v9,f0,k9⟩;have c9:=k47.trans k9;have a4:=E.wrote c9 D;repeat' first|refine AA ?_|refine Q_then ?_|refine C_seq ?_
  generalize a5:decide (k+1=s.reqs.length\/(s.reqs[k+1]?).map (·.part)≠some r.part)=ce;refine CA (α:=Unit) (fun _=>[(0,pt p),(1,.pointer (some ⟨b,o,none⟩)),(24,.slice (some ⟨l,n,none⟩) s.reqs.length S),(25,iV (s.reqs.length:Int)),(26,iV (k:Int)),(93,.bool ce)]) (fun _ W=>Ext w9 W) ?_ ?_
  ·refine Ac (rd 0 24 .done) Ap EO (fun N M ed=>⟨Ext N,?_,?_⟩)
   ·exact FQ
   have a0:∀W,Ext N W->W.cell? ⟨b,o+1,none⟩=some (.slice (some ⟨l,n,none⟩) s.reqs.length S):=fun W e=>((a4.ext M).ext e).c1;have b0:∀W,Ext N W->W.cell? ⟨l,n+k*8+0,none⟩=some (AL r.part):=fun W e=>m W ((a4.ext M).ext e) k r G;by_cases a2:k+1=s.reqs.length
   ·have A:ce=true:=by rw[<-a5];simp[a2]
    subst A;((refine D_R rfl rfl (fun W c=>AS rfl dz) ?_)<;>(apply D_R rfl rfl;(intro W c;refine W_add rfl rfl Ea ?_;exact AA ⟨rfl,rfl,rfl⟩))<;>(refine D_R rfl rfl (fun W c=>AX rfl dz) ?_)<;>(refine D_R rfl rfl (fun W c=>AG rfl dz) ?_)<;>(refine D_R rfl rfl (fun W c=>AB rfl dz) ?_)<;>(refine D_R rfl rfl (fun W c=>AH rfl (a0 W c) dz) ?_)<;>(refine D_R rfl rfl (fun W c=>Bi rfl dz) ?_)<;>(refine D_eql rfl rfl rfl rfl (fun T=>?_) (fun T=>?_)<;>try omega)<;>(refine D_R rfl rfl (fun W c=>AE rfl dz) ?_)<;>refine At rfl rfl rfl rfl (At rfl rfl rfl rfl (At rfl rfl rfl rfl (At rfl rfl rfl rfl (At rfl rfl rfl rfl (At rfl rfl rfl rfl (At rfl rfl rfl rfl (At rfl rfl rfl rfl (At rfl rfl rfl rfl (At rfl rfl rfl rfl (At rfl rfl rfl rfl (At rfl rfl rfl rfl (At rfl rfl rfl rfl (At rfl rfl rfl rfl ?_)))))))))))))<;>(refine D_R rfl rfl (fun W c=>Ae rfl (AE rfl dz)) ?_)<;>refine Bc ?_)
    refine go ?_;exact Aj () ag M
   ·obtain⟨g,I⟩:∃g,s.reqs[k+1]?=some g:=⟨_,List.getElem?_eq_getElem U⟩
    have a9:∀W,Ext N W->W.cell? ⟨l,n+((k:Int)+1).toNat*8+0,none⟩=some (AL g.part):=fun W e=>by
     rw[show((k:Int)+1).toNat=k+1 by omega];exact m W ((a4.ext M).ext e) (k+1) g I
    have f7:∀W,Ext N W->W.cell? ⟨l,n+(k+1)*8+0,none⟩=some (AL g.part):=fun W e=>m W ((a4.ext M).ext e) (k+1) g I;((refine D_R rfl rfl (fun W c=>AS rfl dz) ?_)<;>(apply D_R rfl rfl;(intro W c;refine W_add rfl rfl Ea ?_;exact AA ⟨rfl,rfl,rfl⟩))<;>(refine D_R rfl rfl (fun W c=>AX rfl dz) ?_)<;>(refine D_R rfl rfl (fun W c=>AG rfl dz) ?_)<;>(refine D_R rfl rfl (fun W c=>AB rfl dz) ?_)<;>(refine D_R rfl rfl (fun W c=>AH rfl (a0 W c) dz) ?_)<;>(refine D_R rfl rfl (fun W c=>Bi rfl dz) ?_)<;>(refine D_eql rfl rfl rfl rfl (fun T=>?_) (fun T=>?_)<;>try omega)<;>(refine D_R rfl rfl (fun W c=>AE rfl dz) ?_)<;>(refine D_R rfl rfl (fun W c=>AK rfl (AX rfl dz)) ?_)<;>(refine D_R rfl rfl (fun W c=>AK rfl (AG rfl dz)) ?_)<;>(refine D_R rfl rfl (fun W c=>AK rfl (AB rfl dz)) ?_)<;>(refine D_R rfl rfl (fun W c=>AK rfl (AH rfl (a0 W c) dz)) ?_)<;>(refine D_R rfl rfl (fun W c=>AK rfl (AS rfl dz)) ?_)<;>(apply D_R rfl rfl;(intro W c;(refine AK rfl ?_;refine W_add rfl rfl Ea ?_);exact AA ⟨rfl,rfl,rfl⟩))<;>(apply D_R rfl rfl;(intro W c;(refine AK rfl ?_;refine Bt rfl rfl U U ?_);exact AA ⟨rfl,rfl,rfl⟩))<;>(refine D_R rfl rfl (fun W c=>AK rfl (AB rfl dz)) ?_)<;>(refine D_R rfl rfl (fun W c=>AK rfl (AH rfl (a9 W c) dz)) ?_)<;>(refine D_R rfl rfl (fun W c=>AK rfl (AX rfl dz)) ?_)<;>(refine D_R rfl rfl (fun W c=>AK rfl (AG rfl dz)) ?_)<;>(refine D_R rfl rfl (fun W c=>AK rfl (AB rfl dz)) ?_)<;>(refine D_R rfl rfl (fun W c=>AK rfl (AH rfl (b0 W c) dz)) ?_)<;>(refine D_sneq rfl rfl rfl rfl (fun T=>?_) (fun T=>?_))<;>(refine D_R rfl rfl (fun W c=>Ad rfl (AE rfl dz)) ?_)<;>refine Bc ?_)
    ·have A:ce=true:=by rw[<-a5,I];simp;exact .inr ER
     exact Gf
    ·have A:ce=false:=by rw[<-a5,I];simp[a2];assumption
     exact Gf
  rintro _ w10 f6 c7;have c5:=f0.ext c7;have c8:=c9.ext c7;have e6:okRq r=true:=by simp[okRq,a3,hrok]
  have d2:s.reqs.take (k+1)=s.reqs.take k++[r]:=by rw[List.take_add_one,G];rfl
  have b8:(s.reqs.take (k+1)).all okRq=true:=by rw[d2,List.all_append,z];simp[e6]
  have e4:(if k=0\/(s.reqs[k-1]?).map (·.part)≠some r.part then[112,97,114,116,32]++(r.part++[32,123,10])else[]:LU)=ot:=by
   rw[<-hot,<-R];simp only[decide_eq_true_eq]
  have c2:tt++(List.range (k+1)).flatMap (rqI s.reqs)=ut++ot++[[32,32]].flatten++reqT r++[[59,10]].flatten++(if ce then[125,10]else[]):=by
   rw[List.range_succ,List.flatMap_append,<-List.append_assoc,c4]
   have e:rqI s.reqs k=ot++([32,32]++(reqT r++([59,10]++(if ce then[125,10]else[])))):=by
    unfold rqI;rw[G];simp only;rw[e4,<-a5];simp only[decide_eq_true_eq]
   simp[e]
  cases ce with
  |true=>
   refine go ?_;refine AP (out:=[AL [125,10]]) rfl U EO (fun w11 n11=>?_);refine AF (De (parts:=[[125,10]]) c5 n11 O EP) rfl ?_;rintro _ f5⟨d0,e8,k12⟩;refine go ?_
   have b3:WrB f5 p d0 (tt++(List.range (k+1)).flatMap (rqI s.reqs)):=by
    rw[c2,if_pos rfl];simpa using e8
   refine go ?_;refine⟨(k+1,d0),⟨rfl,⟨rfl,rfl,rfl,rfl,?_,trivial⟩,⟨B,b8,b3,(c8.trans k12)⟩⟩,by simp only;omega⟩;show iV ((k:Int)+1)=_;rw[Int.natCast_add];rfl
  |false=>
   refine go ?_
   have b3:WrB w10 p v9 (tt++(List.range (k+1)).flatMap (rqI s.reqs)):=by
    rw[c2,if_neg O];simpa using c5
   refine go ?_;refine⟨(k+1,v9),⟨rfl,⟨rfl,rfl,rfl,rfl,?_,trivial⟩,⟨B,b8,b3,c8⟩⟩,by simp only;omega⟩;show iV ((k:Int)+1)=_;rw[Int.natCast_add];rfl
 ·refine go ?_;have e:k=s.reqs.length:=by omega
  subst e;rw[List.take_length]at z;refine A1 rfl ⟨by simp[DB,b9,z],v2,?_,F⟩;have e:t++spcT s=tt++(List.range s.reqs.length).flatMap (rqI s.reqs):=by rw[<-c3];simp[spcT,rqsT]
  rw[e];exact V
def blankB(r:Rqm):Bool:=r.part.isEmpty&&decide (r.kind=0)&&decide (r.formula.op=0)&&r.formula.name.isEmpty&&decide (r.formula.val=0)&&decide (r.formula.bound=0)&&r.formula.args.isEmpty
def okE(e:Edt):Bool:=if e.kind=2 then blankB e.req&&BH e.req.name else(decide (e.kind=1)||decide (e.kind=3))&&BH e.req.part&&okR e.req
section
attribute [local semireducible] WC AT B6 BK Bz Cx DZ By
variable {P:Program}{all:Array Oper}{Z:Fr->DS->List PanicEntry->World->Prop}{K:Fr->DS->World->Prop}{rest:List Oper}{f:Fr}{ds:DS}{w:World}{d:Nat}{ty:TypeId}{pos:String}{af:Array Edge}
theorem W_someneq{z c M:TypeId}{H:Value}{x:Operand}[hT:IfT P z](V:ev f x=.iface M H)(h:AT P all Z K rest (upd f d (.bool true)) ds w):
  AT P all Z K (⟨some d,.binOp .neq z x (.const .nilIface) c,ty,pos,af,none⟩::rest) f ds w:=by
 obtain⟨e,a⟩:=hT.out;refine A0 rfl ?_ h
 have b:(Op.equalIn Op.maxDepth z (.iface M H) .nilIface).run P w=.ok false w:=by
  rw[show Op.maxDepth=9999+1 from rfl];generalize 9999=n;unfold Op.equalIn;simp[run_underlying a]
 have E:ev f (.const .nilIface)=.nilIface:=rfl;simp[execOp,V,E,eqGuard,binOp,Op.equal,b]
end
instance :IfT Zp 20:=⟨_,Tryz.underlying20⟩
theorem trecRet(w:World)(c:Nat):CallsDIn Fence.wide 0 Zp 84 ([]++[pt c]:LV).toArray .returning w (fun e a w'=>match e with| .returned _=>a=.returning/\w'=w|_=>False):=by
 refine Dr (u1:=.returning) (v0:=.nilIface) (G:=fun _ w'=>w'=w) (args:=[pt c]) Tryz.func84 rfl Tryz.ntmps84 O ET EO EO (.inl ⟨rfl,rfl,rfl⟩) ?_;refine W_nilneq rfl (go ?_);exact A1 rfl rfl
theorem trecPan(w:World)(c:Nat)(x:Value)(d:Blk w c 9 [x]):CallsDIn Fence.wide 0 Zp 84 ([]++[pt c]:LV).toArray (.panicking [{v:=.iface 229 (.agg #[]),recovered:=false}]) w
   (fun B a w'=>match B with| .returned _=>a=.panicking [{v:=.iface 229 (.agg #[]),recovered:=true}]/\(Keep [c] w w'/\Blk w' c 9 [AL []])|_=>False):=by
 refine Dr (u1:=.panicking [{v:=.iface 229 (.agg #[]),recovered:=true}]) (v0:=.iface 229 (.agg #[])) (G:=fun _ w'=>Keep [c] w w'/\Blk w' c 9 [AL []]) (args:=[pt c]) Tryz.func84 rfl Tryz.ntmps84 O ET EO EO (.inr ⟨_,rfl,rfl,rfl⟩) ?_;refine W_someneq rfl ?_;repeat refine nx rfl ?_
 refine AJ ?_;refine AU rfl rfl rfl d O (fun N b=>?_);repeat refine nx rfl ?_
 exact A1 rfl ⟨b.E,b.D⟩
theorem text_ok(w:World)(g c:Nat)[hg:AM Zp g](s:LU)(ok:Bool)(F:ok=true->s.length<=1000000000)(M:10<=w.heap.size)
  (T:∀Q p,Ext w Q->w.heap.size<p->WrB Q p (.slice none 0 0) []->FnP Zp g [pt p,pt c] Q (fun _ w'=>WAns p (.slice none 0 0) [] s ok Q w') (WPan p (.slice none 0 0) ok Q)):
  Fn Zp 30 [.func (.func g) #[] #[pt c]] w (fun v w'=>v=AL (if ok then s else[])/\Ext w w'):=by
 refine DC Tryz.func30 rfl Tryz.ntmps30 nlr EO (go ?_);refine AY (fun Q A=>?_);have z1:=A.size;have n:Blk Q w.heap.size 9 [AL []]:=A.D;refine go ?_;refine W_defer (v1:=[]) (v2:=[pt w.heap.size]) (vs:=[]) rfl rfl (go ?_);refine A3 (L:=[.pointer none,.slice none 0 0]) rfl (fun N W=>?_);have z2:=W.size;have j:Blk N Q.heap.size 139 [.pointer none,.slice none 0 0]:=W.D;refine go ?_;have e:Ext w N:=A.E.trans W.E;have u:WrB N Q.heap.size (.slice none 0 0) []:=⟨⟨none,.inl rfl,j⟩,⟨by simp[DY],.inl ⟨rfl,rfl⟩⟩,.inl rfl⟩;have H:∀{X:List Nat}{a b:World},Keep X a b->True:=fun _=>trivial;clear H;have B:=n.E W.E O;refine go ?_;refine Cs (v1:=[]) (v2:=[pt c]) (vs:=[pt Q.heap.size]) rfl (T N Q.heap.size e U u) rfl ?_ ?_;rotate_left
 ·rintro G l⟨rfl,S,k,i⟩;refine go ?_;have z:=B.E i.E (by simp[Value.ownBlock];omega);refine finD_pan_def (a:=[]) (c:=[pt w.heap.size]) (trecPan l _ _ z) fun C r=>?_;obtain⟨h,t⟩:=r;refine A7 rfl (t.cell rfl) ?_;refine⟨by rw[S];rfl,(e.E i.E ?_).E h O⟩;intro x V;simp[Value.ownBlock]at V;omega
 rintro _ l⟨S,k,m,i⟩;refine go ?_;have z:=B.E i.E (by simp[Value.ownBlock];omega);refine go ?_;refine AF (bstring_ok l Q.heap.size k _ m (by simp;have:=F S;omega)) rfl ?_;rintro _ C⟨rfl,h⟩;have I:∀y,k.ownBlock=some y->Q.heap.size<y:=fun y E=>(m.ge E).1;have t:=z.E h (fun V=>by have:=I _ (Option.mem_toList.1 V);omega);refine AU rfl rfl rfl t O (fun D q=>go ?_);refine finD_ret_def (a:=[]) (c:=[pt w.heap.size]) (trecRet D _) fun R o=>?_;subst o;refine A7 rfl (q.D.cell rfl) ?_;refine⟨by rw[S];rfl,((e.E i.E ?_).E h ?_).E q.E O⟩
 ·intro x V;simp[Value.ownBlock]at V;omega
 ·intro x V;have:=I x (Option.mem_toList.1 V);omega
theorem wf_ans{w:World}{p b o:Nat}{v:Value}{t:LU}{f:Fml}(e:WrB w p v t)(a:PF (fun b=>b<p) w b o f)(X:GP w)(y:10<=p)(g:szF f<=1000000)(c:t.length<=1000000000):
  FnP Zp 43 [pt p,.pointer (some ⟨b,o,none⟩)] w (fun _ w'=>WAns p v t (prF 0 f) (okF f) w w') (WPan p v (okF f) w):=wformula_ok w p b o v t f e a X y g c
theorem print_F(w:World)(x:Fml)(c:LV)(V:(fmlR).fits Af w c x)(X:GP w)(o:szF x<=1000000)(q:10<=w.heap.size)(i:(okF x)=true->(prF 0 x).length<=1000000000):
  Fn Zp 13 [.agg c.toArray] w (fun v w'=>v=AL (if okF x then prF 0 x else[])/\Ext w w'):=by
 refine AN Tryz.func13 rfl Tryz.ntmps13 (go ?_);refine A3 (L:=c) rfl (fun Q A=>go ?_);have m:=A.size;have a:=A.E;have N:=(fmlR).ext ((fmlR).lt V) a;have n:=A.D;refine go ?_;refine AF (text_ok Q 42 w.heap.size (prF 0 x) (okF x) i U ?_) rfl ?_
 ·intro k p e y j;have g:=(X.ext a).ext e;have h:10<=p:=by omega
  refine Az Tryz.func42 rfl Tryz.ntmps42 nlr EO (go ?_);refine Ag (wf_ans j ⟨by omega,c,N.1,(A.D.E e O).cells,(N.2.ext e).mono fun b S=>Nat.lt_trans S.2 U⟩ g h o O) rfl ?_ ?_;rotate_left
  ·rintro l z R;refine go ?_;exact Ab R
  rintro _ z R;refine go ?_;exact A1 rfl R
 rintro _ k⟨rfl,e⟩;refine go ?_;exact AC rfl ⟨rfl,a.trans e⟩
theorem print_S(w:World)(x:Spc)(c:LV)(V:(spcR).fits Af w c x)(X:GP w)(o:szS x<=1000000)(q:10<=w.heap.size)(i:(DB x)=true->(spcT x).length<=1000000000):
  Fn Zp 8 [.agg c.toArray] w (fun v w'=>v=AL (if DB x then spcT x else[])/\Ext w w'):=by
 refine AN Tryz.func8 rfl Tryz.ntmps8 (go ?_);refine A3 (L:=c) rfl (fun Q A=>go ?_);have m:=A.size;have a:=A.E;have k:=(spcR).ext ((spcR).lt V) a;have n:=A.D;refine go ?_;refine AF (text_ok Q 31 w.heap.size (spcT x) (DB x) i U ?_) rfl ?_
 ·intro N p e y j;have g:=(X.ext a).ext e;have h:10<=p:=by omega
  refine Az Tryz.func31 rfl Tryz.ntmps31 nlr EO (go ?_);refine Ag (wspec_ok N p _ 0 _ [] x j ⟨by omega,c,(A.D.E e O).cells,spcR.mono (spcR.ext k e) fun b S=>Nat.lt_trans S.2 U⟩ g h o O) rfl ?_ ?_;rotate_left
  ·rintro l z R;refine go ?_;exact Ab R
  rintro _ z R;refine go ?_;exact A1 rfl R
 rintro _ N⟨rfl,e⟩;refine go ?_;exact AC rfl ⟨rfl,a.trans e⟩


section
variable {mk:Prop}[MK mk]
def tkn(b:BT):Tok:=⟨b.1,b.2,0⟩
abbrev BG(f:List BT):List Tok:=f.map tkn
theorem toks_bare(f:List BT):(BG f).map bare=f:=by
 rw[BG,List.map_map,show(bare∘tkn)=id from rfl,List.map_id]
def stopB(n:Nat)(b:BT):Bool:= !A4 [61] (some b)&& !A4 [33,61] (some b)&&(decide (4<=n)||((infixT.lookup b.2).isNone&&(decide (3<=n)||(!A4 [38] (some b)&&(decide (2<=n)||(!A4 [124] (some b)&&(decide (1<=n)|| !A4 [45,62] (some b))))))))
def StopL(n:Nat)(r:List Tok):Prop:=∀x,r.head?=some x->stopB n (bare x)=true
theorem StopL.nil(n:Nat):StopL n []:=fun x h=>by cases h
theorem StopL.cons{n:Nat}{x:Tok}{r:List Tok}(h:stopB n (bare x)=true):StopL n (x::r):=fun y E=>by cases E;exact h
theorem StopL.mono{n m:Nat}(Q:n<=m){r:List Tok}(h:StopL n r):StopL m r:=by
 intro x V;have:=h x V;simp only[stopB,Bool.and_eq_true,Bool.or_eq_true,decide_eq_true_eq]at this⊢;obtain⟨Z,W⟩:=this;refine⟨Z,?_⟩;rcases W with W|⟨W,R⟩
 ·left;omega
 ·right;refine⟨W,?_⟩;rcases R with R|⟨R,B⟩
  ·left;omega
  ·right;refine⟨R,?_⟩;rcases B with B|⟨B,d⟩
   ·left;omega
   ·right;refine⟨B,?_⟩;rcases d with d|d
    ·left;omega
    ·right;exact d
theorem sees_of{s:LU}{r:List Tok}(h:∀x,r.head?=some x->A4 s (some (bare x))=false):A4 s (r.head?.map bare)=false:=by
 cases hr:r.head? with
 |none=>rfl
 |some x=>exact h x hr
section
variable {n:Nat}{r:List Tok}(h:StopL n r)
include h
theorem StopL.eq:A4 [61] (r.head?.map bare)=false:=sees_of fun x V=>by
 have:=h x V;simp only[stopB,Bool.and_eq_true,Bool.not_eq_true']at this;exact this.1.1
theorem StopL.ne:A4 [33,61] (r.head?.map bare)=false:=sees_of fun x V=>by
 have:=h x V;simp only[stopB,Bool.and_eq_true,Bool.not_eq_true']at this;exact this.1.2
theorem StopL.inf(I:n<=3):∀x,r.head?=some x->infixT.lookup x.text=none:=fun x V=>by
 have:=h x V;simp only[stopB,Bool.and_eq_true,Bool.or_eq_true,decide_eq_true_eq,Option.isNone_iff_eq_none]at this;rcases this.2 with W|⟨W,_⟩
 ·omega
 ·exact W
theorem StopL.and(I:n<=2):A4 [38] (r.head?.map bare)=false:=sees_of fun x V=>by
 have:=h x V;simp only[stopB,Bool.and_eq_true,Bool.or_eq_true,decide_eq_true_eq,Bool.not_eq_true']at this;rcases this.2 with W|⟨W,R|⟨R,_⟩⟩
 ·omega
 ·omega
 ·exact R
theorem StopL.or(I:n<=1):A4 [124] (r.head?.map bare)=false:=sees_of fun x V=>by
 have:=h x V;simp only[stopB,Bool.and_eq_true,Bool.or_eq_true,decide_eq_true_eq,Bool.not_eq_true']at this;rcases this.2 with W|⟨W,R|⟨R,B|⟨B,_⟩⟩⟩
 ·omega
 ·omega
 ·omega
 ·exact B
theorem StopL.imp(I:n=0):A4 [45,62] (r.head?.map bare)=false:=sees_of fun x V=>by
 have:=h x V;simp only[stopB,Bool.and_eq_true,Bool.or_eq_true,decide_eq_true_eq,Bool.not_eq_true']at this;rcases this.2 with W|⟨W,R|⟨R,B|⟨B,d|d⟩⟩⟩
 ·omega
 ·omega
 ·omega
 ·omega
 ·exact d
end
def RunL:Nat->List Tok->Fml->List Tok->Prop
 |0,l,f,r=>RunN .formula l (.ok (f,r))
 |1,l,f,r=>RunN .orN l (.ok (f,r))
 |2,l,f,r=>RunN .andN l (.ok (f,r))
 |3,l,f,r=>RunN .untilN l (.ok (f,r))
 |_,l,f,r=>RunN .unary l (.ok (f,r))
theorem climb1:∀{n:Nat}{l r:List Tok}{f:Fml},n<=3->RunL (n+1) l f r->StopL n r->RunL n l f r
 |0,_,_,_,_,h,s=>up_imp h (s.imp rfl)
 |1,_,_,_,_,h,s=>up_or h (s.or (Nat.le_refl _))
 |2,_,_,_,_,h,s=>up_and h (s.and (Nat.le_refl _))
 |3,_,_,_,_,h,s=>up_until h (s.inf (Nat.le_refl _))
 |n+4,_,_,_,hn,_,_=>by omega
theorem climb:∀(d n:Nat){l r:List Tok}{f:Fml},n+d<=4->RunL (n+d) l f r->StopL n r->RunL n l f r
 |0,_,_,_,_,_,h,_=>h
 |d+1,n,l,r,f,hd,h,s=>climb1 U (climb d (n+1) U (by rw[show n+1+d=n+(d+1) by omega];exact h) (s.mono U)) s
theorem ix0{o:Opr}(r:List Tok)(h:o.indexed=0):Run (Dy o) r (.ok (none,r)):=by
 unfold Dy;rw[if_pos h];exact Run.ret _ _
theorem ixNo{o:Opr}{r:List Tok}(h:A4 [91] (r.head?.map bare)=false):Run (Dy o) r (.ok (none,r)):=by
 unfold Dy
 split
 ·exact Run.ret _ _
 ·exact Dg h (Run.ret _ _)
theorem ixYes{o:Opr}{v:Int}{r:List Tok}(h:o.indexed≠0)(p:0<=v):Run (Dy o) (tkn (3,[91])::tkn (2,Ci v)::tkn (3,[93])::r) (.ok (some v,r)):=by
 unfold Dy;rw[if_neg h];have e:EL (tkn (2,Ci v)).text=v:=numOf_numT p;have:=run_number (q:=fun n=>(CZ [93]).bind fun _=>.ret (some n)) (x:=tkn (2,Ci v)) (l:=tkn (3,[93])::r) rfl (Cy rfl (Run.ret _ _));rw[e]at this;exact run_yes rfl this
theorem un_bin{l e F r:List Tok}{m:Tok}{o:Opr}{n:Option Int}{f g:Fml}(Z:RunN .unary l (.ok (f,m::e)))(w:infixT.lookup m.text=some o)(H:Run (Dy o) e (.ok (n,F)))(W:RunN .untilN F (.ok (g,r))):
  RunN .untilN l (.ok (⟨o.op,[],n.getD o.val,0,[f,g]⟩,r)):=
 Run.call Z (run_take w (H.bind (Run.call W (Run.ret _ _))))
theorem un_pre{e F r:List Tok}{m:Tok}{o:Opr}{n:Option Int}{g:Fml}(w:prefixT.lookup m.text=some o)(H:Run (Dy o) e (.ok (n,F)))(W:RunN .unary F (.ok (g,r))):
  RunN .unary (m::e) (.ok (match n with|some n=>⟨o.indexed,[],o.val,n,[g]⟩|none=>⟨o.op,[],o.val,0,[g]⟩,r)):=by
 refine run_take w (H.bind (Run.call W ?_));cases n<;>exact Run.ret _ _
theorem lookup_keyS{β:Type}{a:LU}{b:β}:∀{l:List (LU×β)},l.lookup a=some b->a∈l.map (·.1)
 | [],h=>by cases h
 |(k,v)::l,h=>by
  rw[List.lookup_cons]at h;by_cases L:a=k
  ·simp[L]
  ·rw[show(a==k)=false by simpa using L]at h;have:=lookup_keyS (l:=l) h;simp only[List.map_cons,List.mem_cons];exact .inr this
theorem name_pre{k:LU}(h:BH k=true):prefixT.lookup k=none:=by
 cases ho:prefixT.lookup k with
 |none=>rfl
 |some o=>
  have:=lookup_keyS ho;obtain⟨_,_,R,_⟩:=CL h;simp only[prefixT,List.map_cons,List.map_nil,List.mem_cons,List.not_mem_nil,or_false]at this;rcases this with rfl|rfl|rfl|rfl|rfl|rfl|rfl|rfl<;>exact absurd R ET
theorem name_sees{k s:LU}(h:BH k=true)(F:s∈keysL\/A5 (s.getD 0 0)=false):A4 s (some (1,k))=false:=by
 obtain⟨_,_,R,_,d⟩:=CL h
 have:k≠s:=by
  rintro rfl;rcases F with F|F
  ·exact d F
  ·rw[R]at F;cases F
 simp[A4,this]
theorem run_word{w:LU}{r:List Tok}{f:Fml}(y:prefixT.lookup w=none)(h:RunN .primary (tkn (1,w)::r) (.ok (f,r))):RunN .unary (tkn (1,w)::r) (.ok (f,r)):=
 run_take_no (fun z o=>by cases o;exact y) (Run.call h (Run.ret _ _))
theorem run_true(r:List Tok):RunN .unary (tkn (1,[116,114,117,101])::r) (.ok (⟨1,[],0,0,[]⟩,r)):=run_word ET (run_yes rfl (Run.ret _ _))
theorem run_false(r:List Tok):RunN .unary (tkn (1,[102,97,108,115,101])::r) (.ok (⟨2,[],0,0,[]⟩,r)):=run_word ET (Dg rfl (run_yes rfl (Run.ret _ _)))
theorem run_is{k:LU}{v:Int}{r:List Tok}(h:BH k=true)(p:0<=v)(G:StopL 4 r):RunN .unary (BG ((1,k)::if v=1 then[]else[(3,[61]),(2,Ci v)])++r) (.ok (⟨3,k,v,0,[]⟩,r)):=by
 refine run_take_no (fun z o=>by cases o;exact name_pre h) (Run.call (nt:=.primary) (l':=r) (v:=(⟨3,k,v,0,[]⟩:Fml)) ?_ (Run.ret _ _));refine Dg (name_sees h (.inl ET)) (Dg (name_sees h (.inl ET)) (Dg (name_sees h (.inr ET)) ?_));refine run_name (x:=tkn (1,k)) rfl h ?_;by_cases Z:v=1
 ·rw[if_pos Z];subst Z;exact Dg G.eq (Dg G.ne (Run.ret _ _))
 ·rw[if_neg Z];refine run_yes (x:=tkn (3,[61])) rfl ?_;have e:EL (tkn (2,Ci v)).text=v:=numOf_numT p;have:=run_number (q:=fun n=>.ret (isF k n)) (x:=tkn (2,Ci v)) (l:=r) rfl (Run.ret _ _);rw[e]at this;exact this
def RunsF(f:Fml):Prop:=∀(n:Nat)(r:List Tok),n<=4->StopL n r->RunL n (BG (tkF n f)++r) f r
theorem tk_head:∀(m:Nat)(f:Fml)(n:Nat),SizeOf.sizeOf f<=m->okF f=true->∃x t,tkF n f=x::t/\A4 [91] (some x)=false
 |0,f,n,hm,_=>by cases f;simp at hm
 |m+1,.mk op nm v b args,n,hm,hok=>by
  simp only[okF,Bool.and_eq_true]at hok;simp only[tkF];by_cases T:(Br op).level<n
  ·rw[decide_eq_true T];exact⟨_,_,rfl,by decide⟩
  ·rw[decide_eq_false T];show∃x t,tkA _ _ _ _=x::t/\_
   have g:args.length<2->∃x t,sgK op nm v b=x::t/\A4 [91] (some x)=false:=fun W=>by
    obtain⟨q,X,d,L,i,G,j,k,D,o⟩:=node_parts hok.1;rcases op_cases X with rfl|rfl|rfl|rfl|rfl|rfl|rfl|rfl|rfl|rfl|rfl|rfl|rfl|rfl|rfl|rfl|rfl|rfl|rfl
    case inr.inr.inl=>exact⟨_,_,rfl,name_sees (D rfl) (.inr ET)⟩
    case inr.inr.inr.inr.inr.inr.inr.inr.inr.inr.inr.inr.inr.inr.inl=>
     by_cases p:v=0
     ·exact⟨_,_,by simp only[sgK,if_pos p];rfl,by decide⟩
     ·exact⟨_,_,by simp only[sgK,if_neg p];rfl,by decide⟩
    all_goals exact⟨_,_,rfl,by decide⟩
   match args,hok,g with
   | [],_,g=>exact g O
   | [a],_,g=>
    obtain⟨x,t,e,V⟩:=g O;exact⟨x,t++(tkF (Br op).first a++tkR (Br op).next (sgK op nm v b) []),by simp[tkA,e],V⟩
   |a::c::l,hok,_=>
    simp only[okL,Bool.and_eq_true]at hok;obtain⟨x,t,e,V⟩:=tk_head m a (Br op).first (by simp at hm;omega) hok.2.1
    exact⟨x,t++tkR (Br op).next (sgK op nm v b) (c::l),by simp[tkA,e],V⟩
theorem tk_open{f:Fml}(p:okF f=true)(n:Nat)(r:List Tok):A4 [91] ((BG (tkF n f)++r).head?.map bare)=false:=by
 obtain⟨x,t,e,V⟩:=tk_head _ f n (Nat.le_refl _) p;rw[e];exact V
theorem andL_run:∀(l:LF),(∀a∈l,RunsF a)->∀r:List Tok,StopL 2 r->RunN .andL (BG (tkR 3 [(3,[38])] l)++r) (.ok (l,r))/\StopL 3 (BG (tkR 3 [(3,[38])] l)++r)
 | [],_,r,hr=>⟨Dg (hr.and (Nat.le_refl _)) (Run.ret _ _),hr.mono U⟩
 |a::l,hl,r,hr=>by
  obtain⟨Z,W⟩:=andL_run l (fun c T=>hl c Eb) r hr;refine⟨?_,StopL.cons ET⟩;have:=hl a O 3 _ U W;exact GC
theorem orL_run:∀(l:LF),(∀a∈l,RunsF a)->∀r:List Tok,StopL 1 r->RunN .orL (BG (tkR 2 [(3,[124])] l)++r) (.ok (l,r))/\StopL 2 (BG (tkR 2 [(3,[124])] l)++r)
 | [],_,r,hr=>⟨Dg (hr.or (Nat.le_refl _)) (Run.ret _ _),hr.mono U⟩
 |a::l,hl,r,hr=>by
  obtain⟨Z,W⟩:=orL_run l (fun c T=>hl c Eb) r hr;refine⟨?_,StopL.cons ET⟩;have:=hl a O 2 _ U W;exact GC
theorem tkA_one(f n:Nat)(D:List BT)(a:Fml):tkA f n D [a]=D++tkF f a:=by simp[tkA,tkR]
theorem tkA_two(f n:Nat)(D:List BT)(a c:Fml):tkA f n D [a,c]=tkF f a++(D++tkF n c):=by simp[tkA,tkR]
theorem tkA_more(f n:Nat)(D:List BT)(a c:Fml)(l:LF):tkA f n D (a::c::l)=tkF f a++tkR n D (c::l):=by simp[tkA]
theorem BV(x y:List BT)(r:List Tok):BG (x++y)++r=BG x++(BG y++r):=by simp[BG]
theorem one_of{l:LF}(Z:1<=l.length)(W:l.length<=1):∃a,l=[a]:=by
 match l,Z,W with
 | [a],_,_=>exact⟨a,rfl⟩
theorem two_of{l:LF}(Z:2<=l.length)(W:l.length<=2):∃a c,l=[a,c]:=by
 match l,Z,W with
 | [a,c],_,_=>exact⟨a,c,rfl⟩
theorem more_of{l:LF}(Z:2<=l.length):∃a c k,l=a::c::k:=by
 match l,Z with
 |a::c::k,_=>exact⟨a,c,k,rfl⟩
set_option maxHeartbeats 1600000 in
theorem body_run{op v b:Int}{k:LU}{args:LF}(h:DX op k v b args.length=true)(p:okL args=true)(K:∀a∈args,RunsF a){r:List Tok}(G:StopL (min (Br op).level 4) r):
  RunL (min (Br op).level 4) (BG (tkA (Br op).first (Br op).next (sgK op k v b) args)++r) (.mk op k v b args) r:=by
 obtain⟨s,X,g,L,V,m,j,t,q,f⟩:=node_parts h;rcases op_cases X with rfl|rfl|rfl|rfl|rfl|rfl|rfl|rfl|rfl|rfl|rfl|rfl|rfl|rfl|rfl|rfl|rfl|rfl|rfl<;>simp[Cb,styL,List.lookup]at X<;>subst X<;>simp only at g L m t
 ·obtain rfl:=List.length_eq_zero_iff.1 (Nat.le_zero.1 L);obtain rfl:=f ET;obtain rfl:v=0:=by omega
  obtain rfl:b=0:=by omega
  exact run_true r
 ·obtain rfl:=List.length_eq_zero_iff.1 (Nat.le_zero.1 L);obtain rfl:=f ET;obtain rfl:v=0:=by omega
  obtain rfl:b=0:=by omega
  exact run_false r
 ·obtain rfl:=List.length_eq_zero_iff.1 (Nat.le_zero.1 L);obtain rfl:b=0:=by omega
  exact run_is (q rfl) V G
 ·obtain rfl:v=0:=by omega
  obtain rfl:b=0:=by omega
  obtain⟨a,rfl⟩:=one_of g L;obtain rfl:=f ET;rw[tkA_one,BV];have D:=K a O 4 r U (G.mono ET);have e:okF a=true:=CT p a O;exact un_pre (o:=⟨4,0,0⟩) (n:=none) rfl (ix0 _ rfl) D
 ·obtain⟨a,c,l,rfl⟩:=more_of g;obtain rfl:=f ET;obtain rfl:v=0:=by omega
  obtain rfl:b=0:=by omega
  rw[tkA_more,BV];obtain⟨Z,W⟩:=andL_run (c::l) (fun d C=>K d (by simp at C;simp[C])) r G;have D:=K a O 3 _ U W;exact Run.call D (Run.call Z (Run.ret _ _))
 ·obtain⟨a,c,l,rfl⟩:=more_of g;obtain rfl:=f ET;obtain rfl:v=0:=by omega
  obtain rfl:b=0:=by omega
  rw[tkA_more,BV];obtain⟨Z,W⟩:=orL_run (c::l) (fun d C=>K d (by simp at C;simp[C])) r G;have D:=K a O 2 _ U W;exact Run.call D (Run.call Z (Run.ret _ _))
 ·obtain⟨a,c,rfl⟩:=two_of g L;obtain rfl:=f ET;obtain rfl:v=0:=by omega
  obtain rfl:b=0:=by omega
  have T:=K c O 0 r U G;rw[tkA_two,BV,BV];have D:=K a O 1 (tkn (3,[45,62])::(BG (tkF 0 c)++r)) U (StopL.cons ET);exact Run.call D (run_yes rfl (Run.call T (Run.ret _ _)))
 ·obtain rfl:v=0:=by omega
  obtain rfl:b=0:=by omega
  obtain⟨a,rfl⟩:=one_of g L;obtain rfl:=f ET;rw[tkA_one,BV];have D:=K a O 4 r U (G.mono ET);have e:okF a=true:=CT p a O;exact un_pre (o:=⟨8,0,0⟩) (n:=none) rfl (ix0 _ rfl) D
 ·obtain⟨a,c,rfl⟩:=two_of g L;obtain rfl:=f ET;obtain rfl:v=0:=by omega
  obtain rfl:b=0:=by omega
  have T:=K c O 3 r U (G.mono ET);have e:okF c=true:=CT p c O;rw[tkA_two,BV,BV];exact un_bin (K a O 4 _ U (StopL.cons (x:=tkn (1,[85])) ET)) rfl (ix0 (o:=⟨9,0,0⟩) _ rfl) T
 ·obtain⟨a,c,rfl⟩:=two_of g L;obtain rfl:=f ET;obtain rfl:v=0:=by omega
  obtain rfl:b=0:=by omega
  have T:=K c O 3 r U (G.mono ET);have e:okF c=true:=CT p c O;rw[tkA_two,BV,BV];exact un_bin (K a O 4 _ U (StopL.cons (x:=tkn (1,[82])) ET)) rfl (ix0 (o:=⟨10,0,0⟩) _ rfl) T
 ·obtain rfl:v=0:=by omega
  obtain rfl:b=0:=by omega
  obtain⟨a,rfl⟩:=one_of g L;obtain rfl:=f ET;rw[tkA_one,BV];have D:=K a O 4 r U (G.mono ET);have e:okF a=true:=CT p a O;exact un_pre (o:=⟨11,13,0⟩) (n:=none) rfl (ixNo (tk_open e 4 r)) D
 ·obtain rfl:v=0:=by omega
  obtain rfl:b=0:=by omega
  obtain⟨a,rfl⟩:=one_of g L;obtain rfl:=f ET;rw[tkA_one,BV];have D:=K a O 4 r U (G.mono ET);have e:okF a=true:=CT p a O;exact un_pre (o:=⟨12,14,0⟩) (n:=none) rfl (ixNo (tk_open e 4 r)) D
 ·obtain rfl:v=0:=by omega
  obtain⟨a,rfl⟩:=one_of g L;obtain rfl:=f ET;rw[tkA_one,BV];have D:=K a O 4 r U (G.mono ET);have e:okF a=true:=CT p a O;exact un_pre (o:=⟨11,13,0⟩) (n:=some b) rfl (ixYes ET j) D
 ·obtain rfl:v=0:=by omega
  obtain⟨a,rfl⟩:=one_of g L;obtain rfl:=f ET;rw[tkA_one,BV];have D:=K a O 4 r U (G.mono ET);have e:okF a=true:=CT p a O;exact un_pre (o:=⟨12,14,0⟩) (n:=some b) rfl (ixYes ET j) D
 ·obtain rfl:b=0:=by omega
  rcases(show v=0\/v=1 by omega)with rfl|rfl
  ·obtain⟨a,rfl⟩:=one_of g L;obtain rfl:=f ET;rw[tkA_one,BV];have D:=K a O 4 r U (G.mono ET);have e:okF a=true:=CT p a O;exact un_pre (o:=⟨15,0,0⟩) (n:=none) rfl (ix0 _ rfl) D
  ·obtain⟨a,rfl⟩:=one_of g L;obtain rfl:=f ET;rw[tkA_one,BV];have D:=K a O 4 r U (G.mono ET);have e:okF a=true:=CT p a O;exact un_pre (o:=⟨15,0,1⟩) (n:=none) rfl (ix0 _ rfl) D
 ·obtain⟨a,c,rfl⟩:=two_of g L;obtain rfl:=f ET;obtain rfl:b=0:=by omega
  by_cases i:v=0
  ·subst i;have T:=K c O 3 r U (G.mono ET);have e:okF c=true:=CT p c O;rw[tkA_two,BV,BV];exact un_bin (K a O 4 _ U (StopL.cons (x:=tkn (1,[83])) ET)) rfl (ixNo (o:=⟨16,16,0⟩) (tk_open e 3 r)) T
  ·simp only[sgK,if_neg i];have T:=K c O 3 r U (G.mono ET);have e:okF c=true:=CT p c O;rw[tkA_two,BV,BV];exact un_bin (K a O 4 _ U (StopL.cons (x:=tkn (1,[83])) ET)) rfl (ixYes (o:=⟨16,16,0⟩) ET V) T
 ·obtain⟨a,c,rfl⟩:=two_of g L;obtain rfl:=f ET;obtain rfl:b=0:=by omega
  by_cases i:v=1
  ·subst i;have T:=K c O 3 r U (G.mono ET);have e:okF c=true:=CT p c O;rw[tkA_two,BV,BV];exact un_bin (K a O 4 _ U (StopL.cons (x:=tkn (1,[84])) ET)) rfl (ixNo (o:=⟨17,17,1⟩) (tk_open e 3 r)) T
  ·simp only[sgK,if_neg i];have T:=K c O 3 r U (G.mono ET);have e:okF c=true:=CT p c O;rw[tkA_two,BV,BV];exact un_bin (K a O 4 _ U (StopL.cons (x:=tkn (1,[84])) ET)) rfl (ixYes (o:=⟨17,17,1⟩) ET V) T
 ·obtain rfl:v=0:=by omega
  obtain rfl:b=0:=by omega
  obtain⟨a,rfl⟩:=one_of g L;obtain rfl:=f ET;rw[tkA_one,BV];have D:=K a O 4 r U (G.mono ET);have e:okF a=true:=CT p a O;exact un_pre (o:=⟨18,0,0⟩) (n:=none) rfl (ix0 _ rfl) D
 ·obtain rfl:v=0:=by omega
  obtain rfl:b=0:=by omega
  obtain⟨a,rfl⟩:=one_of g L;obtain rfl:=f ET;rw[tkA_one,BV];have D:=K a O 4 r U (G.mono ET);have e:okF a=true:=CT p a O;exact un_pre (o:=⟨19,0,0⟩) (n:=none) rfl (ix0 _ rfl) D
theorem runsF:∀(m:Nat)(f:Fml),SizeOf.sizeOf f<=m->okF f=true->RunsF f
 |0,f,hm,_=>by cases f;simp at hm
 |m+1,.mk op nm v b args,hm,hok=>by
  simp only[okF,Bool.and_eq_true]at hok;have K:∀a∈args,RunsF a:=fun a D=>runsF m a (by have:=List.sizeOf_lt_of_mem D;simp at hm;omega) (CT hok.2 a D);intro n r I G;simp only[tkF];by_cases T:(Br op).level<n
  ·rw[decide_eq_true T];have t:=body_run hok.1 hok.2 K (StopL.nil _);have Z:=climb (min (Br op).level 4) 0 U (by rw[Nat.zero_add];exact t) (StopL.nil 0);have W:RunN .unary _ _:=paren (x:=tkn (3,[40])) (y:=tkn (3,[41])) r rfl rfl Z;have e:BG (wrapK true (tkA (Br op).first (Br op).next (sgK op nm v b) args))++r=tkn (3,[40])::(BG (tkA (Br op).first (Br op).next (sgK op nm v b) args)++[]++tkn (3,[41])::r):=by simp[BG,wrapK]
   rw[e];refine climb (4-n) n U ?_ G;rw[show n+(4-n)=4 by omega];exact W
  ·rw[decide_eq_false T];have t:=body_run hok.1 hok.2 K (r:=r) (G.mono U);refine climb (min (Br op).level 4-n) n U ?_ G;rw[show n+(min (Br op).level 4-n)=min (Br op).level 4 by omega];exact t
theorem tk_run{f:Fml}(p:okF f=true):RunN .formula (BG (tkF 0 f)) (.ok (f,[])):=by
 have:=runsF _ f (Nat.le_refl _) p 0 [] U (StopL.nil 0);rw[List.append_nil]at this;exact this
end



theorem capped_ok:∀(N:Nat)(f:Fml),szF f<=N->∀(w:World)(v:Value)(l:Nat),l<=1000000->FAt Af w v f->Fn Zp 129 [v,iV (l:Int)] w fun u w'=>u=iV ((min (szF f) (l+1):Nat):Int)/\Ext w w':=by
 intro N
 induction N with
 |zero=>intro f y;have:=C1 f;omega
 |succ N ih=>
 intro f y w v l hl P;obtain⟨C,rfl,L,j,E⟩:=P.form;obtain⟨a,c,rfl,g⟩:=id j;have T:f.args.length<=9223372036854775807:=by obtain⟨R,h,_⟩:=g;omega
 have a2:=BL f;refine AN Tryz.func129 rfl Tryz.ntmps129 (go ?_);refine A3 (L:=fcC f (.slice a f.args.length c)) rfl (fun Q A=>?_);have q:=A.D;have Z:=A.E;have s:Q.cell? ⟨w.heap.size,0+4,none⟩=some (.slice a f.args.length c):=q.cell rfl;refine go ?_;refine Ar (α:=Nat) (fun k=>[(1,iV (l:Int)),(2,pt w.heap.size),(5,iV ((min (1+szL (f.args.take k)) (l+1):Nat):Int)),(6,iV (k:Int))]) (fun k W=>k<=f.args.length/\Ext Q W) (fun k=>f.args.length-k) 0 ⟨rfl,rfl,congrArg (Value.int .i64) (by simp[szL];try omega),rfl,trivial⟩ ⟨by simp,Ext.refl _⟩ ?_;rintro k p K⟨X,d⟩;have H:=d.cell s O;have B:=Z.trans d
 have a3:szL (f.args.take k)<=szL f.args:=by
  have:∀l m:LF,szL (l++m)=szL l+szL m:=by
   intro l
   induction l with
   |nil=>intro m;simp[szL]
   |cons a l ih2=>intro m;simp only[List.cons_append,szL,ih2 m];omega
  have h:=this (f.args.take k) (f.args.drop k);rw[List.take_append_drop]at h;omega
 refine go ?_;generalize I:min (1+szL (f.args.take k)) (l+1)=n;by_cases b:k<f.args.length
 ·by_cases a1:n<=l
  ·refine go ?_;obtain⟨x,V⟩:∃x,f.args[k]?=some x:=⟨_,List.getElem?_eq_getElem b⟩;obtain⟨o,S⟩:∃o,L[k]?=some o:=⟨_,List.getElem?_eq_getElem (by rw[E.1];exact b)⟩;obtain⟨D,oa,rfl,M,F⟩:=j.fml E.2.1 S b;have a4:=Bb (List.mem_of_getElem? V);have t:FAt Af p (.agg o.toArray) x:=(E.2.2 k o x S V).ext B;have r:=F.E B O
   have z:szL (f.args.take (k+1))=szL (f.args.take k)+szF x:=by
    rw[List.take_add_one,V]
    have:∀l:LF,szL (l++[x])=szL l+szF x:=by
     intro l
     induction l with
     |nil=>simp[szL]
     |cons a l ih2=>simp only[List.cons_append,szL,ih2];omega
    exact this _
   refine go ?_;refine AQ (L:=o) rfl (E.2.1 o (List.mem_of_getElem? S)) r (go ?_);have G:(l:Int)-(n:Int)=((l-n:Nat):Int):=by omega
   rw[G];refine AF (ih x U p _ (l-n) U t) rfl ?_;rintro _ w3⟨rfl,i⟩;have a0:min (szF x) (l-n+1)<=l+1:=by omega
   refine go ?_;refine⟨k+1,⟨rfl,⟨rfl,rfl,?_,?_,trivial⟩,⟨b,d.trans i⟩⟩,by omega⟩
   ·refine congrArg (Value.int .i64) ?_;rw[z];show(n:Int)+((min (szF x) (l-n+1):Nat):Int)=_;omega
   ·show iV ((k:Int)+1)=_;rw[Int.natCast_add];rfl
  ·refine go ?_;refine AC rfl ⟨congrArg (Value.int .i64) ?_,B⟩;omega
 ·have e:k=f.args.length:=by omega
  subst e;rw[List.take_length]at I;refine go ?_;refine AC rfl ⟨congrArg (Value.int .i64) ?_,B⟩;omega
theorem rsmall_ok(w:World)(v:Value)(f:Fml)(l:Nat)(K:l<=1000000)(P:FAt Af w v f):Fn Zp 69 [v,iV (l:Int)] w fun u w'=>u=.bool (decide (szF f<=l))/\Ext w w':=by
 obtain⟨W,rfl,L,a,E⟩:=P.form;refine AN Tryz.func69 rfl Tryz.ntmps69 (go ?_);refine A3 (L:=fcC f W) rfl (fun Q A=>?_);have n:=A.D;have Z:=A.E;refine go ?_;refine AF (capped_ok _ f (Nat.le_refl _) Q _ l K (P.ext Z)) rfl ?_;rintro _ N⟨rfl,e⟩;by_cases h:szF f<=l
 ·refine go ?_;exact AC rfl ⟨congrArg Value.bool (by simp[h]),Z.trans e⟩
 ·refine go ?_;exact AC rfl ⟨congrArg Value.bool (by simp[h]),Z.trans e⟩
theorem isL_all(k:LU->Int->Bool):∀l:LF,isL k l=l.all (isB k)
 | []=>rfl
 |a::l=>by rw[isL,isL_all k l];rfl
theorem known_ok(w0:World)(X:Option Addr)(m:Nat)(S:List Sgn)(hS:SlAt sgnR Af w0 (.slice X S.length m) S):∀(n:Nat)(w:World)(b o:Nat)(f:Fml),dpF f<=n->Ext w0 w->PF Af w b o f->Fn Zp 215 [.slice X S.length m,.pointer (some ⟨b,o,none⟩)] w fun u w'=>u=.bool (isB (knS S) f)/\Ext w w':=by
 intro n
 induction n with
 |zero=>intro w b o f I;rw[CX]at I;omega
 |succ n ih=>
 intro w b o f I B hf;rw[CX]at I;have K:=hS.ext B;obtain⟨C,cc,b1,q0,q1,q2,q3,G,qa⟩:=hf.all;obtain⟨Q,x,v,bd,h⟩:=f;simp only[Fml.op,Fml.name,Fml.val,Fml.args]at*
 have a1:∀(k:Nat)(a:Fml),h[k]?=some a->∀W,Ext w W->∃g l,C=some ⟨g,l,none⟩/\Fn Zp 215 [.slice X S.length m,.pointer (some ⟨g,l+k*5,none⟩)] W fun u w'=>u=.bool (isB (knS S) a)/\Ext W w':=fun k a D W H=>by
  obtain⟨g,l,e,hp⟩:=qa k a D;have a6:=List.mem_of_getElem? D;have:=Ce a6;exact⟨g,l,e,ih W g _ a U (B.trans H) (hp.E H (fun _ _=>by simp))⟩
 rw[isB];refine AN Tryz.func215 rfl Tryz.ntmps215 ?_;repeat refine nx rfl ?_
 refine AJ (AO (AE rfl ?_));repeat refine nx rfl ?_
 (refine AJ (AX rfl (AG rfl (AB rfl ?_)))<;>refine AH rfl ER ?_)
 refine W_eqlD rfl rfl ?_;refine AA ?_;refine Q_then ?_;refine CA (α:=Unit) (fun _=>[(0,.slice X S.length m),(1,.pointer (some ⟨b,o,none⟩))]) (fun _ W=>Ext w W/\(if Q=3 then knS S x v else true)=true) ?_ ?_
 ·by_cases R:Q=3
  ·rw[decide_eq_true R];refine go ?_;refine AF (sigFind_ok w _ S x K) rfl ?_;rintro _ w2⟨rfl,rfl⟩;simp only[if_pos R];unfold findM knS;cases hj:S.findIdx? (fun y=>decide (y.name=x))with
   |none=>
    simp only;refine go ?_;refine Ac (rd 0 14 .done) Ap EO (fun N M ed=>⟨Ext N,?_,?_⟩)
    ·exact FQ
    refine go ?_;exact AC rfl ⟨rfl,M⟩
   |some j=>
    have a4:j<S.length:=(List.findIdx?_eq_some_iff_getElem.1 hj).1;obtain⟨s,F⟩:∃s,S[j]?=some s:=⟨_,List.getElem?_eq_getElem a4⟩;obtain⟨_,sb,so,rfl,_,a8⟩:=K.sig F;simp only[F];refine go ?_;refine Ac (rd 0 14 .done) Ap EO (fun N M ed=>⟨Ext N,?_,?_⟩)
    ·exact FQ
    have d:∀V,Ext N V->V.cell? ⟨b,o+2,none⟩=some (iV v):=fun V e=>(M.trans e).cell q2 O;have Z:∀V,Ext N V->V.cell? ⟨sb,so+j*3+2,none⟩=some (iV s.size):=fun V e=>(M.trans e).cell (a8 2 _ rfl) O;by_cases p:v<s.size
    ·((refine D_R rfl rfl (fun W c=>AS rfl dz) ?_)<;>(refine D5 rfl rfl rfl rfl (fun T=>?_) (fun T=>?_)<;>try omega)<;>(refine D_R rfl rfl (fun W c=>AE rfl dz) ?_)<;>(refine D_R rfl rfl (fun W c=>AK rfl (AX rfl dz)) ?_)<;>(refine D_R rfl rfl (fun W c=>AK rfl (AG rfl dz)) ?_)<;>(refine D_R rfl rfl (fun W c=>AK rfl (AB rfl dz)) ?_)<;>(refine D_R rfl rfl (fun W c=>AK rfl (AH rfl (d W c) dz)) ?_)<;>(refine D_R rfl rfl (fun W c=>AK rfl (Ay rfl dz)) ?_)<;>(refine D_R rfl rfl (fun W c=>AK rfl (AS rfl dz)) ?_)<;>(apply D_R rfl rfl;(intro W c;(refine AK rfl ?_;refine CG rfl rfl rfl U ?_);exact AA ⟨rfl,rfl,rfl⟩))<;>(refine D_R rfl rfl (fun W c=>AK rfl (AB rfl dz)) ?_)<;>(refine D_R rfl rfl (fun W c=>AK rfl (AH rfl (Z W c) dz)) ?_)<;>(refine D_geq rfl rfl rfl rfl (fun T=>?_) (fun T=>?_)<;>try omega)<;>(refine D_R rfl rfl (fun W c=>Ad rfl (AE rfl dz)) ?_)<;>refine Bc ?_)
     refine go ?_;exact Aj () ag ⟨M,decide_eq_true p⟩
    ·((refine D_R rfl rfl (fun W c=>AS rfl dz) ?_)<;>(refine D5 rfl rfl rfl rfl (fun T=>?_) (fun T=>?_)<;>try omega)<;>(refine D_R rfl rfl (fun W c=>AE rfl dz) ?_)<;>(refine D_R rfl rfl (fun W c=>AK rfl (AX rfl dz)) ?_)<;>(refine D_R rfl rfl (fun W c=>AK rfl (AG rfl dz)) ?_)<;>(refine D_R rfl rfl (fun W c=>AK rfl (AB rfl dz)) ?_)<;>(refine D_R rfl rfl (fun W c=>AK rfl (AH rfl (d W c) dz)) ?_)<;>(refine D_R rfl rfl (fun W c=>AK rfl (Ay rfl dz)) ?_)<;>(refine D_R rfl rfl (fun W c=>AK rfl (AS rfl dz)) ?_)<;>(apply D_R rfl rfl;(intro W c;(refine AK rfl ?_;refine CG rfl rfl rfl U ?_);exact AA ⟨rfl,rfl,rfl⟩))<;>(refine D_R rfl rfl (fun W c=>AK rfl (AB rfl dz)) ?_)<;>(refine D_R rfl rfl (fun W c=>AK rfl (AH rfl (Z W c) dz)) ?_)<;>(refine D_geq rfl rfl rfl rfl (fun T=>?_) (fun T=>?_)<;>try omega)<;>(refine D_R rfl rfl (fun W c=>Ad rfl (AE rfl dz)) ?_)<;>refine Bc ?_)
     refine go ?_;exact AC rfl ⟨by rw[decide_eq_false p];rfl,M⟩
  ·rw[decide_eq_false R];refine go ?_;exact Aj () ag ⟨Ext.refl _,by rw[if_neg R]⟩
 rintro _ w5 f5⟨t,a7⟩;rw[a7,Bool.true_and,isL_all];have a9:=t.cell G O;clear G;have G:=a9;have a0:∀(k:Nat)(a:Fml),h[k]?=some a->∀W,Ext w5 W->∃g l,C=some ⟨g,l,none⟩/\Fn Zp 215 [.slice X S.length m,.pointer (some ⟨g,l+k*5,none⟩)] W fun u w'=>u=.bool (isB (knS S) a)/\Ext W w':=fun k a D W H=>a1 k a D W (t.trans H);refine go ?_;refine Ar (α:=Nat) (fun k=>[(0,.slice X S.length m),(1,.pointer (some ⟨b,o,none⟩)),(36,iV (h.length:Int)),(37,iV (k:Int))]) (fun k W=>k<=h.length/\Ext w5 W/\∀(i:Nat)(y:Fml),i<k->h[i]?=some y->isB (knS S) y=true) (fun k=>h.length-k) 0 (by repeat (first|exact trivial|refine⟨rfl,?_⟩)) ⟨by omega,Ext.refl _,fun i y P=>by omega⟩ ?_;rintro k W fr⟨b0,q,L⟩;have b2:=q.cell G O;refine go ?_;by_cases a5:k<h.length
 ·refine go ?_;obtain⟨y,E⟩:∃y,h[k]?=some y:=⟨_,List.getElem?_eq_getElem a5⟩;obtain⟨g,l,rfl,a2⟩:=a0 k y E W q;refine go ?_;refine AF a2 rfl ?_;rintro _ w4⟨rfl,k4⟩;have A:=q.trans k4;cases p:isB (knS S) y with
  |true=>
   refine go ?_;refine⟨k+1,⟨rfl,⟨(by repeat (first|exact trivial|refine⟨rfl,?_⟩)),⟨by omega,A,fun i z P r=>?_⟩⟩⟩,by omega⟩;by_cases a3:i=k
   ·subst a3;rw[E]at r;cases r;exact p
   ·exact L i z U r
  |false=>
   refine go ?_;exact AC rfl ⟨congrArg Value.bool (all_stop E p).symm,(t).trans A⟩
 ·refine go ?_;exact AC rfl ⟨congrArg Value.bool (all_done fun i z P r=>L i z U r).symm,(t).trans q⟩
def fitsB(S:List Sgn)(f:Fml):Bool:=Bk S&&(looseP f&&isB (knS S) f)
theorem pfits_ok(w:World)(X:Option Addr)(W:Nat)(S:List Sgn)(b o:Nat)(f:Fml)(l:SlAt sgnR Af w (.slice X S.length W) S)(P:PF Af w b o f)(a:GF w)(H:KY w)(c:10<=w.heap.size):
  Fn Zp 171 [.slice X S.length W,.pointer (some ⟨b,o,none⟩)] w fun u w'=>u=.bool (fitsB S f)/\Ext w w':=by
 refine AN Tryz.func171 rfl Tryz.ntmps171 (go ?_);refine AF (sigValid_ok w _ S l H) rfl ?_;rintro _ d⟨rfl,Z⟩;unfold fitsB;cases Bk S with
 |false=>
  exact Fh
 |true=>
  refine go ?_;refine AF (rloose_ok d b o f (P.E Z (fun _ _=>by simp)) (a.ext Z) (H.E Z O) (Nat.le_trans c Z.size)) rfl ?_;rintro _ N⟨rfl,e⟩;cases looseP f with
  |false=>
   exact F9
  |true=>
   refine go ?_;have Q:=Z.trans e;refine go ?_;refine AF (known_ok N X W S (l.ext Q) (dpF f) N b o f (Nat.le_refl _) (Ext.refl _) (P.E Q (fun _ _=>by simp))) rfl ?_;rintro _ z⟨rfl,i⟩;cases isB (knS S) f with
   |true=>
    refine go ?_;exact AC rfl ⟨rfl,Q.trans i⟩
   |false=>
    refine go ?_;exact AC rfl ⟨rfl,Q.trans i⟩
theorem fits_parts{S:List Sgn}{f:Fml}(h:fitsB S f=true):Bk S=true/\CB f=true/\isB (knS S) f=true:=by
 simp only[fitsB,Bool.and_eq_true]at h;obtain⟨Z,W,R⟩:=h;refine⟨Z,?_,R⟩;unfold looseP at W;rcases Bool.or_eq_true_iff.1 W with h|h
 ·simp only[kernG,Bool.and_eq_true,decide_eq_true_eq]at h;simp only[CB,Bool.and_eq_true,decide_eq_true_eq];exact⟨⟨by omega,by omega⟩,h.2⟩
 ·cases hl:CB f with
  |true=>rfl
  |false=>
   unfold canG at h;rw[hl,if_neg Bool.false_ne_true]at h;exact absurd rfl (of_decide_eq_true h)
def stepG(S:List Sgn)(f:Fml)(x:Int):Fml:=if fitsB S f=true/\0<=x/\x<numLet S then resG (vlS S x) f else Am
theorem Step_ok(w:World)(X:Option Addr)(p:Nat)(S:List Sgn)(v:Value)(f:Fml)(x:Int)(l:SlAt sgnR Af w (.slice X S.length p) S)(P:FAt Af w v f)(G:GF w)(H:KY w)(d:10<=w.heap.size):
  Fn Zp 115 [.slice X S.length p,v,iV x] w fun u w'=>Ext w w'/\FAt (fun b=>w.heap.size<=b/\Unm w' b) w' u (stepG S f x):=by
 obtain⟨c,rfl,D,K⟩:=P.cells;obtain⟨T,V,j,s,Z,rfl⟩:=Ak D;refine AN Tryz.func115 rfl Tryz.ntmps115 (go ?_);refine A3 (L:=[T,V,j,s,Z]) rfl (fun w1 m=>?_);refine AY (L:=zero5) (fun t W=>go ?_);have z1:=m.size;have z2:=W.size;have Q:=m.E.trans W.E;have n:Blk t w.heap.size 37 [T,V,j,s,Z]:=m.D.E W.E O;have b2:=W.D;have M:PF Af t w.heap.size 0 f:=⟨trivial,_,rfl,n.cells,P.ext Q⟩;refine go ?_;refine AF (pfits_ok t X p S w.heap.size 0 f (l.ext Q) M (G.ext Q) (H.E Q O) (Nat.le_trans d Q.size)) rfl ?_;rintro _ w3⟨rfl,e⟩;have I:=Q.trans e;have R:=b2.E e O;unfold stepG;cases hfit:fitsB S f with
 |false=>
  rw[if_neg (fun h=>Bool.false_ne_true h.1)];exact GN
 |true=>
  obtain⟨hv,hl,hk⟩:=fits_parts hfit;by_cases a1:x<0
  ·rw[if_neg (fun h=>by omega)];exact GN
  ·refine go ?_;refine AF (letters_ok w3 _ S (l.ext I) (H.E I O) (Nat.le_trans d I.size)) rfl ?_;rintro _ w4⟨rfl,k⟩;have g:=I.trans k;have a:=R.E k O;by_cases N:x<numLet S
   ·rw[if_pos ⟨rfl,by omega,N⟩];refine go ?_;refine AF (readerOf_ok w4 _ S x (l.ext g) hv U N (H.E g O) (Nat.le_trans d g.size)) rfl ?_;rintro _ w5⟨r,rfl,A,z⟩;have C:=g.trans A;refine AF (resid_ok w5 r S x z w.heap.size 0 f hl hk (M.E ((e.trans k).trans A) (fun _ _=>by simp)) (G.ext C) (H.E C O) (Nat.le_trans d C.size)) rfl ?_;rintro u w6⟨o,F⟩;obtain⟨q,rfl,a0,K⟩:=F.cells;obtain⟨y0,y1,y2,y3,y4,rfl⟩:=Ak a0;have z4:=g.size;have z5:=A.size;have z3:=e.size;have a2:=k.size;refine AI (cs:=[y0,y1,y2,y3,y4]) rfl rfl rfl K ((a.E A O).E o O) EV (fun B i=>go ?_);exact AW rfl rfl rfl i.D.cells ⟨(C.trans o).E i.E EP,(F.unm i.E (fun y E hm=>by rw[List.mem_singleton]at hm;omega)).mono fun y E=>⟨by omega,E.2⟩⟩
   ·rw[if_neg (fun h=>N h.2.2)];refine go ?_;refine AI (cs:=zero5) rfl rfl rfl (AV rfl) a EV (fun B i=>go ?_);exact AW rfl rfl rfl i.D.cells ⟨g.E i.E EP,FAt.leaf _ _ 0 [] 0 0⟩


section
variable {mk:Prop}[MK mk]
open Go.ChangeMaps (setBlock)
attribute [local semireducible] WC AT B6 BK Bz Cx DZ By
variable {P:Program}{all:Array Oper}{Z:Fr->DS->List PanicEntry->World->Prop}{K:Fr->DS->World->Prop}{rest:List Oper}{f:Fr}{ds:DS}{w:World}
 {d:Nat}{ty:TypeId}{pos:String}{af:Array Edge}
theorem W_max{x y:Operand}{a b:Int}{W c:TypeId}(V:ev f x=iV a)(E:ev f y=iV b)(h:AT P all Z K rest (upd f d (iV (max a b))) ds w):
  AT P all Z K (⟨some d,.call ⟨.builtin .max,#[x,y],#[W,c]⟩,ty,pos,af,none⟩::rest) f ds w:=by
 refine A0 rfl ?_ h;simp[execOp,resolve,invoke,builtin,V,E,Builtin.max_,Builtin.max2]
 split<;>omega
theorem W_min{x y:Operand}{a b:Int}{W c:TypeId}(V:ev f x=iV a)(E:ev f y=iV b)(h:AT P all Z K rest (upd f d (iV (min a b))) ds w):
  AT P all Z K (⟨some d,.call ⟨.builtin .min,#[x,y],#[W,c]⟩,ty,pos,af,none⟩::rest) f ds w:=by
 refine A0 rfl ?_ h;simp[execOp,resolve,invoke,builtin,V,E,Builtin.min_,Builtin.min2]
 split<;>omega
end







section
variable {mk:Prop}[MK mk]
end




theorem find_hit{l:List Sgn}{s:LU}{k:Nat}{x:Sgn}(V:l[k]?=some x)(I:x.name=s)(T:∀j y,j<k->l[j]?=some y->y.name≠s):findM l s=(k:Int):=by
 have:l.findIdx? (fun x=>decide (x.name=s))=some k:=by
  rw[List.findIdx?_eq_some_iff_getElem];obtain⟨Z,W⟩:=List.getElem?_eq_some_iff.1 V;refine⟨Z,by simp[W,I],fun j a=>?_⟩;have:=T j l[j] a (List.getElem?_eq_getElem U);simpa using this
 unfold findM;rw[this]
theorem find_miss{l:List Sgn}{s:LU}(T:∀j y,j<l.length->l[j]?=some y->y.name≠s):findM l s= -1:=by
 have:l.findIdx? (fun x=>decide (x.name=s))=none:=by
  rw[List.findIdx?_eq_none_iff];intro x V;obtain⟨i,H⟩:=List.getElem?_of_mem V;simpa using T i x (List.getElem?_eq_some_iff.1 H).1 H
 unfold findM;rw[this]
theorem find_at{l:List Sgn}{s:LU}{k:Nat}(h:findM l s=(k:Int)):∀j y,j<k->l[j]?=some y->y.name≠s:=by
 unfold findM at h;cases hf:l.findIdx? (fun x=>decide (x.name=s))with
 |none=>rw[hf]at h;simp at h
 |some i=>
  rw[hf]at h;simp only at h;obtain rfl:i=k:=by omega
  rw[List.findIdx?_eq_some_iff_getElem]at hf;obtain⟨Z,W,R⟩:=hf;intro j y T E;have:=R j T;rw[(List.getElem?_eq_some_iff.1 E).2]at this;simpa using this
theorem rfind_ok(w:World)(v:Value)(l:List Sgn)(s:LU)(h:SlAt sgnR Af w v l):Fn Zp 131 [v,AL s] w fun v w'=>v=iV (findM l s)/\w'=w:=by
 have t:=h;obtain⟨a,c,rfl,m⟩:=h.len;refine AN Tryz.func131 rfl Tryz.ntmps131 (go ?_);refine Ar (α:=Nat) (fun k=>[(0,.slice a l.length c),(1,AL s),(5,iV (k:Int))]) (fun k W=>k<=l.length/\W=w/\∀j y,j<k->l[j]?=some y->y.name≠s) (fun k=>l.length-k) 0 ag ⟨by omega,rfl,fun j y d=>absurd d U⟩ ?_;rintro k f g⟨L,rfl,d⟩;repeat refine nx rfl ?_
 by_cases x:k<l.length
 ·obtain⟨y,E⟩:∃y,l[k]?=some y:=⟨_,List.getElem?_eq_getElem x⟩;obtain⟨_,b,o,rfl,_,C⟩:=t.sig E;have n:f.cell? ⟨b,o+k*3+0,none⟩=some (AL y.name):=C 0 _ rfl;(refine AJ (AS rfl (Ay rfl (Bi rfl ?_)))<;>(refine C6 rfl rfl (fun T=>?_) (fun T=>?_)<;>try omega))
  repeat refine nx rfl ?_
  by_cases p:y.name=s
  ·(refine AJ (Ay rfl (AS rfl (CG rfl rfl rfl U (AB rfl (AH rfl ER ?_)))))<;>refine BC rfl ?_<;>refine Bg rfl rfl (fun T=>?_) (fun T=>?_)<;>refine AA ?_)
   case refine_2=>exact absurd p ER
   repeat refine nx rfl ?_
   refine AJ (AS rfl (AO (AS rfl ?_)));repeat refine nx rfl ?_
   exact AC rfl ⟨by rw[find_hit E p d];rfl,rfl⟩
  ·(refine AJ (Ay rfl (AS rfl (CG rfl rfl rfl U (AB rfl (AH rfl ER ?_)))))<;>refine BC rfl ?_<;>refine Bg rfl rfl (fun T=>?_) (fun T=>?_)<;>refine AA ?_)
   case refine_1=>exact absurd ER p
   refine go ?_;refine⟨k+1,⟨rfl,⟨rfl,rfl,?_,trivial⟩,⟨by omega,rfl,fun j z i e=>?_⟩⟩,by omega⟩
   ·show iV ((k:Int)+1)=_;rw[Int.natCast_add];rfl
   ·rcases Nat.lt_or_ge j k with h|h
    ·exact d j z h e
    ·obtain rfl:j=k:=by omega
     rw[E]at e;cases e;exact p
 ·obtain rfl:k=l.length:=by omega
  refine go ?_;exact AC rfl ⟨by rw[find_miss d];rfl,rfl⟩
theorem rsvalid_ok(w:World)(v:Value)(l:List Sgn)(h:SlAt sgnR Af w v l):Fn Zp 70 [v] w fun u w'=>u=.bool (Bk l)/\Ext w w':=by
 have t:=h;obtain⟨a,c,rfl,a2⟩:=h.len;refine AN Tryz.func70 rfl Tryz.ntmps70 (go ?_);by_cases F:1<=l.length/\l.length<=6
 case neg=>
  have n:Bk l=false:=by
   simp only[Bk];rw[show(decide (1<=l.length)&&decide (l.length<=6))=false by rw[<-Bool.not_eq_true,Bool.and_eq_true,decide_eq_true_eq,decide_eq_true_eq];exact F];rfl
  rw[n];by_cases h1:1<=l.length
  ·exact Fk
  ·exact Fk
 obtain⟨a0,a1⟩:=F;refine go ?_;refine Ar (α:=Nat) (fun k=>[(0,.slice a l.length c),(3,iV (Bq (l.take k))),(4,iV (k:Int))]) (fun k W=>k<=l.length/\Ext w W/\∀i,i<k->okI l i=true) (fun k=>l.length-k) 0 ag ⟨by omega,Ext.refl _,fun i H=>absurd H U⟩ ?_;rintro k Q f1⟨hk,Z,g⟩;refine go ?_
 have m:=prodS_six (l:=l.take k) (fun i H=>by
  rw[List.length_take]at H;have f:i<k:=by omega
  obtain⟨y,E⟩:∃y,l[i]?=some y:=⟨_,List.getElem?_eq_getElem U⟩;have q:(l.take k)[i]?=some y:=by rw[List.getElem?_take,if_pos f];exact E
  have:=(okI_some E).1 (g i f);refine(okI_some q).2 ⟨this.1,this.2.1,this.2.2.1,fun j z T I=>?_⟩;rw[List.getElem?_take,if_pos U]at I;exact this.2.2.2 j z T I) (Nat.le_refl _) Ex
 rw[List.take_length]at m;by_cases G:k<l.length
 ·refine go ?_;obtain⟨x,V⟩:∃x,l[k]?=some x:=⟨_,List.getElem?_eq_getElem G⟩;obtain⟨_,b,o,rfl,_,C⟩:=t.sig V;have D:∀W,Ext w W->W.cell? ⟨b,o+k*3+0,none⟩=some (AL x.name):=fun W e=>e.cell (C 0 _ rfl) O;have L:∀W,Ext w W->W.cell? ⟨b,o+k*3+2,none⟩=some (iV x.size):=fun W e=>e.cell (C 2 _ rfl) O;have d0:=D Q Z;have d:okI l k=true↔_:=okI_some V;have X:=prodS_take V;have p:okI l k=false->Bk l=false:=valid_false G;refine go ?_;refine AF (refName_ok x.name Q) rfl ?_;rintro _ N⟨rfl,k2⟩;have r:=Z.trans k2;have c0:=D N r;have c2:=L N r;cases hnm:BH x.name with
  |false=>
   have S:=p (by rw[<-Bool.not_eq_true,d];simp[hnm]);exact GY
  |true=>
  refine go ?_;refine AF (rfind_ok N _ l x.name (t.ext r)) rfl ?_;rintro _ N⟨rfl,rfl⟩;by_cases P:findM l x.name=(k:Int)
  case neg=>
   have S:=p (by
    rw[<-Bool.not_eq_true,d];intro M;exact P (find_hit V rfl M.2.2.2))
   exact GY
  rw[P];have R:=find_at P;by_cases s:2<=x.size
  case neg=>
   have S:=p (by rw[<-Bool.not_eq_true,d];simp[s]);exact GY
  by_cases B:x.size<=4
  case neg=>
   have S:=p (by rw[<-Bool.not_eq_true,d];simp[B]);exact GY
  have a3:0<=Bq (l.take k)*x.size/\Bq (l.take k)*x.size<=4096*4:=⟨Int.mul_nonneg U U,Int.mul_le_mul m.2 B U U⟩;refine go ?_;refine⟨k+1,⟨rfl,⟨rfl,?_,?_,trivial⟩,⟨by omega,r,fun i H=>?_⟩⟩,by omega⟩
  ·exact congrArg (Value.int .i64) X.symm
  ·show iV ((k:Int)+1)=_;rw[Int.natCast_add];rfl
  ·by_cases f:i=k
   ·subst f;exact d.2 ⟨hnm,s,B,R⟩
   ·exact g i U
 ·obtain rfl:k=l.length:=by omega
  rw[List.take_length]at m⊢;have K:(List.range l.length).all (okI l)=true:=by rw[List.all_eq_true];intro i H;exact g i (List.mem_range.1 H)
  have n:Bk l=decide (Bq l<=64):=by simp only[Bk,K];simp;omega
  rw[n];refine go ?_;by_cases A:Bq l<=64
  ·refine go ?_;exact AC rfl ⟨congrArg Value.bool (by simp[A]),Z⟩
  ·refine go ?_;exact AC rfl ⟨congrArg Value.bool (by simp[A]),Z⟩
theorem rssmall_ok(w:World)(v:Value)(l:List Sgn)(h:SlAt sgnR Af w v l):Fn Zp 68 [v] w fun u w'=>∃b:Bool,u=.bool b/\Ext w w':=by
 have t:=h;obtain⟨a,c,rfl,s⟩:=h.len;refine AN Tryz.func68 rfl Tryz.ntmps68 (go ?_);by_cases N:l.length<=10
 ·refine go ?_;refine Ar (α:=Nat) (fun k=>[(0,.slice a l.length c),(3,iV (k:Int))]) (fun k W=>k<=l.length/\W=w) (fun k=>l.length-k) 0 ag ⟨by omega,rfl⟩ ?_;rintro k W D⟨L,rfl⟩;refine go ?_;by_cases e:k<l.length
  ·obtain⟨x,V⟩:∃x,l[k]?=some x:=⟨_,List.getElem?_eq_getElem e⟩;obtain⟨_,d,o,rfl,_,C⟩:=t.sig V;have B:W.cell? ⟨d,o+k*3+0,none⟩=some (AL x.name):=C 0 _ rfl;refine go ?_;by_cases f:x.name.length<=40
   ·refine go ?_;refine⟨k+1,⟨rfl,⟨rfl,?_,trivial⟩,⟨by omega,rfl⟩⟩,by omega⟩;show iV ((k:Int)+1)=_;rw[Int.natCast_add];rfl
   ·refine go ?_;exact AC rfl ⟨_,rfl,Ext.refl _⟩
  ·refine go ?_;exact AC rfl ⟨_,rfl,Ext.refl _⟩
 ·refine go ?_;exact AC rfl ⟨_,rfl,Ext.refl _⟩
mutual
def Cj(P:Fml->Prop):Fml->Prop
 | .mk op nm v b args=>P (.mk op nm v b args)/\allL P args
def allL(P:Fml->Prop):LF->Prop
 | []=>True
 |a::l=>Cj P a/\allL P l
end
theorem allL_iff{P:Fml->Prop}:∀{l:LF},allL P l↔∀a∈l,Cj P a
 | []=>by simp[allL]
 |a::l=>by simp[allL,allL_iff (l:=l)]
theorem allF_iff{P:Fml->Prop}{f:Fml}:Cj P f↔P f/\∀a∈f.args,Cj P a:=by
 obtain⟨M,k,v,b,args⟩:=f;rw[Cj,allL_iff];rfl
def cntQ(op z H:Int)(ok:Bool):Prop:=ok=true->1<=op/\op<=19/\∀n:Nat,z<=n->(0<=H->(n:Int)<=H)->BX op n=true
theorem count_ok3(w:World)(op:Int):Fn Zp 308 [iV op] w fun u w'=>∃(z H:Int)(ok:Bool),u=.tuple #[iV z,iV H,.bool ok]/\w'=w/\cntQ op z H ok:=by
 refine AN Tryz.func308 rfl Tryz.ntmps308 ?_;repeat refine nx rfl ?_
 refine AJ (AO (AS rfl (AO (AS rfl (AO (AE rfl ?_))))));repeat refine nx rfl ?_
 refine AJ (AS rfl ?_);repeat refine nx rfl ?_
 (refine AJ ?_<;>(refine Bf rfl rfl (fun T=>?_) (fun T=>?_)<;>try omega)<;>refine AO (AE rfl ?_))
 ·repeat refine nx rfl ?_
  refine AJ (AO (AS rfl (AO (AS rfl (AO (AE rfl ?_))))));repeat refine nx rfl ?_
  exact Fu
 repeat first|refine nx rfl ?_|refine nf rfl ?_
 (refine AJ ?_<;>(refine Bf rfl rfl (fun T=>?_) (fun T=>?_)<;>try omega)<;>refine AO (AE rfl ?_))
 ·refine go ?_;exact Fu
 repeat first|refine nx rfl ?_|refine nf rfl ?_
 (refine AJ ?_<;>(refine Bf rfl rfl (fun T=>?_) (fun T=>?_)<;>try omega)<;>refine AO (AE rfl ?_))
 ·repeat refine nx rfl ?_
  refine AJ (AO (AS rfl (AO (AS rfl (AO (AE rfl ?_))))));repeat refine nx rfl ?_
  exact Fu
 repeat first|refine nx rfl ?_|refine nf rfl ?_
 (refine AJ ?_<;>(refine Bf rfl rfl (fun T=>?_) (fun T=>?_)<;>try omega)<;>refine AO (AE rfl ?_))
 ·refine go ?_;exact FB
 repeat first|refine nx rfl ?_|refine nf rfl ?_
 (refine AJ ?_<;>(refine Bf rfl rfl (fun T=>?_) (fun T=>?_)<;>try omega)<;>refine AO (AE rfl ?_))
 ·repeat refine nx rfl ?_
  refine AJ (AO (AS rfl (AO (AS rfl (AO (AE rfl ?_))))));repeat refine nx rfl ?_
  exact FB
 repeat first|refine nx rfl ?_|refine nf rfl ?_
 (refine AJ ?_<;>(refine Bf rfl rfl (fun T=>?_) (fun T=>?_)<;>try omega)<;>refine AO (AE rfl ?_))
 ·refine go ?_;exact FB
 repeat first|refine nx rfl ?_|refine nf rfl ?_
 (refine AJ ?_<;>(refine Bf rfl rfl (fun T=>?_) (fun T=>?_)<;>try omega)<;>refine AO (AE rfl ?_))
 ·repeat refine nx rfl ?_
  refine AJ (AO (AS rfl (AO (AS rfl (AO (AE rfl ?_))))));repeat refine nx rfl ?_
  exact FB
 repeat first|refine nx rfl ?_|refine nf rfl ?_
 (refine AJ ?_<;>(refine Bf rfl rfl (fun T=>?_) (fun T=>?_)<;>try omega)<;>refine AO (AE rfl ?_))
 ·refine go ?_;exact FB
 repeat first|refine nx rfl ?_|refine nf rfl ?_
 (refine AJ ?_<;>(refine Bf rfl rfl (fun T=>?_) (fun T=>?_)<;>try omega)<;>refine AO (AE rfl ?_))
 ·repeat refine nx rfl ?_
  refine AJ (AO (AS rfl (AO (AS rfl (AO (AE rfl ?_))))));repeat refine nx rfl ?_
  exact FB
 repeat first|refine nx rfl ?_|refine nf rfl ?_
 (refine AJ ?_<;>(refine Bf rfl rfl (fun T=>?_) (fun T=>?_)<;>try omega)<;>refine AO (AE rfl ?_))
 ·refine go ?_;exact FB
 repeat first|refine nx rfl ?_|refine nf rfl ?_
 (refine AJ ?_<;>(refine Bf rfl rfl (fun T=>?_) (fun T=>?_)<;>try omega)<;>refine AO (AE rfl ?_))
 ·repeat refine nx rfl ?_
  refine AJ (AO (AS rfl (AO (AS rfl (AO (AE rfl ?_))))));repeat refine nx rfl ?_
  exact FB
 repeat first|refine nx rfl ?_|refine nf rfl ?_
 (refine AJ ?_<;>(refine Bf rfl rfl (fun T=>?_) (fun T=>?_)<;>try omega)<;>refine AO (AE rfl ?_))
 ·refine go ?_;exact FB
 repeat first|refine nx rfl ?_|refine nf rfl ?_
 (refine AJ ?_<;>(refine Bf rfl rfl (fun T=>?_) (fun T=>?_)<;>try omega)<;>refine AO (AE rfl ?_))
 ·repeat refine nx rfl ?_
  refine AJ (AO (AS rfl (AO (AS rfl (AO (AE rfl ?_))))));repeat refine nx rfl ?_
  exact F1
 repeat first|refine nx rfl ?_|refine nf rfl ?_
 (refine AJ ?_<;>(refine Bf rfl rfl (fun T=>?_) (fun T=>?_)<;>try omega)<;>refine AO (AE rfl ?_))
 ·refine go ?_;exact F1
 repeat first|refine nx rfl ?_|refine nf rfl ?_
 (refine AJ ?_<;>(refine Bf rfl rfl (fun T=>?_) (fun T=>?_)<;>try omega)<;>refine AO (AE rfl ?_))
 ·repeat refine nx rfl ?_
  refine AJ (AO (AS rfl (AO (AS rfl (AO (AE rfl ?_))))));repeat refine nx rfl ?_
  exact F1
 repeat first|refine nx rfl ?_|refine nf rfl ?_
 (refine AJ ?_<;>(refine Bf rfl rfl (fun T=>?_) (fun T=>?_)<;>try omega)<;>refine AO (AE rfl ?_))
 ·refine go ?_;exact F1
 repeat first|refine nx rfl ?_|refine nf rfl ?_
 (refine AJ ?_<;>(refine Bf rfl rfl (fun T=>?_) (fun T=>?_)<;>try omega)<;>refine AO (AE rfl ?_))
 ·repeat refine nx rfl ?_
  refine AJ (AO (AS rfl (AO (AS rfl (AO (AE rfl ?_))))));repeat refine nx rfl ?_
  exact F1
 repeat first|refine nx rfl ?_|refine nf rfl ?_
 (refine AJ ?_<;>(refine Bf rfl rfl (fun T=>?_) (fun T=>?_)<;>try omega)<;>refine AO (AE rfl ?_))
 ·refine go ?_;exact Gj
 repeat first|refine nx rfl ?_|refine nf rfl ?_
 (refine AJ ?_<;>(refine Bf rfl rfl (fun T=>?_) (fun T=>?_)<;>try omega)<;>refine AO (AE rfl ?_))
 ·repeat refine nx rfl ?_
  refine AJ (AO (AS rfl (AO (AS rfl (AO (AE rfl ?_))))));repeat refine nx rfl ?_
  exact Gj
 repeat first|refine nx rfl ?_|refine nf rfl ?_
 refine AJ (AO (AS rfl (AO (AS rfl (AO (AE rfl ?_))))));repeat refine nx rfl ?_
 exact Bl rfl ⟨0,0,false,rfl,rfl,fun h=>by cases h⟩
theorem keys3_ok(w:World):Fn Zp 328 [] w fun v w'=>Sl Af w' v keysL.length (keysL.map AL)/\Ext w w':=by
 refine AN Tryz.func328 rfl Tryz.ntmps328 (go ?_);exact GA
theorem name3_ok(s:LU)(w:World):Fn Zp 309 [AL s] w fun v w'=>∃b:Bool,v=.bool b/\Ext w w'/\(b=true->BH s=true):=by
 refine AN Tryz.func309 rfl Tryz.ntmps309 (go ?_);by_cases h1:s.length<1
 ·exact FT
 by_cases a0:12<s.length
 ·exact FT
 obtain⟨n,m⟩:∃c,s[0]?=some c:=⟨_,List.getElem?_eq_getElem U⟩;have A:=n.toNat_lt;by_cases ha:n.toNat<97
 ·exact FT
 by_cases hb:122<n.toNat
 ·exact FT
 refine go ?_;refine Ar (α:=Nat) (fun k=>[(0,AL s),(3,iV (k:Int))]) (fun k W=>k<=s.length/\(∀(i:Nat)(c:UInt8),i<k->s[i]?=some c->(A5 c||(Au c||decide (c.toNat=95)))=true)/\W=w) (fun k=>s.length-k) 0 ag ⟨by omega,fun i c H=>absurd H U,rfl⟩ ?_;rintro k N M⟨L,p,rfl⟩;refine go ?_;by_cases x:k<s.length
 ·have a:s[k]?=some s[k]:=List.getElem?_eq_getElem x;generalize s[k]=c at a;have K:=c.toNat_lt;refine go ?_;by_cases Q:97<=c.toNat/\c.toNat<=122
  ·refine go ?_;refine⟨k+1,⟨rfl,⟨rfl,Eq,trivial⟩,⟨by omega,fun i d H C=>?_,rfl⟩⟩,by omega⟩;by_cases f:i=k
   ·subst f;rw[a]at C;cases C;simp[A5,Au];omega
   ·exact p i d U C
  by_cases R:48<=c.toNat/\c.toNat<=57
  ·refine go ?_;refine⟨k+1,⟨rfl,⟨rfl,Eq,trivial⟩,⟨by omega,fun i d H C=>?_,rfl⟩⟩,by omega⟩;by_cases f:i=k
   ·subst f;rw[a]at C;cases C;simp[A5,Au];omega
   ·exact p i d U C
  by_cases S:c.toNat=95
  ·refine go ?_;refine⟨k+1,⟨rfl,⟨rfl,Eq,trivial⟩,⟨by omega,fun i d H C=>?_,rfl⟩⟩,by omega⟩;by_cases f:i=k
   ·subst f;rw[a]at C;cases C;simp[A5,Au];omega
   ·exact p i d U C
  by_cases g:c.toNat<48
  ·exact FT
  by_cases V:122<c.toNat
  ·exact FT
  by_cases X:c.toNat<97
  ·exact FT
  ·exact absurd ⟨by omega,by omega⟩ Q
 ·obtain rfl:k=s.length:=by omega
  refine go ?_
  have t:shapeB s=true:=(shapeB_iff s U).2 fun i c T=>by
   by_cases z:i=0
   ·subst z;rw[m]at T;cases T;simp[okAt,A5];omega
   ·have:=p i c (List.getElem?_eq_some_iff.1 T).1 T;simp only[okAt,decide_eq_true (show 0<i by omega),Bool.true_and];exact this
  refine go ?_;refine AF (keys3_ok N) rfl ?_;rintro v F⟨l,Z⟩;obtain⟨B,D,rfl,a1,a2,_,r⟩:=id l;refine go ?_;refine Ar (α:=Nat) (fun k=>[(0,AL s),(4,.slice B keysL.length D),(5,iV (k:Int))]) (fun k W=>k<=keysL.length/\s∉keysL.take k/\W=F) (fun k=>keysL.length-k) 0 ag ⟨by omega,by simp,rfl⟩ ?_;rintro k G P⟨L,I,rfl⟩;repeat refine nx rfl ?_
  have a3:keysL.length<=1000:=by decide
  by_cases x:k<keysL.length
  ·obtain⟨b,o,rfl,_,q⟩:=r.resolve_left U;obtain⟨y,E⟩:∃y,keysL[k]?=some y:=⟨_,List.getElem?_eq_getElem x⟩;have a4:G.cell? ⟨b,o+k,none⟩=some (AL y):=q k _ (by simp[E]);have u:keysL.take (k+1)=keysL.take k++[y]:=by rw[List.take_add_one,E];rfl
   generalize keysL.length=nn at*
   (refine AJ (AS rfl (Ay rfl (Bi rfl ?_)))<;>(refine C6 rfl rfl (fun T=>?_) (fun T=>?_)<;>try omega))
   repeat refine nx rfl ?_
   by_cases j:y=s
   ·(refine AJ (Ay rfl (AS rfl (W_idx1 rfl rfl rfl U (AH rfl ER ?_))))<;>refine BC rfl ?_<;>refine Bg rfl rfl (fun T=>?_) (fun T=>?_)<;>refine AA ?_)
    case refine_2=>exact absurd j ER
    repeat refine nx rfl ?_
    refine AJ (AO (AE rfl ?_));repeat refine nx rfl ?_
    exact FG
   ·(refine AJ (Ay rfl (AS rfl (W_idx1 rfl rfl rfl U (AH rfl ER ?_))))<;>refine BC rfl ?_<;>refine Bg rfl rfl (fun T=>?_) (fun T=>?_)<;>refine AA ?_)
    case refine_1=>exact absurd ER j
    refine go ?_;refine⟨k+1,⟨rfl,⟨rfl,rfl,?_,trivial⟩,⟨by omega,by rw[u];simp[I];exact fun e=>j e.symm,rfl⟩⟩,by omega⟩;show iV ((k:Int)+1)=_;rw[Int.natCast_add];rfl
  ·have e:k=keysL.length:=by omega
   rw[e,List.take_length]at I;generalize keysL.length=nn at*
   refine go ?_;exact AC rfl ⟨true,rfl,Z,fun _=>by rw[DN,t,decide_eq_false I,decide_eq_true (show 1<=s.length by omega),decide_eq_true (show s.length<=12 by omega)];rfl⟩
def shQ(f:Fml):Prop:=Bs f.op f.name f.val f.bound f.args.length=true
theorem node_ok3(w:World)(v:Value)(f:Fml)(hf:FAt Af w v f):Fn Zp 234 [v] w fun u w'=>∃b:Bool,u=.bool b/\Ext w w'/\(b=true->shQ f):=by
 obtain⟨av,rfl,L,l,E⟩:=hf.form;obtain⟨a,c,rfl,F⟩:=id l;have a2:f.args.length<=9223372036854775807:=by obtain⟨h1,h2,_⟩:=F;omega
 obtain⟨M,k,e,P,o⟩:=f;simp only[Fml.op,Fml.name,Fml.val,Fml.bound,Fml.args,shQ]at*
 refine AN Tryz.func234 rfl Tryz.ntmps234 (go ?_);refine A3 (L:=fcC (.mk M k e P o) (.slice a o.length c)) rfl (fun j t=>?_);have n:=t.D;have Z:=t.E;have c0:j.cell? ⟨w.heap.size,0+0,none⟩=some (iV M):=n.cell rfl;have c1:j.cell? ⟨w.heap.size,0+1,none⟩=some (AL k):=n.cell rfl;have B:j.cell? ⟨w.heap.size,0+2,none⟩=some (iV e):=n.cell rfl;have C:j.cell? ⟨w.heap.size,0+3,none⟩=some (iV P):=n.cell rfl;have c4:j.cell? ⟨w.heap.size,0+4,none⟩=some (.slice a o.length c):=n.cell rfl;refine go ?_;refine AF (count_ok3 j M) rfl ?_;rintro _ j⟨lo,H,ok,rfl,rfl,hq⟩;refine M_tuple rfl (DU rfl rfl (DU rfl rfl (DU rfl rfl (AO (AS rfl (AO (AS rfl (AO (AE rfl ?_)))))))));repeat refine nx rfl ?_
 clear n l E t F;cases ok with
 |false=>
  refine AJ (AE rfl (W_not rfl (AE rfl (Ah rfl (Ah rfl (Ah rfl (Ah rfl (Ah rfl (Ae rfl (AE rfl (AE rfl (Ah rfl (Ah rfl (Ah rfl (Ah rfl (Ah rfl (Ah rfl (Ah rfl (Ah rfl (Ah rfl (Ae rfl (AE rfl ?_))))))))))))))))))))));repeat refine nx rfl ?_
  refine AJ (AO (AE rfl ?_));repeat refine nx rfl ?_
  exact FG
 |true=>
 obtain⟨i,y,V⟩:=hq rfl;by_cases a4:(o.length:Int)<lo
 ·(refine AJ (AE rfl (W_not rfl (AE rfl (AK rfl (AB rfl (AK rfl (AH rfl ER ?_)))))))<;>refine AK rfl (Bi rfl (AK rfl (AS rfl ?_)))<;>(refine AK rfl ?_;(refine C6 rfl rfl (fun T=>?_) (fun T=>?_)<;>try omega))<;>refine Ad rfl (AE rfl (AE rfl (Ah rfl (Ah rfl (Ah rfl (Ah rfl (Ah rfl (Ah rfl (Ah rfl (Ah rfl (Ah rfl (Ae rfl (AE rfl ?_))))))))))))))
  repeat refine nx rfl ?_
  refine AJ (AO (AE rfl ?_));repeat refine nx rfl ?_
  exact FG
 by_cases a3:0<=H/\H<o.length
 ·(refine AJ (AE rfl (W_not rfl (AE rfl (AK rfl (AB rfl (AK rfl (AH rfl ER ?_)))))))<;>refine AK rfl (Bi rfl (AK rfl (AS rfl ?_)))<;>(refine AK rfl ?_;(refine C6 rfl rfl (fun T=>?_) (fun T=>?_)<;>try omega))<;>refine Ad rfl (AE rfl (AE rfl (AK rfl (AS rfl ?_))))<;>(refine AK rfl ?_;(refine W_geq rfl rfl (fun T=>?_) (fun T=>?_)<;>try omega))<;>refine AK rfl (AE rfl (AK rfl (AB rfl (AK rfl (AH rfl ER ?_)))))<;>refine AK rfl (Bi rfl (AK rfl (AS rfl ?_)))<;>(refine AK rfl ?_;(refine W_gtr rfl rfl (fun T=>?_) (fun T=>?_)<;>try omega))<;>refine AK rfl (Ae rfl (AE rfl (Ad rfl (AE rfl ?_)))))
  repeat refine nx rfl ?_
  refine AJ (AO (AE rfl ?_));repeat refine nx rfl ?_
  exact FG
 have x:=V o.length U (fun h=>by omega);refine CA (α:=Unit) (fun _=>[(1,pt w.heap.size),(34,.bool false)]) (fun _ W=>j=W) ?_ ?_
 ·by_cases hh:0<=H
  ·exact FK
  ·exact FK
 rintro _ _ f3 rfl;repeat first|refine nx rfl ?_|refine nf rfl ?_
 by_cases R:M=3
 ·subst R;(refine AJ (AB rfl (AH rfl ER ?_))<;>(refine Bf rfl rfl (fun T=>?_) (fun T=>?_)<;>try omega))
  repeat refine nx rfl ?_
  refine AJ (AB rfl (AH rfl ER ?_));refine AF (name3_ok k j) rfl ?_;rintro _ w2⟨b,rfl,s,X⟩;have r:=Z.trans s;replace B:=s.cell B O;replace C:=s.cell C O;cases b with
  |false=>
   refine AE rfl (Ah rfl (Ah rfl (Ah rfl (Ad rfl (AE rfl (AE rfl (Ah rfl (Ah rfl (Ah rfl (Ad rfl (AE rfl (AE rfl (Ah rfl (Ah rfl (Ah rfl (Ad rfl (AE rfl (AO (AE rfl ?_)))))))))))))))))));repeat refine nx rfl ?_
   exact Fq
  |true=>
  by_cases Q:0<=e
  case neg=>
   (refine AE rfl (AK rfl (AB rfl (AK rfl (AH rfl ER ?_))))<;>(refine AK rfl ?_;(refine W_geq rfl rfl (fun T=>?_) (fun T=>?_)<;>try omega))<;>refine Ae rfl (AE rfl (AE rfl (Ah rfl (Ah rfl (Ah rfl (Ad rfl (AE rfl (AE rfl (Ah rfl (Ah rfl (Ah rfl (Ad rfl (AE rfl (AO (AE rfl ?_))))))))))))))))
   repeat refine nx rfl ?_
   exact Fq
  by_cases m:e<=3
  case neg=>
   (refine AE rfl (AK rfl (AB rfl (AK rfl (AH rfl ER ?_))))<;>(refine AK rfl ?_;(refine W_geq rfl rfl (fun T=>?_) (fun T=>?_)<;>try omega))<;>refine Ae rfl (AE rfl (AE rfl (AK rfl (AB rfl (AK rfl (AH rfl ER ?_))))))<;>(refine AK rfl ?_;(refine Cp rfl rfl (fun T=>?_) (fun T=>?_)<;>try omega))<;>refine Ae rfl (AE rfl (AE rfl (Ah rfl (Ah rfl (Ah rfl (Ad rfl (AE rfl (AO (AE rfl ?_))))))))))
   repeat refine nx rfl ?_
   exact Fq
  by_cases A:P=0
  ·(refine AE rfl (AK rfl (AB rfl (AK rfl (AH rfl ER ?_))))<;>(refine AK rfl ?_;(refine W_geq rfl rfl (fun T=>?_) (fun T=>?_)<;>try omega))<;>refine Ae rfl (AE rfl (AE rfl (AK rfl (AB rfl (AK rfl (AH rfl ER ?_))))))<;>(refine AK rfl ?_;(refine Cp rfl rfl (fun T=>?_) (fun T=>?_)<;>try omega))<;>refine Ae rfl (AE rfl (AE rfl (AK rfl (AB rfl (AK rfl (AH rfl ER ?_))))))<;>(refine AK rfl ?_;(refine Bf rfl rfl (fun T=>?_) (fun T=>?_)<;>try omega))<;>refine Ae rfl (AE rfl (AO (AE rfl ?_))))
   repeat refine nx rfl ?_
   refine AC rfl ⟨true,rfl,r,fun _=>?_⟩;simp[Bs,x,X rfl,Q,m,A]
  ·(refine AE rfl (AK rfl (AB rfl (AK rfl (AH rfl ER ?_))))<;>(refine AK rfl ?_;(refine W_geq rfl rfl (fun T=>?_) (fun T=>?_)<;>try omega))<;>refine Ae rfl (AE rfl (AE rfl (AK rfl (AB rfl (AK rfl (AH rfl ER ?_))))))<;>(refine AK rfl ?_;(refine Cp rfl rfl (fun T=>?_) (fun T=>?_)<;>try omega))<;>refine Ae rfl (AE rfl (AE rfl (AK rfl (AB rfl (AK rfl (AH rfl ER ?_))))))<;>(refine AK rfl ?_;(refine Bf rfl rfl (fun T=>?_) (fun T=>?_)<;>try omega))<;>refine Ae rfl (AE rfl (AO (AE rfl ?_))))
   repeat refine nx rfl ?_
   exact Fq
 (refine AJ (AB rfl (AH rfl ER ?_))<;>(refine Bf rfl rfl (fun T=>?_) (fun T=>?_)<;>try omega))
 repeat first|refine nx rfl ?_|refine nf rfl ?_
 refine CA (α:=Bool) (fun b=>[(1,pt w.heap.size),(6,.bool b)]) (fun b W=>j=W/\(b=true↔M=13\/M=14)) ?_ ?_
 ·by_cases Q:M=13
  ·refine go ?_;exact Aj true ag ⟨rfl,by simp[Q]⟩
  ·by_cases m:M=14
   ·refine go ?_;exact Aj true ag ⟨rfl,by simp[m]⟩
   ·refine go ?_;exact Aj false ag ⟨rfl,by simp[Q,m]⟩
 rintro p _ f4⟨rfl,N⟩;repeat refine nx rfl ?_
 refine CA (α:=Bool) (fun b=>[(1,pt w.heap.size),(6,.bool p),(7,.bool b)]) (fun b W=>j=W/\(b=true↔M=15\/M=16\/M=17)) ?_ ?_
 ·by_cases Q:M=15
  ·refine go ?_;exact Aj true ag ⟨rfl,by simp[Q]⟩
  ·by_cases m:M=16
   ·refine go ?_;exact Aj true ag ⟨rfl,by simp[m]⟩
   ·by_cases A:M=17
    ·refine go ?_;exact Aj true ag ⟨rfl,by simp[A]⟩
    ·refine go ?_;exact Aj false ag ⟨rfl,by simp[Q,m,A]⟩
 rintro S _ f5⟨rfl,K⟩;refine go ?_;by_cases d:k=[]
 case neg=>
  refine go ?_;refine Bg rfl rfl (fun T=>absurd T d) (fun T=>go ?_);exact FG
 by_cases Q:0<=e
 case neg=>
  exact E9
 by_cases m:e<=1
 case neg=>
  exact E9
 by_cases A:S=true\/e=0
 case neg=>
  have q:S=false:=by cases S<;>simp_all
  subst q;have z:e≠0:=fun h=>A (.inr h);exact E9
 by_cases g:0<=P
 case neg=>
  cases S with
  |true=>
   exact E9
  |false=>
   have z:e=0:=by simpa using A
   exact E9
 by_cases g5:P<=9
 case neg=>
  cases S with
  |true=>
   exact E9
  |false=>
   have z:e=0:=by simpa using A
   exact E9
 by_cases D:p=true\/P=0
 case neg=>
  have G:p=false:=by cases p<;>simp_all
  subst G;have I:P≠0:=fun h=>D (.inr h);cases S with
  |true=>
   exact E9
  |false=>
   have z:e=0:=by simpa using A
   exact E9
 cases p with
 |true=>
  have a0:=N.1 rfl;cases S with
  |true=>exfalso;have:=K.1 rfl;omega
  |false=>
   have z:e=0:=by simpa using A
   refine go ?_;refine Bg rfl rfl (fun T=>?_) (fun T=>absurd d T);refine go ?_;refine AC rfl ⟨true,rfl,Z,fun _=>?_⟩;simp only[Bs,x,d,if_neg R,Bool.and_eq_true,decide_eq_true_eq,List.isEmpty_nil];refine⟨⟨⟨⟨⟨⟨⟨i,y⟩,trivial⟩,Q⟩,?_⟩,g⟩,?_⟩,trivial⟩
   ·split<;>omega
   ·split<;>omega
 |false=>
  have I:P=0:=by simpa using D
  cases S with
  |true=>
   have a1:=K.1 rfl;refine go ?_;refine Bg rfl rfl (fun T=>?_) (fun T=>absurd d T);refine go ?_;refine AC rfl ⟨true,rfl,Z,fun _=>?_⟩;simp only[Bs,x,d,if_neg R,Bool.and_eq_true,decide_eq_true_eq,List.isEmpty_nil];refine⟨⟨⟨⟨⟨⟨⟨i,y⟩,trivial⟩,Q⟩,?_⟩,g⟩,?_⟩,trivial⟩
   ·split<;>omega
   ·split<;>omega
  |false=>
   have z:e=0:=by simpa using A
   refine go ?_;refine Bg rfl rfl (fun T=>?_) (fun T=>absurd d T);refine go ?_;refine AC rfl ⟨true,rfl,Z,fun _=>?_⟩;simp only[Bs,x,d,if_neg R,Bool.and_eq_true,decide_eq_true_eq,List.isEmpty_nil];refine⟨⟨⟨⟨⟨⟨⟨i,y⟩,trivial⟩,Q⟩,?_⟩,g⟩,?_⟩,trivial⟩
   ·split<;>omega
   ·split<;>omega
theorem nodes3_ok:∀(N:Nat)(f:Fml),szF f<=N->∀(w:World)(v:Value),FAt Af w v f->Fn Zp 178 [v] w fun u w'=>∃b:Bool,u=.bool b/\Ext w w'/\(b=true->Cj shQ f):=by
 intro N
 induction N with
 |zero=>intro f s;have:=C1 f;omega
 |succ N ih=>
 intro f s w v P;obtain⟨X,rfl,L,l,E⟩:=P.form;obtain⟨a,c,rfl,g⟩:=id l;have a1:f.args.length<=9223372036854775807:=by obtain⟨h1,h2,_⟩:=g;omega
 clear g;have a2:=BL f;refine AN Tryz.func178 rfl Tryz.ntmps178 (go ?_);refine A3 (L:=fcC f (.slice a f.args.length c)) rfl (fun Q p=>?_);have n:=p.D;have Z:=p.E;refine go ?_;refine AF (node_ok3 Q _ f (P.ext Z)) rfl ?_;rintro _ T⟨b,rfl,A,K⟩;have C:=Z.trans A;have j:=n.E A O;cases b with
 |false=>
  refine go ?_;exact AC rfl ⟨false,rfl,C,fun h=>by cases h⟩
 |true=>
 refine go ?_;refine Ar (α:=Nat) (fun k=>[(1,pt w.heap.size),(3,iV (k:Int))]) (fun k W=>k<=f.args.length/\Ext T W/\∀(i:Nat)(y:Fml),i<k->f.args[i]?=some y->Cj shQ y) (fun k=>f.args.length-k) 0 (by repeat (first|exact trivial|refine⟨rfl,?_⟩)) ⟨by omega,Ext.refl _,fun i y H=>absurd H U⟩ ?_;rintro k W fr⟨hk,q,G⟩;have B:=C.trans q;have c4:W.cell? ⟨w.heap.size,0+4,none⟩=some (.slice a f.args.length c):=q.cell (j.cell rfl) O;refine go ?_;by_cases d:k<f.args.length
 ·refine go ?_;obtain⟨x,V⟩:∃x,f.args[k]?=some x:=⟨_,List.getElem?_eq_getElem d⟩;obtain⟨o,S⟩:∃o,L[k]?=some o:=⟨_,List.getElem?_eq_getElem (by rw[E.1];exact d)⟩;obtain⟨I,oa,rfl,a0,F⟩:=l.fml E.2.1 S d;have a3:=Bb (List.mem_of_getElem? V);have t:FAt Af W (.agg o.toArray) x:=(E.2.2 k o x S V).ext B;have r:=F.E B O;refine go ?_;refine AQ (L:=o) rfl (E.2.1 o (List.mem_of_getElem? S)) r ?_;refine AF (ih x U W _ t) rfl ?_;rintro _ w4⟨b,rfl,m,K⟩;cases b with
  |true=>
   refine go ?_;refine⟨k+1,⟨rfl,⟨(by repeat (first|exact trivial|refine⟨rfl,?_⟩)),⟨by omega,q.trans m,fun i z H e=>?_⟩⟩⟩,by omega⟩;by_cases M:i=k
   ·subst M;rw[V]at e;cases e;exact K rfl
   ·exact G i z U e
  |false=>
   refine go ?_;exact AC rfl ⟨false,rfl,B.trans m,fun h=>by cases h⟩
 ·refine go ?_
  have D:∀y∈f.args,Cj shQ y:=fun y R=>by
   obtain⟨i,H⟩:=List.getElem?_of_mem R;exact Gd
  exact AC rfl ⟨true,rfl,B,fun _=>allF_iff.2 ⟨K rfl,D⟩⟩
def futQ(f:Fml):Prop:=futB f.op=false
theorem past3_ok:∀(N:Nat)(f:Fml),szF f<=N->∀(w:World)(v:Value),FAt Af w v f->Fn Zp 231 [v] w fun u w'=>∃b:Bool,u=.bool b/\Ext w w'/\(b=true->Cj futQ f):=by
 intro N
 induction N with
 |zero=>intro f D;have:=C1 f;omega
 |succ N ih=>
 intro f D w v P;obtain⟨av,rfl,L,l,E⟩:=P.form;obtain⟨a,c,rfl,g⟩:=id l;have a2:f.args.length<=9223372036854775807:=by obtain⟨h1,h2,_⟩:=g;omega
 clear g;have a3:=BL f;refine AN Tryz.func231 rfl Tryz.ntmps231 (go ?_);refine A3 (L:=fcC f (.slice a f.args.length c)) rfl (fun Q A=>?_);have n:=A.D;have Z:=A.E;refine AO (AE rfl ?_);repeat refine nx rfl ?_
 have c0:Q.cell? ⟨w.heap.size,0+0,none⟩=some (iV f.op):=n.cell rfl;by_cases p:8<=f.op/\f.op<=14
 ·obtain⟨p,a0⟩:=p;(refine AJ (AB rfl (AH rfl (Blk.cell ER EQ) ?_))<;>(refine W_geq rfl rfl (fun T=>?_) (fun T=>?_)<;>try omega)<;>refine AE rfl (AK rfl (AB rfl (AK rfl (AH rfl (Blk.cell ER EQ) ?_))))<;>(refine AK rfl ?_;(refine Cp rfl rfl (fun T=>?_) (fun T=>?_)<;>try omega))<;>refine Ae rfl (AE rfl ?_))
  repeat refine nx rfl ?_
  refine AJ (AO (AE rfl ?_));repeat refine nx rfl ?_
  exact FG
 have d:futQ f:=by
  unfold futQ futB;rw[Bool.and_eq_false_iff,decide_eq_false_iff_not,decide_eq_false_iff_not];omega
 refine CA (α:=Unit) (fun _=>[(1,pt w.heap.size),(11,.bool false)]) (fun _ W=>Ext w W/\Blk W w.heap.size 37 (fcC f (.slice a f.args.length c))) ?_ ?_
 ·by_cases g8:8<=f.op
  ·refine go ?_;exact Aj () ag ⟨Z,n⟩
  ·refine go ?_;exact Aj () ag ⟨Z,n⟩
 rintro _ X f3⟨C,j⟩;refine go ?_;refine Ar (α:=Nat) (fun k=>[(1,pt w.heap.size),(3,iV (k:Int))]) (fun k W=>k<=f.args.length/\Ext X W/\∀(i:Nat)(y:Fml),i<k->f.args[i]?=some y->Cj futQ y) (fun k=>f.args.length-k) 0 (by repeat (first|exact trivial|refine⟨rfl,?_⟩)) ⟨by omega,Ext.refl _,fun i y H=>absurd H U⟩ ?_;rintro k W fr⟨hk,q,G⟩;have B:=C.trans q;have c4:W.cell? ⟨w.heap.size,0+4,none⟩=some (.slice a f.args.length c):=q.cell (j.cell rfl) O;refine go ?_;by_cases e:k<f.args.length
 ·refine go ?_;obtain⟨x,V⟩:∃x,f.args[k]?=some x:=⟨_,List.getElem?_eq_getElem e⟩;obtain⟨o,S⟩:∃o,L[k]?=some o:=⟨_,List.getElem?_eq_getElem (by rw[E.1];exact e)⟩;obtain⟨ba,oa,rfl,a1,F⟩:=l.fml E.2.1 S e;have a4:=Bb (List.mem_of_getElem? V);have t:FAt Af W (.agg o.toArray) x:=(E.2.2 k o x S V).ext B;have r:=F.E B O;refine go ?_;refine AQ (L:=o) rfl (E.2.1 o (List.mem_of_getElem? S)) r ?_;refine AF (ih x U W _ t) rfl ?_;rintro _ w4⟨b,rfl,s,K⟩;cases b with
  |true=>
   refine go ?_;refine⟨k+1,⟨rfl,⟨(by repeat (first|exact trivial|refine⟨rfl,?_⟩)),⟨by omega,q.trans s,fun i z H m=>?_⟩⟩⟩,by omega⟩;by_cases M:i=k
   ·subst M;rw[V]at m;cases m;exact K rfl
   ·exact G i z U m
  |false=>
   refine go ?_;exact AC rfl ⟨false,rfl,B.trans s,fun h=>by cases h⟩
 ·refine go ?_
  have I:∀y∈f.args,Cj futQ y:=fun y R=>by
   obtain⟨i,H⟩:=List.getElem?_of_mem R;exact Gd
  exact AC rfl ⟨true,rfl,B,fun _=>allF_iff.2 ⟨d,I⟩⟩
def layQ(f:Fml):Prop:=pstB f.op=true->∀a∈f.args,Cj futQ a
theorem lay3_ok:∀(N:Nat)(f:Fml),szF f<=N->∀(w:World)(v:Value),FAt Af w v f->Fn Zp 180 [v] w fun u w'=>∃b:Bool,u=.bool b/\Ext w w'/\(b=true->Cj layQ f):=by
 intro N
 induction N with
 |zero=>intro f R;have:=C1 f;omega
 |succ N ih=>
 intro f R w v P;obtain⟨av,rfl,L,l,E⟩:=P.form;obtain⟨a,c,rfl,g⟩:=id l;have a4:f.args.length<=9223372036854775807:=by obtain⟨h1,h2,_⟩:=g;omega
 clear g;have a6:=BL f;refine AN Tryz.func180 rfl Tryz.ntmps180 (go ?_);refine A3 (L:=fcC f (.slice a f.args.length c)) rfl (fun w1 A=>?_);have n:=A.D;have k1:=A.E;refine go ?_;refine Ar (α:=Nat) (fun k=>[(1,pt w.heap.size),(3,iV (k:Int))]) (fun k W=>k<=f.args.length/\Ext w1 W/\∀(i:Nat)(y:Fml),i<k->f.args[i]?=some y->Cj layQ y/\(pstB f.op=true->Cj futQ y)) (fun k=>f.args.length-k) 0 ag ⟨by omega,Ext.refl _,fun i y H=>absurd H U⟩ ?_;rintro k W fr⟨hk,q,G⟩;have B:=k1.trans q;have s:=n.E q O;have Q:W.cell? ⟨w.heap.size,0+4,none⟩=some (.slice a f.args.length c):=s.cell rfl;refine go ?_;by_cases m:k<f.args.length
 ·refine go ?_;obtain⟨x,V⟩:∃x,f.args[k]?=some x:=⟨_,List.getElem?_eq_getElem m⟩;obtain⟨d,S⟩:∃d,L[k]?=some d:=⟨_,List.getElem?_eq_getElem (by rw[E.1];exact m)⟩;obtain⟨ba,oa,rfl,a3,F⟩:=l.fml E.2.1 S m;have a7:=Bb (List.mem_of_getElem? V);have t:FAt Af W (.agg d.toArray) x:=(E.2.2 k d x S V).ext B;have r:=F.E B O;refine go ?_;refine AQ (L:=d) rfl (E.2.1 d (List.mem_of_getElem? S)) r ?_;refine AF (ih x U W _ t) rfl ?_;rintro _ M⟨b,rfl,e,K⟩;have a1:M.cell? ⟨w.heap.size,0+0,none⟩=some (iV f.op):=(s.E e O).cell rfl;have a2:=e.cell Q O;have T:=r.E e O;cases b with
  |false=>
   refine go ?_;exact AC rfl ⟨false,rfl,B.trans e,fun h=>by cases h⟩
  |true=>
  by_cases X:15<=f.op/\f.op<=19
  ·obtain⟨Z,a5⟩:=X;refine go ?_;refine AQ (L:=d) rfl (E.2.1 d (List.mem_of_getElem? S)) T (go ?_);refine AF (past3_ok _ x (Nat.le_refl _) M _ (t.ext e)) rfl ?_;rintro _ w6⟨b,rfl,k6,a0⟩;have I:=e.trans k6;cases b with
   |false=>
    refine go ?_;exact AC rfl ⟨false,rfl,B.trans I,fun h=>by cases h⟩
   |true=>
    refine go ?_;refine⟨k+1,⟨rfl,⟨rfl,Eq,trivial⟩,⟨by omega,q.trans I,fun i z H o=>?_⟩⟩,by omega⟩;by_cases j:i=k
    ·subst j;rw[V]at o;cases o;exact⟨K rfl,fun _=>a0 rfl⟩
    ·exact G i z U o
  have p:pstB f.op=false:=by
   unfold pstB;rw[Bool.and_eq_false_iff,decide_eq_false_iff_not,decide_eq_false_iff_not];omega
  by_cases Z:15<=f.op
  ·refine go ?_;refine⟨k+1,⟨rfl,⟨rfl,Eq,trivial⟩,⟨by omega,q.trans e,fun i z H o=>?_⟩⟩,by omega⟩;by_cases j:i=k
   ·subst j;rw[V]at o;cases o;exact⟨K rfl,fun h=>absurd (p.symm.trans h) Bool.false_ne_true⟩
   ·exact G i z U o
  ·refine go ?_;refine⟨k+1,⟨rfl,⟨rfl,Eq,trivial⟩,⟨by omega,q.trans e,fun i z H o=>?_⟩⟩,by omega⟩;by_cases j:i=k
   ·subst j;rw[V]at o;cases o;exact⟨K rfl,fun h=>absurd (p.symm.trans h) Bool.false_ne_true⟩
   ·exact G i z U o
 ·refine go ?_
  have C:∀y∈f.args,Cj layQ y/\(pstB f.op=true->Cj futQ y):=fun y hy=>by
   obtain⟨i,H⟩:=List.getElem?_of_mem hy;exact Gd
  exact AC rfl ⟨true,rfl,B,fun _=>allF_iff.2 ⟨fun h a D=>(C a D).2 h,fun a D=>(C a D).1⟩⟩
theorem dpL_snoc:∀(l:LF)(x:Fml),dpL (l++[x])=max (dpL l) (dpF x)
 | [],x=>by simp[dpL]
 |a::l,x=>by rw[List.cons_append,dpL,dpL_snoc l x,dpL];omega
theorem depth3_ok:∀(N:Nat)(f:Fml),szF f<=N->N<=1000->∀(w:World)(v:Value),FAt Af w v f->Fn Zp 177 [v] w fun u w'=>u=iV (dpF f:Int)/\Ext w w':=by
 intro N
 induction N with
 |zero=>intro f h;have:=C1 f;omega
 |succ N ih=>
 intro f h K w v P;have i:=dp_sz f;obtain⟨m,rfl,L,l,E⟩:=P.form;obtain⟨a,c,rfl,g⟩:=id l;have C:f.args.length<=9223372036854775807:=by obtain⟨s,z,_⟩:=g;omega
 clear g;have y:=BL f;refine AN Tryz.func177 rfl Tryz.ntmps177 (go ?_);refine A3 (L:=fcC f (.slice a f.args.length c)) rfl (fun Q A=>?_);have n:=A.D;have Z:=A.E;refine go ?_;refine Ar (α:=Nat) (fun k=>[(1,pt w.heap.size),(3,iV (dpL (f.args.take k):Int)),(4,iV (k:Int))]) (fun k W=>k<=f.args.length/\Ext Q W) (fun k=>f.args.length-k) 0 ag ⟨by omega,Ext.refl _⟩ ?_;rintro k W D⟨G,q⟩;have B:=Z.trans q;have d:=n.E q O;have p:W.cell? ⟨w.heap.size,0+4,none⟩=some (.slice a f.args.length c):=d.cell rfl;refine go ?_;by_cases b:k<f.args.length
 ·refine go ?_;obtain⟨x,V⟩:∃x,f.args[k]?=some x:=⟨_,List.getElem?_eq_getElem b⟩;obtain⟨o,S⟩:∃o,L[k]?=some o:=⟨_,List.getElem?_eq_getElem (by rw[E.1];exact b)⟩;obtain⟨I,H,rfl,M,F⟩:=l.fml E.2.1 S b;have R:=Bb (List.mem_of_getElem? V);have t:FAt Af W (.agg o.toArray) x:=(E.2.2 k o x S V).ext B;have r:=F.E B O;refine go ?_;refine AQ (L:=o) rfl (E.2.1 o (List.mem_of_getElem? S)) r ?_;refine AF (ih x U U W _ t) rfl ?_;rintro _ T⟨rfl,j⟩;refine W_max rfl rfl ?_;refine AO (AS rfl ?_);repeat refine nx rfl ?_
  (refine AJ (AS rfl (W_add rfl rfl Ea ?_))<;>refine AO (AS rfl ?_))
  repeat refine nx rfl ?_
  refine⟨k+1,⟨rfl,⟨rfl,?_,?_,trivial⟩,⟨by omega,q.trans j⟩⟩,by omega⟩
  ·refine congrArg (Value.int .i64) ?_;rw[List.take_add_one,V,Option.toList_some,dpL_snoc];omega
  ·show iV ((k:Int)+1)=_;rw[Int.natCast_add];rfl
 ·obtain e:k=f.args.length:=by omega
  rw[e,List.take_length];rw[CX]at i⊢;refine go ?_;exact AC rfl ⟨by rw[Int.natCast_add];rfl,B⟩




def pm(neg:Bool)(p:Prop):Prop:=if neg=true then¬p else p
theorem rel_neg(p q:Nat->Prop)(t:Nat):relS (fun i=>¬p i) (fun i=>¬q i) t↔¬untilS p q t:=by
 rw[rel_not];have e:(fun i=>¬¬p i)=p:=by funext i;exact propext Classical.not_not
 have n:(fun i=>¬¬q i)=q:=by funext i;exact propext Classical.not_not
 rw[e,n]



noncomputable def tv (p:Prop):Bool:=@decide p (Classical.propDecidable p)





structure Dty where
 req:Rqm
 since:Int
 first:Fml
 now:Fml
def strD(t:Int)(r:Rqm):Dty:=⟨r,t,canG (kernR r.formula).1,canG (kernR r.formula).1⟩
def startF(s:Spc)(t:Int):List Dty:=s.reqs.map (strD t)
def Dty.to(y:Dty)(g:Fml):Dty:=⟨y.req,y.since,y.first,g⟩
def tickF(S:List Sgn)(d:List Dty)(x:Int):List Dty:=if d.any (fun y=>decide ((stepG S y.now x).op=0))=true then[]else d.map fun y=>y.to (stepG S y.now x)
section
variable {mk:Prop}[MK mk]
theorem oneC_app{l m:LV}(h:oneC l)(k:oneC m):oneC (l++m):=fun u g=>(List.mem_append.1 g).elim (h u) (k u)
structure Acc{α:Type}(ok0:Nat->Prop)(R:Rp α)(T:TypeId)(sz B:Nat)(W:World)(v:Value)(l:List α):Prop where
 ex:∃L,W.ownsRow B T sz v l.length L.flatten/\RsAt R (fun b=>ok0 b/\v.ownBlock≠some b) W L l
section
variable {α:Type}{ok0:Nat->Prop}{R:Rp α}{T:TypeId}{sz B:Nat}{W W1 w8:World}{v v8:Value}{l:List α}
theorem Acc.push{L:List (LV)}{c:LV}{a:α}(n:W.ownsRow B T sz v l.length L.flatten)(I:RsAt R (fun b=>ok0 b/\v.ownBlock≠some b) W L l)(e:Ext W W1)(m:R.fits (fun b=>ok0 b/\v.ownBlock≠some b) W1 c a)(q:Apd W1 w8 B T sz v v8 (l.length+1) (L.flatten++c)):Acc ok0 R T sz B w8 v8 (l++[a]):=by
 have z:=e.size
 have i:∀g,v8.ownBlock=some g->v.ownBlock=some g\/g=W1.heap.size:=fun g j=>by
  rcases q.D with e|e
  ·exact .inl (by rw[<-e];exact j)
  ·rw[e]at j;exact .inr (Option.some.inj j).symm
 have k:∀y,y∈v.ownBlock.toList->v.ownBlock=some y:=fun y E=>Option.mem_toList.1 E;refine⟨⟨L++[c],by have:=q.own;simpa using this,RsAt.snoc ?_ ?_⟩⟩
 ·refine((I.lt.ext e).E q.E fun b S s=>S.1.2 (k b s)).mono fun b S=>⟨S.1.1,fun h=>?_⟩;rcases i b h with e|e
  ·exact S.1.2 e
  ·have:=S.2;omega
 ·refine R.mono (R.E (R.lt m) q.E fun b S s=>S.1.2 (k b s)) fun b S=>⟨S.1.1,fun h=>?_⟩;rcases i b h with e|e
  ·exact S.1.2 e
  ·have:=S.2;omega
theorem Acc.sl(h:Acc ok0 R T sz B W v l):SlAt R Af W v l:=by
 obtain⟨L,b,I⟩:=h.ex;have F:Sl Af W v l.length L.flatten:=Aa b fun _ _=>trivial;obtain⟨a,c,e,_⟩:=id F;exact⟨a,c,L,e,F,I.mono fun _ _=>trivial⟩
end
theorem SlAt.at{α:Type}{R:Rp α}{sz:Nat}{ok:Nat->Prop}{w:World}{a:Option Addr}{n c k:Nat}{l:List α}{x:α}(m:R.size=sz)(h:SlAt R ok w (.slice a n c) l)(V:l[k]?=some x):∃b o d,a=some ⟨b,o,none⟩/\ok b/\Cells w b (o+k*sz) d/\R.fits ok w d x:=by
 subst m;obtain⟨p,q,L,e,F,g⟩:=h;cases e;have i:=(List.getElem?_eq_some_iff.1 V).1;have C:L[k]?=some (L[k]'(by rw[g.1];exact i)):=List.getElem?_eq_getElem _;obtain⟨b,o,j,r,I⟩:=Sl.row F g C i;exact⟨b,o,_,j,r,I,g.2 k _ x C V⟩
section
variable {P:Program}{all:Array Oper}{Z:Fr->DS->List PanicEntry->World->Prop}{K:Fr->DS->World->Prop}{rest:List Oper}{f:Fr}{ds:DS}{w:World}{d:Nat}{ty:TypeId}{pos:String}{af:Array Edge}
theorem W_make0S{T e size j:Nat}{z:Value}{l c:Operand}{k E:IntKind}{n:Nat}{N M:Int}[hT:SlT P T e size j z](o:(madeCells z.cells (n*size)).size=n*size)(p:ev f l=.int k N)(m:ev f c=.int E M)(S:N=0)(A:M=(n:Int))(r:j*n<=281474976710656)(s:n<=9223372036854775807)
  (h:∀w',Ext w w'->w'.heap.size=w.heap.size+1->w'.ownsRow w.heap.size e size (.slice (sm w.heap.size) 0 n) 0 []->AT P all Z K rest (upd f d (.slice (sm w.heap.size) 0 n)) ds w'):
  AT P all Z K (⟨some d,.makeSlice T l c,ty,pos,af,none⟩::rest) f ds w:=by
 subst S;subst A;obtain⟨i,H,q,x,g⟩:=hT.out
 have b:(i.bytes:Int)*(n:Int)<=281474976710656:=by
  rw[g];have h:((j*n:Nat):Int)<=281474976710656:=by omega
  rwa [Int.natCast_mul]at h
 have G:=run_make (P:=P) w T e i z hT.und H q k E 0 n U U b U;have a:=New.mk_alloc w (madeCells z.cells (n*size)).toList e;refine A0 (v:=.slice (sm w.heap.size) 0 n) (w':=w.alloc (.cells (madeCells z.cells (n*size)).toList.toArray e)) rfl ?_ (h _ a.E a.size ⟨by simp,.inr ⟨w.heap.size,n,(madeCells z.cells (n*size)).toList.toArray,rfl,Nat.le_refl _,a.D,by omega,by unfold maxLen;omega,by simpa using o,by simp⟩⟩);simp[execOp,p,m,G,x]
end
theorem fill_one{sz:Nat}{b e:LV}(a:b.length=sz)(c:e.length=sz):fillL (fun i=>some (i*sz,sz)) b [(0,.agg e.toArray)]=some e:=by
 have g:(Value.agg e.toArray).cells=e.toArray:=rfl;simp[fillL,g,c,a,splice]
theorem made_len(z:Array Value)(n:Nat):(madeCells z n).size=n:=by simp[madeCells]
end
def dtyR:Rp Dty where
 fits ok w c x:=∃r a b,c=r++(iV x.since::(a++b))/\reqR.fits ok w r x.req/\fmlR.fits ok w a x.first/\fmlR.fits ok w b x.now
 size:=19
 len h:=by
  obtain⟨r,a,b,rfl,Z,W,R⟩:=h;have d:r.length=8:=reqR.len Z;have f:a.length=5:=fmlR.len W;have I:b.length=5:=fmlR.len R;simp[d,f,I]
 one h:=by
  obtain⟨r,a,b,rfl,Z,W,R⟩:=h;refine oneC_app (reqR.one Z) fun u g=>?_;rcases List.mem_cons.1 g with rfl|g
  ·rfl
  ·exact oneC_app (fmlR.one W) (fmlR.one R) u g
 E h k hX:=by obtain⟨r,a,b,e,Z,W,R⟩:=h;exact⟨r,a,b,e,reqR.E Z k hX,fmlR.E W k hX,fmlR.E R k hX⟩
 lt h:=by obtain⟨r,a,b,e,Z,W,R⟩:=h;exact⟨r,a,b,e,reqR.lt Z,fmlR.lt W,fmlR.lt R⟩
 mono h hk:=by obtain⟨r,a,b,e,Z,W,R⟩:=h;exact⟨r,a,b,e,reqR.mono Z hk,fmlR.mono W hk,fmlR.mono R hk⟩
def wchR:Rp (Dty×Fml) where
 fits ok w c x:=∃a b,c=a++b/\dtyR.fits ok w a x.1/\fmlR.fits ok w b x.2
 size:=24
 len h:=by
  obtain⟨a,b,rfl,Z,W⟩:=h;have d:a.length=19:=dtyR.len Z;have r:b.length=5:=fmlR.len W;simp[d,r]
 one h:=by obtain⟨a,b,rfl,Z,W⟩:=h;exact oneC_app (dtyR.one Z) (fmlR.one W)
 E h k hX:=by obtain⟨a,b,e,Z,W⟩:=h;exact⟨a,b,e,dtyR.E Z k hX,fmlR.E W k hX⟩
 lt h:=by obtain⟨a,b,e,Z,W⟩:=h;exact⟨a,b,e,dtyR.lt Z,fmlR.lt W⟩
 mono h hk:=by obtain⟨a,b,e,Z,W⟩:=h;exact⟨a,b,e,dtyR.mono Z hk,fmlR.mono W hk⟩
theorem dty_cells{ok:Nat->Prop}{w:World}{c:LV}{x:Dty}(h:dtyR.fits ok w c x):∃q a b,c=[AL x.req.part,AL x.req.name,iV x.req.kind]++q++(iV x.since::(a++b))/\q.length=5/\a.length=5/\b.length=5/\FAt ok w (.agg q.toArray) x.req.formula/\FAt ok w (.agg a.toArray) x.first/\FAt ok w (.agg b.toArray) x.now:=by
 obtain⟨r,a,b,rfl,⟨q,rfl,K,Z⟩,⟨D,W⟩,⟨S,R⟩⟩:=h;exact⟨q,a,b,rfl,K,D,S,Z,W,R⟩
end Go.Proofs.YtjbocjodncbogaaGreatDoor
