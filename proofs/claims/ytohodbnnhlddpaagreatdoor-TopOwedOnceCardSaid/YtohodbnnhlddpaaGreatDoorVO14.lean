/- TopOwedOnce, part 14 of 14: rules, lemmas, walks. Conditions: none. -/
import Derived.Test.YtohodbnnhlddpaaGreatDoorVO13
import Derived.WalkKit
import Derived.ProofKit
import Derived.OpenShut
import Derived.JoinedCond
import Derived.ChangeStays
import Derived.ReadAgain
import Derived.Deep.Slices
import Derived.Test.YtohodbnnhlddpaaGreatDoorCards
import Derived.Test.YtohodbnnhlddpaaGreatDoorTie
import Derived.Deep.DeepWitnessRowRef
import Derived.Lib.LaidTab
import Derived.JoinedOf
import Derived.KernelRfl
namespace Go.Proofs.YtohodbnnhlddpaaGreatDoor
open Go.RowKit
set_option linter.unusedVariables false
theorem dmake_ok(w:World)(sv:Value)(H:Option Addr)(G:Nat)(y:Dty)(t:Int)(X:sv.oneCell'=true)(M:SlAt dtyR AV w (.slice H 1 G) [y])(P:y.req.kind=2)(C:GF w)(s:KY w)(e:10<=w.heap.size):
  Fn Zp 335 [.agg #[AK y.req.name],.agg [sv,.slice H 1 G,iV t].toArray] w fun u w'=>Ext w w'/\Acc AV dtyR 40 19 w.heap.size w' u (CA y t):=by
 refine AG Tryz.func335 rfl Tryz.ntmps335 (go ?_);refine Ai (L:=[AK y.req.name]) rfl (fun R E=>?_);refine Ai (L:=[sv,.slice H 1 G,iV t]) rfl (fun b N=>?_);have A:=E.E.trans N.E;have c:=E.D.E N.E O;have r:=N.D;refine go ?_;refine AE (without_ok b sv (iV t) H G y t rfl X (M.ext A) P (C.ext A) (s.E A O) (Nat.le_trans e A.size)) rfl ?_;rintro u d⟨g,a⟩;obtain⟨L,I,k⟩:=a.ex;refine go ?_;exact AB rfl ⟨A.trans g,⟨L,Bl I A.size,k⟩⟩
abbrev dropC(nm:LU):LV:=[iV 2,AK [],AK nm,iV 0,iV 0,AK [],iV 0,iV 0,.slice none 0 0]
theorem changeOf_ok(w:World)(nm:LU):Fn Zp 31 [.agg (dropC nm).toArray] w fun u w'=>u=.iface 133 (.agg #[AK nm])/\Ext w w':=by
 refine AG Tryz.func31 rfl Tryz.ntmps31 (go ?_);refine Ai (L:=dropC nm) rfl (fun R E=>?_);have k:=E.D;exact Fa
theorem apply1_ok(w:World)(Z X:Nat)(L:Option Addr)(K:Nat)(S:List Sgn)(H:Option Addr)(G:Nat)(y:Dty)(t:Int)(v:Value)(k:Blk w Z 69 [.iface 133 v])(c:Blk w X 72 [.slice L S.length K,.slice H 1 G,iV t])
  (j:SlAt sgnR AV w (.slice L S.length K) S)(M:SlAt dtyR AV w (.slice H 1 G) [y])(P:y.req.kind=2)(b:0<=t)(C:GF w)(s:KY w)(a:10<=w.heap.size):
  Fn Zp 32 [pt X,pt Z] w fun u w'=>∃e:Int,u=iV e/\Ext w w'/\(e=0↔A5 S=true/\(runG S y.first []).op≠0/\(runG S y.now []).op≠0):=by
 refine AG Tryz.func32 rfl Tryz.ntmps32 (go ?_);refine AE (tcheck_ok w L K S H G y t v j M P b C s a) rfl ?_;rintro _ d⟨e,rfl,l,F⟩;refine go ?_;exact AB rfl ⟨e,rfl,l,F⟩
theorem apply2_ok(w:World)(Z f:Nat)(nm:LU)(sv:Value)(k:Blk w Z 69 [.iface 133 (.agg #[AK nm])])(z:Blk w f 22 [sv])(X:∃a n c,sv=.slice a n c):Fn Zp 34 [pt Z,pt f] w fun u w'=>u=iV 0/\Ext w w':=by
 obtain⟨a,n,c,rfl⟩:=X;refine AG Tryz.func34 rfl Tryz.ntmps34 (go ?_);refine W_invoke rfl (dcheck_ok w nm _) rfl ?_;rintro _ L⟨rfl,l⟩;refine go ?_;exact AB rfl ⟨rfl,l⟩
theorem apply3_ok(w:World)(Z X a:Nat)(y:Dty)(sv tv:Value)(H:Option Addr)(G:Nat)(k:Blk w Z 69 [.iface 133 (.agg #[AK y.req.name])])(S:Blk w X 72 [sv,.slice H 1 G,tv])(c:Blk w a 42 (dropC y.req.name))(M:SlAt dtyR AV w (.slice H 1 G) [y])(P:y.req.kind=2):
  Fn Zp 35 [pt Z,pt X,pt a] w fun u w'=>u=iV 0/\Ext w w':=by
 refine AG Tryz.func35 rfl Tryz.ntmps35 (go ?_);refine AX (rd 0 5 (rd 7 3 (.alt 5 (.read 6 (.alt 10 (.read 11 .done) .stop)) .stop))) An Dv (fun b I f=>⟨Ext b,?_,?_⟩)
 ·exact Ew
 have d:=k.E I O;have E:=S.E I O;have e:=c.E I O;refine go ?_;refine D_R (v:=.func (.method "foresight/owe.clash") #[.iface 133 (.agg #[AK y.req.name])] #[]) rfl rfl (fun V i=>by refine W_makeMeth rfl ?_;exact AA ⟨rfl,rfl,rfl⟩) ?_;refine D_R (v:=.func (.method "foresight/owe.clash") #[.iface 133 (.agg #[AK y.req.name])] #[]) rfl rfl (fun V i=>by refine W_nilCheckM (T:=133) (name:= "foresight/owe.clash") rfl ?_;exact AA ⟨rfl,rfl,rfl⟩) ?_;refine go ?_;refine D_E rfl ?_;refine AE (ofind_ok b sv H G [y] tv y.req.name (M.ext I) O) rfl ?_;rintro _ L⟨rfl,l⟩;rw[fidx_one P];refine wNl l ?_;refine go ?_;refine D_E rfl ?_;refine W_invoke rfl (dclash_ok L y.req.name) rfl ?_;rintro _ j⟨rfl,g⟩;refine wNl (l.trans g) ?_;refine go ?_;exact AB rfl ⟨rfl,(I.trans l).trans g⟩
theorem drop_len(y:Dty)(t:Int):(CA y t).length<=1:=by
 unfold CA
 split<;>simp
theorem drop_one(y:Dty)(t:Int):CA y t=[]\/∃z,CA y t=[z]/\z.req.kind=3/\z.req.formula=y.req.formula/\z.first=Cq y.first y.now/\z.now=Cq y.first y.now:=by
 unfold CA
 split
 ·exact .inl rfl
 ·exact .inr ⟨_,rfl,rfl,rfl,rfl,rfl⟩
theorem apply_ok(w:World)(C:Option Addr)(D:Nat)(S:List Sgn)(H:Option Addr)(G:Nat)(y:Dty)(t:Int)(hS:SlAt sgnR AV w (.slice C S.length D) S)(hl:SlAt dtyR AV w (.slice H 1 G) [y])(P:y.req.kind=2)(ht:0<=t)(hz:szF y.req.formula+2*szF (Cq y.first y.now)<=1000000)(hG:GF w)(hK:KY w)(hN:10<=w.heap.size):
  Fn Zp 12 [.slice C S.length D,.slice H 1 G,.agg (dropC y.req.name).toArray,iV t] w fun u w'=>∃(v:Value)(e:Int),u=.tuple #[v,iV e]/\Ext w w'/\(e=0↔A5 S=true/\(runG S y.first []).op≠0/\(runG S y.now []).op≠0)/\(e=0->SlAt dtyR AV w' v (CA y t)):=by
 refine AG Tryz.func12 rfl Tryz.ntmps12 (go ?_);refine Ai (L:=[.slice C S.length D]) rfl (fun w1 n1=>?_);refine Ai (L:=dropC y.req.name) rfl (fun w2 Q=>?_);have z1:=n1.size;have z2:=Q.size;have e2:=n1.E.trans Q.E;have B1:=n1.D.E Q.E O;have B2:=Q.D;refine go ?_;refine AE (changeOf_ok w2 y.req.name) rfl ?_;rintro _ a⟨rfl,k3⟩;have z3:=k3.size;refine AS (fun w4 n4=>?_);refine AR (v:=.iface 133 (.agg #[AK y.req.name])) rfl rfl rfl n4.D O (fun i p5=>?_);have z4:=n4.size;have z5:=p5.size;have c7:Ext a i:=n4.E.E p5.E O;have B5:Blk i a.heap.size 69 [.iface 133 (.agg #[AK y.req.name])]:=p5.D;have a4:=k3.trans c7;have C1:=B1.E a4 O;have C2:=B2.E a4 O;have e5:=e2.trans a4;refine go ?_;refine Au (cs:=[.slice C S.length D,.slice H 1 G,iV t]) rfl rfl Dx (AW rfl) (fun w6 j=>?_);have z6:=j.size;have B6:=j.D;have D1:=C1.E j.E O;have D2:=C2.E j.E O;have D5:=B5.E j.E O;have e6:=e5.trans j.E;refine go ?_;refine CT (out:=[.func (.func 32) #[] #[pt i.heap.size,pt a.heap.size],.func (.func 34) #[] #[pt a.heap.size,pt w.heap.size],.func (.func 35) #[] #[pt a.heap.size,pt i.heap.size,pt w1.heap.size]]) rfl U rfl rfl (fun w7 E=>?_);have B7:=E.D;have e7:=e6.trans E.E;have E1:=D1.E E.E O;have E2:=D2.E E.E O;have E5:=D5.E E.E O;have E6:=B6.E E.E O;refine go ?_;refine Ah (α:=Nat) (fun k=>[(10,pt a.heap.size),(11,pt i.heap.size),(31,.slice (sm w6.heap.size) 3 3),(32,iV 3),(33,iV (k:Int))]) (fun k W=>k<=3/\Ext w7 W/\(1<=k->A5 S=true/\(runG S y.first []).op≠0/\(runG S y.now []).op≠0)) (fun k=>3-k) 0 ag ⟨by omega,Ext.refl _,fun h=>by omega⟩ ?_;rintro k W fr⟨d6,f,T⟩;have M:=e7.trans f;have X:=B7.E f O;have F1:=E1.E f O;have F2:=E2.E f O;have R:=E5.E f O;have F6:=E6.E f O;have b8:=hS.ext M;have a2:=hl.ext M;have a5:=hG.ext M;have a6:=hK.E M O;have a7:=Nat.le_trans hN M.size;refine go ?_;by_cases d7:k<3
 ·have c1:k=0\/k=1\/k=2:=by omega
  rcases c1 with rfl|rfl|rfl
  ·have c0:=X.cell (o:=0+0) rfl;refine go ?_;refine Az (v1:=[]) (v2:=[pt i.heap.size,pt a.heap.size]) (vs:=[]) rfl (apply1_ok W a.heap.size i.heap.size C D S H G y t _ R F6 b8 a2 P ht a5 a6 a7) rfl ?_;rintro _ p⟨e,rfl,c,he⟩;by_cases s:e=0
   ·subst s;refine go ?_;exact⟨1,⟨rfl,ag,⟨by omega,f.trans c,fun _=>he.1 rfl⟩⟩,by omega⟩
   ·refine go ?_;exact C5 rfl ⟨_,e,rfl,M.trans c,he,fun h=>absurd h s⟩
  ·have c0:=X.cell (o:=0+1) rfl;refine go ?_;refine Az (v1:=[]) (v2:=[pt a.heap.size,pt w.heap.size]) (vs:=[]) rfl (apply2_ok W a.heap.size w.heap.size y.req.name _ R F1 ⟨_,_,_,rfl⟩) rfl ?_;rintro _ p⟨rfl,c⟩;refine go ?_;exact⟨2,⟨rfl,ag,⟨by omega,f.trans c,fun _=>T U⟩⟩,by omega⟩
  ·have c0:=X.cell (o:=0+2) rfl;refine go ?_;refine Az (v1:=[]) (v2:=[pt a.heap.size,pt i.heap.size,pt w1.heap.size]) (vs:=[]) rfl (apply3_ok W a.heap.size i.heap.size w1.heap.size y _ _ H G R F6 F2 a2 P) rfl ?_;rintro _ p⟨rfl,c⟩;refine go ?_;exact⟨3,⟨rfl,ag,⟨by omega,f.trans c,fun _=>T U⟩⟩,by omega⟩
 ·obtain rfl:k=3:=by omega
  have c5:=T U;refine go ?_;refine W_invoke rfl (dmake_ok W _ H G y t rfl a2 P a5 a6 a7) rfl ?_;rintro u p⟨c,Z⟩;have e8:=M.trans c;have a9:=drop_len y t;have b0:=drop_one y t;have a3:=Z.sl
  have b4:∀z∈CA y t,szF z.req.formula+szF z.first+szF z.now<=1000000:=fun z B=>by
   rcases b0 with e|⟨z',e,h1,h2,h3,h4⟩
   ·rw[e]at B;cases B
   ·rw[e]at B;simp at B;subst B;rw[h2,h3,h4];omega
  clear b0;generalize CA y t=l at Z a9 a3 b4⊢;obtain⟨n,r,rfl,_⟩:=a3.len;refine go ?_;refine Ah (α:=Nat×Nat) (fun q=>[(16,.slice n l.length r),(17,iV (q.2:Int)),(46,.slice n l.length r),(47,iV (l.length:Int)),(48,iV (q.1:Int))]) (fun q V=>q.1<=l.length/\q.2<=q.1/\Ext p V) (fun q=>l.length-q.1) (0,0) ag ⟨by omega,by omega,Ext.refl _⟩ ?_;rintro⟨k,m⟩V c9⟨hk1,I,K⟩;simp only at hk1 I K;refine go ?_;by_cases c2:k<l.length
  ·obtain⟨x,hx⟩:=gl c2;obtain⟨b,o,d,rfl,A,hd,a1⟩:=a3.at (sz:=19) rfl hx;have N:d.length=19:=dtyR.len a1;refine go ?_;refine AQ (L:=d) rfl N (hd.E K O) ?_;refine Au (cs:=d) rfl N Dx (dtyR.one a1) (fun V2 m2=>go ?_);refine Bp rfl m2.D N ?_;refine AE (inForce_ok V2 d x (dtyR.ext a1 (K.trans m2.E))) rfl ?_;rintro _ V3⟨rfl,j3⟩;have b5:=(K.trans m2.E).trans j3;cases hf:(decide (x.req.kind=1)||decide (x.req.kind=2))with
   |true=>
    refine go ?_;exact⟨(k+1,m+1),⟨rfl,ag,⟨by simp only;omega,by simp only;omega,b5⟩⟩,by simp only;omega⟩
   |false=>
    refine go ?_;exact⟨(k+1,m),⟨rfl,ag,⟨by simp only;omega,by simp only;omega,b5⟩⟩,by simp only;omega⟩
  ·refine go ?_;have b7:=Z.ext K;have eV:=e8.trans K;have d9:=M.size;refine Ah (α:=Nat) (fun q=>[(16,.slice n l.length r),(64,.slice n l.length r),(65,iV (l.length:Int)),(66,iV (q:Int))]) (fun q V=>q<=l.length/\Ext w V/\(q=0->Acc AV dtyR 40 19 W.heap.size V (.slice n l.length r) l)/\(q=1->SlAt dtyR AV V (.slice n l.length r) l)) (fun q=>l.length-q) 0 ag ⟨by omega,eV,fun _=>b7,fun h=>by omega⟩ ?_;rintro q V4 d0⟨d8,e4,b3,c4⟩;refine go ?_;by_cases c3:q<l.length
   ·obtain rfl:q=0:=by omega
    obtain⟨z,rfl⟩:∃z,l=[z]:=by
     match l,a9,c3 with
     | [z],_,_=>exact⟨z,rfl⟩
     | [],_,h=>exact absurd h O
    obtain⟨L4,o4,f4⟩:=(b3 rfl).ex
    obtain⟨d,rfl⟩:∃d,L4=[d]:=by
     have:=f4.1
     match L4,this with
     | [d],_=>exact⟨d,rfl⟩
    have b2:=f4.2 0 d z rfl rfl;have N:d.length=19:=dtyR.len b2;obtain⟨g,c8,Lg,e,hg,a8,d1,d2,d3,d4,c6⟩:=own_set1 o4;cases e
    have b9:Cells V4 g (0+0*19) d:=by
     obtain⟨a',c',e,_,_,_,hx⟩:=Aa (ok:=AV) o4 fun _ _=>trivial;cases e;obtain⟨b',o',e,_,hc⟩:=hx.resolve_left O;cases e;simpa using hc
    refine go ?_;refine AQ (L:=d) rfl N b9 ?_;refine AE (ocopied_ok V4 d z _ (dtyR.lt b2) (b4 z O)) rfl ?_;rintro u5 V5⟨F,rfl,k5,a0⟩;have b1:F.length=19:=dtyR.len a0;have d5:=a8.lt;refine go ?_;refine AH (cs:=F) rfl rfl b1 (dtyR.one a0) (a8.E k5 O) U (fun V6 p6=>?_);have b6:Ext w V6:=(e4.trans k5).E p6.E Dw;refine go ?_;refine⟨1,⟨rfl,ag,⟨by simp,b6,fun h=>by omega,fun _=>?_⟩⟩,by simp⟩;have hr:=c6 V6 F b1 p6.D;have hs:=Aa (ok:=AV) hr fun _ _=>trivial
    exact⟨some ⟨g,0,none⟩,_,[F],rfl,by simpa using hs,RsAt.one (dtyR.mono (dtyR.E a0 p6.E fun b A I=>by
     rw[List.mem_singleton]at I;rcases A with A|A
     ·exact A.1.2 (by rw[I];rfl)
     ·omega) fun _ _=>trivial)⟩
   ·obtain rfl:q=l.length:=by omega
    refine go ?_;refine C5 rfl ⟨_,0,rfl,e4,by simpa using c5,fun _=>?_⟩;by_cases s:l.length=0
    ·exact(b3 s).sl
    ·exact c4 U
theorem sem_is(s:Wd)(nm:LU)(v:Int)(t:Nat):sem s (isF nm v) t↔s t nm=v:=by
 unfold isF;rw[sem_mk];simp[opS,opP]
theorem ow_sem(s:Wd)(t:Nat):sem s owW t↔CX (fun _=>True) (fun i=>s i [103]=1) t:=by
 unfold owW;rw[sem_mk];have b:sem s ⟨1,[],0,0,[]⟩=fun _=>True:=by funext i;rw[sem_mk];simp[opS,opP]
 have A:sem s (isF [103] 1)=fun i=>s i [103]=1:=by funext i;exact propext (sem_is s _ _ i)
 simp only[List.map_cons,List.map_nil,b,A];simp[opS,opP]
theorem w_two:vlS spcW.sigs 2 [103]=1:=by kernel_rfl
theorem w_one:vlS spcW.sigs 1 [103]=0:=by kernel_rfl
theorem ow_yes:sem (wdG spcW.sigs ([0]++[2]) 1 1) owW 0:=by
 rw[ow_sem];refine⟨1,by omega,?_,fun _ _ _=>trivial⟩;exact w_two
theorem ow_no:¬sem (wdG spcW.sigs ([]++[1]) 0 1) owW 0:=by
 rw[ow_sem];rintro⟨x,_,h,_⟩;have e:lixN 0 1 x=0:=by unfold lixN;split<;>omega
 have A:wdG spcW.sigs ([]++[1]) 0 1 x [103]=0:=by unfold wdG;rw[e];exact w_one
 rw[A]at h;cases h
theorem madeI1:(madeCells (iV 0).cells (1*1)).toList=[iV 0]:=by kernel_rfl
set_option maxHeartbeats 1000000 in
theorem owed_ok(w:World)(hP:GK w)(C:GF w)(s:KY w)(hN:10<=w.heap.size):Fn Zp 5 [] w fun u w'=>u=.bool true/\Ext w w':=by
 refine AG Tryz.func5 rfl Tryz.ntmps5 (go ?_);refine AE (parseS_is w _ spcW hP parse_W) rfl ?_;rintro _ w1⟨c,rfl,k1,sv,rv,rfl,hS,hR⟩;obtain⟨p,K,rfl,_⟩:=hS.len;obtain⟨ra,rc,rfl,_⟩:=hR.len;refine go ?_;refine Au (cs:=[.slice p spcW.sigs.length K,.slice ra spcW.reqs.length rc]) rfl rfl Dx (AW rfl) (fun w2 n2=>?_);have e2:=k1.trans n2.E;have B2:=n2.D;refine go ?_;refine AE (mstart_ok w2 p K ra rc spcW 0 U (hS.ext n2.E) (hR.ext n2.E) (fun r hr=>by simp[spcW]at hr;subst hr;exact of_decide_eq_true Dv) (C.ext e2) (s.E e2 O) (Nat.le_trans hN e2.size)) rfl ?_;rintro _ w3⟨v3,e3,rfl,k3,c1,b8⟩;obtain rfl:=c1.2 w_chk;have hD3:=b8 w_chk;have y3:=e2.trans k3;have B3:=B2.E k3 O;have hS3:=(hS.ext n2.E).ext k3;obtain⟨da,dc,e,_⟩:=hD3.len;replace e:v3=.slice da 1 dc:=e;subst e;refine go ?_;refine AE (mtick_ok w3 p K spcW.sigs da dc (startF spcW 0) 1 hS3 hD3 (by simp[startF,spcW]) (fun y hy=>by simp[startF,spcW]at hy;subst hy;exact⟨of_decide_eq_true Dv,of_decide_eq_true Dv⟩) (C.ext y3) (s.E y3 O) (Nat.le_trans hN y3.size)) rfl ?_;rintro v4 w4⟨k4,a6⟩;rw[w_tick]at a6;have y4:=y3.trans k4;have B4:=B3.E k4 O;have b5:=hS3.ext k4;obtain⟨ea,ec,e,_⟩:=a6.len;replace e:v4=.slice ea 1 ec:=e;subst e;refine go ?_;refine AE (apply_ok w4 p K spcW.sigs ea ec duW 1 b5 a6 rfl U (of_decide_eq_true Dv) (C.ext y4) (s.E y4 O) (Nat.le_trans hN y4.size)) rfl ?_;rintro _ w5⟨v5,e5,rfl,k5,c2,b9⟩;obtain rfl:=c2.2 ⟨w_valid,by rw[w_first];decide,by rw[w_now];decide⟩;have a3:=b9 rfl;rw[w_drop]at a3;have y5:=y4.trans k5;have B5:=B4.E k5 O;have b7:=b5.ext k5;obtain⟨fa,n,e,_⟩:=a3.len;replace e:v5=.slice fa 1 n:=e;subst e;obtain⟨gb,b2,d,c4, -,c0,c3⟩:=a3.at (sz:=19) (k:=0) rfl rfl;subst c4;refine go ?_;refine AX (rd 0 19 (.alt 19 (.alt 20 (.alt 21 (.read 22 (.alt 23 (rd 24 5 (.alt 29 (.alt 30 (.read 31 (.alt 32 (rd 33 3 .done) .stop)) .stop) (.alt 30 (.read 31 (.alt 29 (.alt 32 (rd 33 3 .done) .stop) .stop)) .stop))) .stop)) .stop) (.alt 21 (.alt 20 (.read 22 (.alt 23 (rd 24 5 (.alt 29 (.alt 30 (.read 31 (.alt 32 (rd 33 3 .done) .stop)) .stop) (.alt 30 (.read 31 (.alt 29 (.alt 32 (rd 33 3 .done) .stop) .stop)) .stop))) .stop)) .stop) .stop)) (.alt 20 (.alt 19 (.alt 21 (.read 22 (.alt 23 (rd 24 5 (.alt 29 (.alt 30 (.read 31 (.alt 32 (rd 33 3 .done) .stop)) .stop) (.alt 30 (.read 31 (.alt 29 (.alt 32 (rd 33 3 .done) .stop) .stop)) .stop))) .stop)) .stop) (.alt 21 (.read 22 (.alt 19 (.alt 23 (rd 24 5 (.alt 29 (.alt 30 (.read 31 (.alt 32 (rd 33 3 .done) .stop)) .stop) (.alt 30 (.read 31 (.alt 29 (.alt 32 (rd 33 3 .done) .stop) .stop)) .stop))) .stop) .stop)) .stop)) (.alt 21 (.alt 19 (.alt 20 (.read 22 (.alt 23 (rd 24 5 (.alt 29 (.alt 30 (.read 31 (.alt 32 (rd 33 3 .done) .stop)) .stop) (.alt 30 (.read 31 (.alt 29 (.alt 32 (rd 33 3 .done) .stop) .stop)) .stop))) .stop)) .stop) (.alt 20 (.read 22 (.alt 19 (.alt 23 (rd 24 5 (.alt 29 (.alt 30 (.read 31 (.alt 32 (rd 33 3 .done) .stop)) .stop) (.alt 30 (.read 31 (.alt 29 (.alt 32 (rd 33 3 .done) .stop) .stop)) .stop))) .stop) .stop)) .stop)) .stop)))) An Dv (fun H I ed=>⟨Ext H,?_,?_⟩)
 ·exact Ew
 have a0:=y5.trans I;have v:=a3.ext I;have z:=C.ext a0;have A:=s.E a0 O;have D:=Nat.le_trans hN a0.size;have c9:=B5.E I O;have b6:=b7.ext I;obtain⟨q0,q1,q2,q3,q4,o,f,t,T,a4,q,m,E,b3,b4,rfl, -, -, -⟩:=dty19 c3
 have ck:H.cell? ⟨gb,b2+0*19+0+2,none⟩=some (iV 3):=by
  have:=(c0.E I O) 2 _ rfl;exact this
 have a:Ext H H:=Ext.refl H;have o:Ext H H:=Ext.refl H;refine go ?_
 refine D_leaf (α:=Nat×Nat×Value×Value×Value×Value×Value) (.alt 23 (rd 24 5 (.alt 29 (.alt 30 (.read 31 (.alt 32 (rd 33 3 .done) .stop)) .stop) (.alt 30 (.read 31 (.alt 29 (.alt 32 (rd 33 3 .done) .stop) .stop)) .stop))) .stop) (fun u=>[(1,pt w1.heap.size),(6,.slice (some ⟨gb,b2,none⟩) 1 n),(57,.bool true),(59,.slice p spcW.sigs.length K),(61,.agg [u.2.2.1,u.2.2.2.1,u.2.2.2.2.1,u.2.2.2.2.2.1,u.2.2.2.2.2.2].toArray),(64,.agg [.slice (sm u.1) 1 1,.slice (sm u.2.1) 1 1].toArray)])
  (fun u V=>Ext H V/\FAt AV V (.agg [u.2.2.1,u.2.2.2.1,u.2.2.2.2.1,u.2.2.2.2.2.1,u.2.2.2.2.2.2].toArray) owW/\Blk V u.1 3 [iV 0]/\Blk V u.2.1 3 [iV 2]) ?_ (fun x=>?_)
 rotate_left
 ·refine id ?_;refine D_A rfl ?_ ?_
  ·refine go ?_;refine AE (mgoal_ok H _ n _ (v.ext (a.trans o)) (show[drW].length<=100 by simp) (z.ext (a.trans o)) (A.E (a.trans o) O) (Nat.le_trans D (a.trans o).size)) rfl ?_;rintro Z X⟨W,b⟩;rw[w_goal]at b;obtain⟨G,rfl,S, -⟩:=b.cells;obtain⟨j,g,N,l,i,rfl⟩:=Ab S;have f:=o.trans W;refine wNl (a.trans f) ?_;refine D_A rfl ?_ ?_
   ·refine go ?_;refine AP (out:=[iV 0]) rfl U EE (fun R Q=>?_);have P:=Q.E;have t:=f.trans P;refine wNl (a.trans t) ?_;refine D_E rfl (go ?_);refine AP (out:=[iV 2]) rfl U EE (fun A3 M=>?_);have L:=M.E;have T:=t.trans L;refine wNl (a.trans T) ?_;refine go ?_;exact x (X.heap.size,R.heap.size,j,g,N,l,i) _ _ ag ⟨a.trans T,(((b.ext P).ext L).mono fun _ _=>trivial),(Q.D.E L O),M.D⟩
   ·refine D_E rfl (go ?_);refine AP (out:=[iV 2]) rfl U EE (fun R M=>?_);have P:=M.E;have t:=f.trans P;refine wNl (a.trans t) ?_;refine D_E rfl (go ?_);refine AP (out:=[iV 0]) rfl U EE (fun A3 Q=>?_);have L:=Q.E;have T:=t.trans L;refine wNl (a.trans T) ?_;refine go ?_;exact x (R.heap.size,X.heap.size,j,g,N,l,i) _ _ ag ⟨a.trans T,(((b.ext P).ext L).mono fun _ _=>trivial),Q.D,(M.D.E L O)⟩
  ·refine D_A rfl ?_ ?_
   ·refine go ?_;refine AP (out:=[iV 0]) rfl U EE (fun X Q=>?_);have W:=Q.E;have f:=o.trans W;refine wNl (a.trans f) ?_;refine D_A rfl ?_ ?_
    ·refine go ?_;refine AE (mgoal_ok X _ n _ (v.ext (a.trans f)) (show[drW].length<=100 by simp) (z.ext (a.trans f)) (A.E (a.trans f) O) (Nat.le_trans D (a.trans f).size)) rfl ?_;rintro Z R⟨P,b⟩;rw[w_goal]at b;obtain⟨G,rfl,S, -⟩:=b.cells;obtain⟨j,g,N,l,i,rfl⟩:=Ab S;have t:=f.trans P;refine wNl (a.trans t) ?_;refine D_E rfl (go ?_);refine AP (out:=[iV 2]) rfl U EE (fun A3 M=>?_);have L:=M.E;have T:=t.trans L;refine wNl (a.trans T) ?_;refine go ?_;exact x (H.heap.size,R.heap.size,j,g,N,l,i) _ _ ag ⟨a.trans T,((b.ext L).mono fun _ _=>trivial),((Q.D.E P O).E L O),M.D⟩
    ·refine D_E rfl (go ?_);refine AP (out:=[iV 2]) rfl U EE (fun R M=>?_);have P:=M.E;have t:=f.trans P;refine wNl (a.trans t) ?_;refine go ?_;refine D_E rfl (go ?_);refine AE (mgoal_ok R _ n _ (v.ext (a.trans t)) (show[drW].length<=100 by simp) (z.ext (a.trans t)) (A.E (a.trans t) O) (Nat.le_trans D (a.trans t).size)) rfl ?_;rintro Z A3⟨L,b⟩;rw[w_goal]at b;obtain⟨G,rfl,S, -⟩:=b.cells;obtain⟨j,g,N,l,i,rfl⟩:=Ab S;have T:=t.trans L;refine wNl (a.trans T) ?_;exact x (H.heap.size,X.heap.size,j,g,N,l,i) _ _ ag ⟨a.trans T,(b.mono fun _ _=>trivial),((Q.D.E P O).E L O),(M.D.E L O)⟩
   ·refine D_E rfl (go ?_);refine AP (out:=[iV 2]) rfl U EE (fun X M=>?_);have W:=M.E;have f:=o.trans W;refine wNl (a.trans f) ?_;refine D_A rfl ?_ ?_
    ·refine go ?_;refine AE (mgoal_ok X _ n _ (v.ext (a.trans f)) (show[drW].length<=100 by simp) (z.ext (a.trans f)) (A.E (a.trans f) O) (Nat.le_trans D (a.trans f).size)) rfl ?_;rintro Z R⟨P,b⟩;rw[w_goal]at b;obtain⟨G,rfl,S, -⟩:=b.cells;obtain⟨j,g,N,l,i,rfl⟩:=Ab S;have t:=f.trans P;refine wNl (a.trans t) ?_;refine D_E rfl (go ?_);refine AP (out:=[iV 0]) rfl U EE (fun A3 Q=>?_);have L:=Q.E;have T:=t.trans L;refine wNl (a.trans T) ?_;refine go ?_;exact x (R.heap.size,H.heap.size,j,g,N,l,i) _ _ ag ⟨a.trans T,((b.ext L).mono fun _ _=>trivial),Q.D,((M.D.E P O).E L O)⟩
    ·refine D_E rfl (go ?_);refine AP (out:=[iV 0]) rfl U EE (fun R Q=>?_);have P:=Q.E;have t:=f.trans P;refine wNl (a.trans t) ?_;refine go ?_;refine D_E rfl (go ?_);refine AE (mgoal_ok R _ n _ (v.ext (a.trans t)) (show[drW].length<=100 by simp) (z.ext (a.trans t)) (A.E (a.trans t) O) (Nat.le_trans D (a.trans t).size)) rfl ?_;rintro Z A3⟨L,b⟩;rw[w_goal]at b;obtain⟨G,rfl,S, -⟩:=b.cells;obtain⟨j,g,N,l,i,rfl⟩:=Ab S;have T:=t.trans L;refine wNl (a.trans T) ?_;exact x (X.heap.size,H.heap.size,j,g,N,l,i) _ _ ag ⟨a.trans T,(b.mono fun _ _=>trivial),(Q.D.E L O),((M.D.E P O).E L O)⟩
 rintro⟨g1,g2,j,g,N,l,i⟩f' V⟨eV,fg,a8,a9⟩;simp only at fg a8 a9;have a5:=a0.trans eV;have c5:LasG V [.slice (sm g1) 1 1,.slice (sm g2) 1 1] [0] [2]:=⟨_,_,_,_,rfl,⟨_,1,rfl,by simp,by omega,(fun h=>by cases h),.inr ⟨g1,0,rfl,trivial,a8.cells⟩⟩,⟨_,1,rfl,by simp,by omega,(fun h=>by cases h),.inr ⟨g2,0,rfl,trivial,a9.cells⟩⟩⟩;refine D_E rfl (go ?_);refine AE (wholds_ok V p K spcW.sigs _ owW _ [0] [2] (b6.ext eV) w_valid fg w_lk c5 O O O (by rw[w_num];simp) (by rw[w_num];simp) (C.ext a5) (s.E a5 O) (Nat.le_trans hN a5.size)) rfl ?_;rintro _ wb⟨rfl,kb⟩;have F:=eV.trans kb;have c7:tv (sem (wdG spcW.sigs ([0]++[2]) ([0]:List Int).length ([2]:List Int).length) owW 0)=true:=tv_iff.2 ow_yes;rw[c7];refine wNl F ?_;have q:Ext wb wb:=Ext.refl wb;refine go ?_
 refine D_leaf (α:=Nat×Value×Value×Value×Value×Value) (.alt 32 (rd 33 3 .done) .stop) (fun u=>[(67,.bool true),(69,.slice p spcW.sigs.length K),(71,.agg [u.2.1,u.2.2.1,u.2.2.2.1,u.2.2.2.2.1,u.2.2.2.2.2].toArray),(73,.agg [.slice none 0 0,.slice (sm u.1) 1 1].toArray)])
  (fun u V=>Ext H V/\FAt AV V (.agg [u.2.1,u.2.2.1,u.2.2.2.1,u.2.2.2.2.1,u.2.2.2.2.2].toArray) owW/\Blk V u.1 3 [iV 1]) ?_ (fun x=>?_)
 rotate_left
 ·refine id ?_;refine D_A rfl ?_ ?_
  ·refine go ?_;refine AE (mgoal_ok wb _ n _ (v.ext (F.trans q)) (show[drW].length<=100 by simp) (z.ext (F.trans q)) (A.E (F.trans q) O) (Nat.le_trans D (F.trans q).size)) rfl ?_;rintro Z B1⟨a7,b⟩;rw[w_goal]at b;obtain⟨G,rfl,S, -⟩:=b.cells;obtain⟨j,g,N,l,i,rfl⟩:=Ab S;have m:=q.trans a7;refine wNl (F.trans m) ?_;refine D_E rfl (go ?_);refine AP (out:=[iV 1]) rfl U EE (fun B2 a1=>?_);have B:=a1.E;have E:=m.trans B;refine wNl (F.trans E) ?_;refine go ?_;exact x (B1.heap.size,j,g,N,l,i) _ _ ag ⟨F.trans E,((b.ext B).mono fun _ _=>trivial),a1.D⟩
  ·refine D_E rfl (go ?_);refine AP (out:=[iV 1]) rfl U EE (fun B1 a1=>?_);have a7:=a1.E;have m:=q.trans a7;refine wNl (F.trans m) ?_;refine go ?_;refine D_E rfl (go ?_);refine AE (mgoal_ok B1 _ n _ (v.ext (F.trans m)) (show[drW].length<=100 by simp) (z.ext (F.trans m)) (A.E (F.trans m) O) (Nat.le_trans D (F.trans m).size)) rfl ?_;rintro Z B2⟨B,b⟩;rw[w_goal]at b;obtain⟨G,rfl,S, -⟩:=b.cells;obtain⟨j,g,N,l,i,rfl⟩:=Ab S;have E:=m.trans B;refine wNl (F.trans E) ?_;exact x (wb.heap.size,j,g,N,l,i) _ _ ag ⟨F.trans E,(b.mono fun _ _=>trivial),(a1.D.E B O)⟩
 rintro⟨g3,j,g,N,l,i⟩f' V3⟨eV3,b1,b0⟩;simp only at b1 b0;have a2:=a0.trans eV3;have c6:LasG V3 [.slice none 0 0,.slice (sm g3) 1 1] [] [1]:=⟨_,_,_,_,rfl,⟨_,0,rfl,by simp,by omega,(fun h=>rfl),.inl rfl⟩,⟨_,1,rfl,by simp,by omega,(fun h=>by cases h),.inr ⟨g3,0,rfl,trivial,b0.cells⟩⟩⟩;refine D_E rfl (go ?_);refine AE (wholds_ok V3 p K spcW.sigs _ owW _ [] [1] (b6.ext eV3) w_valid b1 w_lk c6 O O O O (by rw[w_num];simp) (C.ext a2) (s.E a2 O) (Nat.le_trans hN a2.size)) rfl ?_;rintro _ wc⟨rfl,kc⟩
 have c8:tv (sem (wdG spcW.sigs ([]++[1]) ([]:List Int).length ([1]:List Int).length) owW 0)=false:=by
  cases hq:tv (sem (wdG spcW.sigs ([]++[1]) ([]:List Int).length ([1]:List Int).length) owW 0)with
  |false=>rfl
  |true=>exact absurd (tv_iff.1 hq) ow_no
 rw[c8];refine wNl (eV3.trans kc) ?_;refine go ?_;exact AB rfl ⟨rfl,a2.trans kc⟩
theorem tick_mem{S:List Sgn}{d:List Dty}{x:Int}:(tickF S d x).length<=d.length/\∀y∈tickF S d x,∃z∈d,y.req=z.req/\y.first=z.first:=by
 unfold tickF
 split
 ·exact⟨by simp,fun y F=>by cases F⟩
 ·refine⟨by simp,fun y F=>?_⟩;obtain⟨z,o,rfl⟩:=List.mem_map.1 F;exact⟨z,o,rfl,rfl⟩
theorem ticks_mem{S:List Sgn}:∀(xs:List Int)(d:List Dty),(CP S d xs).length<=d.length/\∀y∈CP S d xs,∃z∈d,y.req=z.req/\y.first=z.first
 | [],d=>⟨Nat.le_refl _,fun y F=>⟨y,F,rfl,rfl⟩⟩
 |x::xs,d=>by
  obtain⟨X,W⟩:=ticks_mem xs (tickF S d x);obtain⟨Q,a⟩:=tick_mem (S:=S) (d:=d) (x:=x);refine⟨Nat.le_trans X Q,fun y F=>?_⟩;obtain⟨z,o,b,A⟩:=W y F;obtain⟨u,n,E,V⟩:=a z o;exact⟨u,n,b.trans E,A.trans V⟩
theorem ticks_snoc(S:List Sgn)(x:Int):∀(xs:List Int)(d:List Dty),CP S d (xs++[x])=tickF S (CP S d xs) x
 | [],_=>rfl
 |y::xs,d=>ticks_snoc S x xs (tickF S d y)
theorem smallReq_ok(w:World)(d:LV)(r:Rqm)(C:reqR.fits AV w d r):Fn Zp 65 [.agg d.toArray] w fun u w'=>∃b:Bool,u=.bool b/\Ext w w'/\(b=true->szF r.formula<=120):=by
 obtain⟨g,v,X,a,Q,rfl,K⟩:=req8 C;refine AG Tryz.func65 rfl Tryz.ntmps65 (go ?_);refine Ai (L:=[AK r.part,AK r.name,iV r.kind,g,v,X,a,Q]) rfl (fun R E=>?_);have k:=E.D;have T:Cells R w.heap.size (0+3) [g,v,X,a,Q]:=k.cells.part 3 5;by_cases e:r.part.length<=40
 ·by_cases W:r.name.length<=40
  ·refine go ?_;refine AQ (L:=[g,v,X,a,Q]) rfl rfl T (go ?_);refine AE (rsmall_ok R _ r.formula 120 U (K.ext E.E)) rfl ?_;rintro _ f⟨rfl,c⟩;refine go ?_;exact AB rfl ⟨_,rfl,E.E.trans c,fun h=>by simpa using h⟩
  ·exact FC
 ·exact FC
theorem smallDuty_ok(w:World)(d:LV)(y:Dty)(C:dtyR.fits AV w d y):Fn Zp 24 [.agg d.toArray] w fun u w'=>∃b:Bool,u=.bool b/\Ext w w'/\(b=true->szF y.req.formula<=120/\szF y.first<=120/\szF y.now<=120):=by
 obtain⟨g,v,X,r,Q,H,c,t,T,e,f,m,i,j,n,rfl,K,Z,M⟩:=dty19 C;refine AG Tryz.func24 rfl Tryz.ntmps24 (go ?_);refine Ai (L:=[AK y.req.part,AK y.req.name,iV y.req.kind,g,v,X,r,Q,iV y.since,H,c,t,T,e,f,m,i,j,n]) rfl (fun R p=>?_);have k:=p.D;have I:Cells R w.heap.size (0+0) [AK y.req.part,AK y.req.name,iV y.req.kind,g,v,X,r,Q]:=k.cells.part 0 8;refine go ?_;refine AQ (L:=[AK y.req.part,AK y.req.name,iV y.req.kind,g,v,X,r,Q]) rfl rfl I ?_;refine AE (smallReq_ok R _ y.req ⟨[g,v,X,r,Q],rfl,rfl,K.ext p.E⟩) rfl ?_;rintro _ B⟨s,rfl,l,N⟩;have A:=p.E.trans l;have x:=k.E l O;cases s with
 |false=>
  refine go ?_;exact E7
 |true=>
  have F:Cells B w.heap.size (0+9) [H,c,t,T,e]:=x.cells.part 9 5;refine go ?_;refine AQ (L:=[H,c,t,T,e]) rfl rfl F (go ?_);refine AE (rsmall_ok B _ y.first 120 U (Z.ext A)) rfl ?_;rintro _ G⟨rfl,z⟩;have E:=A.trans z;have q:=x.E z O;by_cases D:szF y.first<=120
  ·rw[decide_eq_true D];have o:Cells G w.heap.size (0+14) [f,m,i,j,n]:=q.cells.part 14 5;refine go ?_;refine AQ (L:=[f,m,i,j,n]) rfl rfl o (go ?_);refine AE (rsmall_ok G _ y.now 120 U (M.ext E)) rfl ?_;rintro _ P⟨rfl,a⟩;refine go ?_;exact AB rfl ⟨_,rfl,E.trans a,fun h=>⟨N rfl,D,by simpa using h⟩⟩
  ·rw[decide_eq_false D];exact Fc
theorem small36_ok(w:World)(a:Option Addr)(c:Nat)(l:List Dty)(M:SlAt dtyR AV w (.slice a l.length c) l):Fn Zp 6 [.slice a l.length c] w fun u w'=>∃b:Bool,u=.bool b/\Ext w w'/\(b=true->l.length<=50/\∀y∈l,szF y.req.formula<=120/\szF y.first<=120/\szF y.now<=120):=by
 obtain⟨_,_,e,p⟩:=M.len;refine AG Tryz.func6 rfl Tryz.ntmps6 ?_;by_cases n:50<l.length
 ·exact Es
 refine go ?_;refine Ah (α:=Nat) (fun k=>[(0,.slice a l.length c),(3,iV (k:Int))]) (fun k W=>k<=l.length/\Ext w W/\∀(i:Nat)(y:Dty),i<k->l[i]?=some y->szF y.req.formula<=120/\szF y.first<=120/\szF y.now<=120) (fun k=>l.length-k) 0 ag ⟨by omega,Ext.refl _,fun i x h=>by omega⟩ ?_;rintro k W Z⟨P,V,T⟩;refine go ?_;by_cases B:k<l.length
 ·obtain⟨x,g⟩:=gl B;obtain⟨b,o,d,rfl,S,C,G⟩:=M.at (sz:=19) rfl g;refine go ?_;refine AQ (L:=d) rfl (dtyR.len G) (C.E V O) ?_;refine AE (smallDuty_ok W d x (dtyR.ext G V)) rfl ?_;rintro _ q⟨m,rfl,j,X⟩;cases m with
  |false=>
   refine go ?_;exact AB rfl ⟨false,rfl,V.trans j,fun h=>by cases h⟩
  |true=>
   refine go ?_;refine⟨k+1,⟨rfl,ag,⟨by omega,V.trans j,fun i z H f=>?_⟩⟩,by omega⟩;by_cases I:i=k
   ·subst I;rw[g]at f;cases f;exact X rfl
   ·exact T i z U f
 ·obtain rfl:k=l.length:=by omega
  refine go ?_
  exact AB rfl ⟨true,rfl,V,fun _=>⟨by omega,fun y F=>by
   obtain⟨i,H⟩:=List.getElem?_of_mem F;exact T i y (List.getElem?_eq_some_iff.1 H).1 H⟩⟩
theorem force_ok(w:World)(d:LV)(y:Dty)(C:dtyR.fits AV w d y):Fn Zp 26 [.agg d.toArray] w fun u w'=>∃b:Bool,u=.bool b/\Ext w w':=by
 obtain⟨h,i,X,r,Q,H,a,t,T,v,g,m,c,e,f,rfl, -, -, -⟩:=dty19 C;refine AG Tryz.func26 rfl Tryz.ntmps26 (go ?_);refine Ai (L:=[AK y.req.part,AK y.req.name,iV y.req.kind,h,i,X,r,Q,iV y.since,H,a,t,T,v,g,m,c,e,f]) rfl (fun R E=>?_);have k:=E.D;by_cases j:y.req.kind=1
 ·exact FW
 ·by_cases W:y.req.kind=2
  ·exact FW
  ·exact FW
theorem lk_of_rt{S:List Sgn}{f:Fml}(h:rtQ S f):LkS S f:=⟨looQ_G h.2.1,h.2.2⟩
theorem lk_run{S:List Sgn}{f:Fml}(q:A5 S=true)(h:LkS S f):(runG S f []).op≠0:=by
 have V:(Bc f).op≠0:=by rw[canG_of h.1];exact loose_op (loose_canon h.1)
 unfold runG fitsB looseP;rw[q,h.2,decide_eq_true V];simpa[Dc]using V
theorem pend_sz(a b:Fml):szF (Cq a b)<=400:=by
 unfold Cq
 split
 ·decide
 ·rcases con_cases 5 (pendL (Bc a) (Bc b))with e|⟨h, -, -⟩
  ·rw[e];decide
  ·exact(BG h).1
theorem right36_ok(w:World)(n:Option Addr)(K:Nat)(S:List Sgn)(a:Option Addr)(c:Nat)(l:List Dty)(j:SlAt sgnR AV w (.slice n S.length K) S)(M:SlAt dtyR AV w (.slice a l.length c) l):
  Fn Zp 7 [.slice n S.length K,.slice a l.length c] w fun u w'=>∃b:Bool,u=.bool b/\Ext w w'/\(b=true->A5 S=true/\l.length<=40/\∀y∈l,LkS S y.first/\LkS S y.now):=by
 obtain⟨_,_,e,a7⟩:=M.len;refine AG Tryz.func7 rfl Tryz.ntmps7 (go ?_);refine AE (rsvalid_ok w _ S j) rfl ?_;rintro _ w1⟨rfl,f⟩;cases hv:A5 S with
 |false=>
  refine go ?_;exact AB rfl ⟨false,rfl,f,fun h=>by cases h⟩
 |true=>
 by_cases a6:40<l.length
 ·refine go ?_;exact AB rfl ⟨false,rfl,f,fun h=>by cases h⟩
 refine go ?_;refine Ah (α:=Nat) (fun k=>[(0,.slice n S.length K),(1,.slice a l.length c),(5,iV (k:Int))]) (fun k W=>k<=l.length/\Ext w1 W/\∀(i:Nat)(y:Dty),i<k->l[i]?=some y->LkS S y.first/\LkS S y.now) (fun k=>l.length-k) 0 ag ⟨by omega,Ext.refl _,fun i x h=>by omega⟩ ?_;rintro k W fr⟨hk,V,X⟩;refine go ?_;by_cases a5:k<l.length
 ·obtain⟨x,Z⟩:=gl a5;obtain⟨b,o,d,rfl,hb,hd,q⟩:=M.at (sz:=19) rfl Z;have D:=f.trans V;have r:=hd.E D O;refine go ?_;refine AQ (L:=d) rfl (dtyR.len q) r ?_;refine AE (force_ok W d x (dtyR.ext q D)) rfl ?_;rintro _ p⟨m,rfl,C⟩;have A:=D.trans C;have G:=r.E C O;have a3:=dtyR.ext q A;obtain⟨q0,q1,q2,q3,q4,F,I,t,T,v,N,s,P,Q,R,rfl,f1,f2,f3⟩:=dty19 a3;have ck:p.cell? ⟨b,o+k*19+0+2,none⟩=some (iV x.req.kind):=G 2 _ rfl;have ca:Cells p b (o+k*19+9) [F,I,t,T,v]:=G.part 9 5;have cb:Cells p b (o+k*19+14) [N,s,P,Q,R]:=G.part 14 5;have hq:m=true\/m=false/\x.req.kind=3\/m=false/\x.req.kind≠3:=by cases m<;>simp<;>omega
  rcases hq with rfl|⟨rfl,h3⟩|⟨rfl,h3⟩
  case inr.inr=>
   refine go ?_;exact E7
  all_goals
   refine go ?_;refine AQ (L:=[F,I,t,T,v]) rfl rfl ca (go ?_);refine AE (right_ok p n K S _ x.first (j.ext A) f2) rfl ?_;rintro _ w3⟨a0,rfl,g,h2⟩;have E:=A.trans g;cases a0 with
   |false=>
    exact Fc
   |true=>
   have a2:=cb.E g O;refine go ?_;refine AQ (L:=[N,s,P,Q,R]) rfl rfl a2 (go ?_);refine AE (right_ok w3 n K S _ x.now (j.ext E) (f3.ext g)) rfl ?_;rintro _ w4⟨a1,rfl,k4,h4⟩;have e4:=E.trans k4;cases a1 with
   |false=>
    refine go ?_;exact AB rfl ⟨false,rfl,e4,fun h=>by cases h⟩
   |true=>
    refine go ?_;refine⟨k+1,⟨rfl,ag,⟨by omega,((V.trans C).trans g).trans k4,fun i z H B=>?_⟩⟩,by omega⟩;by_cases a4:i=k
    ·subst a4;rw[Z]at B;cases B;exact⟨lk_of_rt (h2 rfl),lk_of_rt (h4 rfl)⟩
    ·exact X i z U B
 ·obtain rfl:k=l.length:=by omega
  refine go ?_
  exact AB rfl ⟨true,rfl,f.trans V,fun _=>⟨rfl,by omega,fun y hy=>by
   obtain⟨i,H⟩:=List.getElem?_of_mem hy;exact X i y (List.getElem?_eq_some_iff.1 H).1 H⟩⟩
theorem sl_one{w w':World}{T:TypeId}{d:LV}{x:Dty}(n:New w w' T d)(K:dtyR.fits AV w d x)(C:d.length=19):SlAt dtyR AV w' (.slice (sm w.heap.size) 1 1) [x]:=by
 have D:=Aa (n.own (n:=1) (size:=19) U D3 (Nat.le_refl _)) (ok:=AV) fun _ _=>trivial;refine⟨_,_,[d],rfl,by simpa using D,rfl,fun i c a V I=>?_⟩
 match i,V,I with
 |0,V,I=>
  simp at V I;subst V I;exact(dtyR.ext K n.E)
theorem drop_small{x:Dty}{t:Int}(h:szF x.req.formula<=1000):∀y∈CA x t,szF y.req.formula<=1000000/\szF y.first<=1000000:=by
 intro y F;rcases drop_one x t with e|⟨z,e, -,W,Q, -⟩
 ·rw[e]at F;cases F
 ·rw[e]at F;simp at F;subst F;have:=pend_sz x.first x.now
  rw[W,Q];exact⟨by omega,by omega⟩
set_option maxHeartbeats 4000000 in
theorem owedOnce_ok(w:World)(B:Option Addr)(K:Nat)(S:List Sgn)(da:Option Addr)(dc:Nat)(l:List Dty)(c3:Int)(la:Option Addr)(lc:Nat)(xs:List Int)(c:LV)(D n:List Int)(hraw:0<=c3/\c3<256)(j:SlAt sgnR AV w (.slice B S.length K) S)(hd:SlAt dtyR AV w (.slice da l.length dc) l)
  (hx:InS w (.slice la xs.length lc) xs)(hl:LasG w c D n)(hP:GK w)(C:GF w)(s:KY w)(p:10<=w.heap.size):
  Fn Zp 3 [.slice B S.length K,.slice da l.length dc,.int .u8 c3,.slice la xs.length lc,.agg c.toArray] w fun u w'=>u=.bool true/\Ext w w':=by
 have hl0:=hl;obtain⟨k1,k0,j7,lc2,rfl,hst,h7⟩:=hl;have hxl:=hx.len;have hsl:=hst.len;have l5:=h7.len;have l1:=hd.len;refine AG Tryz.func3 rfl Tryz.ntmps3 (go ?_);refine Ai (L:=[.slice k1 D.length k0,.slice j7 n.length lc2]) rfl (fun w1 n1=>?_);have G:=n1.E;have B1:=n1.D;refine go ?_;refine AE (owed_ok w1 (hP.ext G) (C.ext G) (s.E G O) (Nat.le_trans p G.size)) rfl ?_;rintro _ w2⟨rfl,k2⟩;have e2:=G.trans k2;have B2:=B1.E k2 O;refine go ?_;refine AX (.read 0 (.alt 1 (rd 2 4 (.alt 6 (rd 7 14 (.alt 21 (rd 22 10 (.read 33 (.read 34 (.alt 32 (.alt 35 (.alt 36 (.read 37 (.read 38 .done)) .stop) .stop) .stop)))) .stop)) .stop)) .stop)) An Dv (fun H I ed=>⟨Ext H,?_,?_⟩)
 ·exact Ew
 have ed:=e2.trans I;have D1:=B2.E I O;refine go ?_;refine D_E rfl ?_;refine AE (small36_ok H da dc l (hd.ext ed)) rfl ?_;rintro _ v1⟨b,rfl,P,hsm⟩;have q1:=ed.trans P;refine wNl P ?_;cases b with
 |false=>
  refine go ?_;refine D_E rfl ?_;refine Ak rfl ?_;refine wNl P ?_;refine go ?_;refine D_E rfl ?_;refine Ak rfl ?_;refine wNl P ?_;refine go ?_;refine D_E rfl ?_;refine Ak rfl ?_;refine wNl P ?_;refine go ?_;refine D_E rfl ?_;refine Ak rfl ?_;refine wNl P ?_;refine go ?_;refine D_E rfl ?_;refine Ak rfl ?_;refine wNl P ?_;refine go ?_;exact AB rfl ⟨rfl,q1⟩
 |true=>
 obtain⟨l9,i7⟩:=hsm rfl;refine go ?_;refine D_E rfl (go ?_);refine AE (right36_ok v1 B K S da dc l (j.ext q1) (hd.ext q1)) rfl ?_;rintro _ v2⟨b,rfl,j2,hrt⟩;have q2:=q1.trans j2;have o:=P.trans j2;refine wNl o ?_;cases b with
 |false=>
  exact En
 |true=>
 obtain⟨q, -,h6⟩:=hrt rfl;by_cases l4:l.length=0
 ·exact En
 by_cases hx6:6<xs.length
 ·exact En
 refine go ?_;refine D_E rfl (go ?_);refine AE (short_ok v2 _ D n (hl0.ext q2)) rfl ?_;rintro _ v3⟨M,rfl,j3⟩;have q3:=q2.trans j3;have a:=o.trans j3;refine wNl a ?_;cases M with
 |false=>
  exact FJ
 |true=>
 by_cases l8:40<D.length
 ·exact FJ
 refine go ?_;refine D_E rfl (go ?_);refine AE (rletters_ok v3 _ S (j.ext q3) q) rfl ?_;rintro _ v4⟨rfl,j4⟩;have q4:=q3.trans j4;have r4:=a.trans j4;refine wNl r4 ?_;refine go ?_;refine D_E rfl (go ?_);refine AE (word_ok v4 la lc xs _ D n (hx.ext q4) (hl0.ext q4) U U) rfl ?_;rintro _ v5⟨c5,rfl,j5,h5⟩;have q5:=q4.trans j5;have r5:=r4.trans j5;refine wNl r5 ?_;refine go ?_;refine D_E rfl (go ?_);refine AE (valid2_ok v5 _ c5 (xs++D) n h5) rfl ?_;rintro _ v6⟨b6,rfl,j6,hb6⟩;have q6:=q5.trans j6;have r6:=r5.trans j6;refine wNl r6 ?_;cases b6 with
 |false=>
  refine go ?_;exact AB rfl ⟨rfl,q6⟩
 |true=>
 obtain⟨g1,g2,g3,g4,g5⟩:=hb6 rfl;have E1:=D1.E r6 O;obtain⟨r,rfl⟩:=Int.eq_ofNat_of_zero_le hraw.1;have c7:(r:Int)%(l.length:Int)=((r%l.length:Nat):Int):=(Int.natCast_emod r l.length).symm;have d1:r%l.length<l.length:=Nat.mod_lt _ U;generalize r%l.length=kx at c7 d1;obtain⟨x,d9⟩:=gl d1;obtain⟨bx,ox,dx,rfl, -,g9,hfx⟩:=(hd.ext q6).at (sz:=19) rfl d9;have hxm:=List.mem_of_getElem? d9;refine go ?_;rw[c7];refine go ?_;have i0:=dtyR.one hfx;obtain⟨q0,b9,c0,c1,c2,a0,a1,a2,a3,a4,g,m,d,M,b4,rfl,f1,f2,f3⟩:=dty19 hfx;refine AQ (L:=[AK x.req.part,AK x.req.name,iV x.req.kind,q0,b9,c0,c1,c2,iV x.since,a0,a1,a2,a3,a4,g,m,d,M,b4]) rfl rfl g9 ?_;refine Au (cs:=[AK x.req.part,AK x.req.name,iV x.req.kind,q0,b9,c0,c1,c2,iV x.since,a0,a1,a2,a3,a4,g,m,d,M,b4]) rfl rfl Dx i0 (fun v7 n7=>?_);have B7:=n7.D;have z7:=n7.size;have q7:=q6.trans n7.E;have F1:=E1.E n7.E O;have h3:=dtyR.ext hfx n7.E;by_cases d0:x.req.kind=2;rotate_left
 ·refine go ?_;exact AB rfl ⟨rfl,q7⟩
 refine go ?_;refine AP (out:=[AK x.req.part,AK x.req.name,iV x.req.kind,q0,b9,c0,c1,c2,iV x.since,a0,a1,a2,a3,a4,g,m,d,M,b4]) rfl U (fill_one (sz:=19) EQ rfl) (fun w8 n8=>?_);have g0:SlAt dtyR AV w8 (.slice (sm v7.heap.size) 1 1) [x]:=sl_one n8 h3 rfl;have z8:=n8.size;have q8:=q7.trans n8.E;have F8:=F1.E n8.E O;have B8:=B7.E n8.E O;refine go ?_;refine Au (cs:=dropC x.req.name) rfl rfl Dx (AW rfl) (fun w9 n9=>?_);have z9:=n9.size;have q9:=q8.trans n9.E;have F9:=F8.E n9.E O;have B9:=B8.E n9.E O;have C9:=n9.D;have b3:=g0.ext n9.E;obtain⟨e3,Z⟩:=h6 x hxm;obtain⟨sz1,m5,m6⟩:=i7 x hxm;have l6:=pend_sz x.first x.now
 obtain⟨cO,hcO⟩:∃cO,cO=v7.heap.size:=⟨_,rfl⟩;rw[<-hcO]at b3⊢;obtain⟨cE,hcE⟩:∃cE,cE=w8.heap.size:=⟨_,rfl⟩;rw[<-hcE]at C9⊢;obtain⟨cX,g6⟩:∃cX,cX=v6.heap.size:=⟨_,rfl⟩;rw[<-g6]at B9⊢;refine go ?_;refine AE (apply_ok w9 B K S _ _ x 5 (j.ext q9) b3 d0 U U (C.ext q9) (s.E q9 O) (Nat.le_trans p q9.size)) rfl ?_;rintro _ k5⟨vo,e,rfl,k10,he,a8⟩;obtain rfl:=he.2 ⟨q,lk_run q e3,lk_run q Z⟩;have a8:=a8 rfl;obtain⟨oa,oc,rfl, -⟩:=a8.len;have j8:=q9.trans k10;have e7:=F9.E k10 O;have e5:=B9.E k10 O;have e6:=C9.E k10 O;have f9:=b3.ext k10;refine go ?_;have hsd:=drop_small (x:=x) (t:=5) U;have l2:=drop_len x 5
 refine Ah (α:=Nat×Value×Value) (fun u=>[(0,.slice B S.length K),(3,.slice la xs.length lc),(9,pt w.heap.size),(11,.bool true),(12,pt cX),(14,pt cE),(15,u.2.1),(16,iV 0),(17,u.2.2),(18,iV (u.1:Int))])
  (fun u W=>u.1<=xs.length/\Ext k5 W/\SlAt dtyR AV W u.2.1 (CP S (CA x 5) (xs.take u.1))/\SlAt dtyR AV W u.2.2 (CP S [x] (xs.take u.1))) (fun u=>xs.length-u.1) (0,.slice oa (CA x 5).length oc,.slice (sm cO) 1 1) ag ⟨by omega,Ext.refl _,a8,f9⟩ ?_
 rintro⟨k,eo,lo⟩W fr⟨hk,X,hEW,R⟩;simp only at hk X hEW R;have E:=j8.trans X;have HF:=e7.E X O;have HB:=e5.E X O;have HC:=e6.E X O;obtain⟨ea,ec,rfl, -⟩:=hEW.len;obtain⟨ga,gc,rfl, -⟩:=R.len;obtain⟨te1,e4⟩:=ticks_mem (S:=S) (xs.take k) (CA x 5);obtain⟨c4,tl2⟩:=ticks_mem (S:=S) (xs.take k) [x];refine go ?_;by_cases h8:k<xs.length
 ·obtain⟨y,e1⟩:=gl h8;obtain⟨k7,oy,rfl,h0⟩:=InS.at (hx.ext E) e1;refine go ?_
  refine AE (mtick_ok W B K S ea ec _ y (j.ext E) hEW U (fun z hz=>by
   obtain⟨z',b0,G,e2⟩:=e4 z hz;rw[G,e2];exact hsd z' b0) (C.ext E) (s.E E O) (Nat.le_trans p E.size)) rfl ?_
  rintro k3 k6⟨b1,f5⟩;have b2:=E.trans b1;have l0:=b1.cell h0 O;refine go ?_
  refine AE (mtick_ok k6 B K S ga gc _ y (j.ext b2) (R.ext b1) (by simp at c4;omega) (fun z hz=>by
   obtain⟨z',b0,G,e2⟩:=tl2 z hz;simp at b0;subst b0;rw[G,e2];exact⟨by omega,by omega⟩) (C.ext b2) (s.E b2 O) (Nat.le_trans p b2.size)) rfl ?_
  rintro k4 m7⟨k12,f8⟩;refine go ?_;refine⟨(k+1,k3,k4),⟨rfl,ag,⟨by simp only;omega,(X.trans b1).trans k12,?_,?_⟩⟩,by simp only;omega⟩
  all_goals
   simp only;have i8:xs.take (k+1)=xs.take k++[y]:=by rw[List.take_add_one,e1];rfl
   rw[i8,ticks_snoc];first|exact f5.ext k12|exact f8
 ·obtain rfl:k=xs.length:=by omega
  rw[List.take_length]at hEW R te1 e4 c4 tl2⊢;rcases ticks_one S x xs with e0|⟨eL,h2⟩
  ·rw[e0,show([]:List Dty).length=0 from rfl];refine go ?_;exact AB rfl ⟨rfl,E⟩
  ·obtain⟨y,a9⟩:∃y,y=x.to (Dc S x.now xs):=⟨_,rfl⟩;rw[<-a9]at eL;rw[eL]at R c4 tl2⊢;rw[show([y]:List Dty).length=1 from rfl]at R⊢;have b7:y.req=x.req:=by rw[a9];rfl
   have j0:y.first=x.first:=by rw[a9];rfl
   have j1:y.now=Dc S x.now xs:=by rw[a9];rfl
   refine go ?_
   have hWd:∀i z,xs[i]?=some z->wdG S ((xs++D)++n) (xs++D).length n.length i=vlS S z:=by
    rw[List.append_assoc,List.length_append];exact word_at S xs (D++n) D.length n.length
   have c8:dropW xs.length (wdG S ((xs++D)++n) (xs++D).length n.length)=wdG S (D++n) D.length n.length:=by
    rw[List.append_assoc,List.length_append];exact word_drop S xs (D++n) D.length n.length
   have h9:LkS S y.now:=by
    rw[j1];by_cases d8:xs=[]
    ·subst d8;exact Z
    ·exact(run_sem xs Z (h2 d8) hWd).1
   have l7:=pend_sz y.first y.now
   have c9:=apply_ok W B K S ga gc y 6 (j.ext E) R (by rw[b7];exact d0) U (by rw[b7];omega) (C.ext E) (s.E E O) (Nat.le_trans p E.size);rw[b7]at c9;refine AE c9 rfl ?_;rintro _ m8⟨vf,e,rfl,k13,he,a7⟩;obtain rfl:=he.2 ⟨q,lk_run q (by rw[j0];exact e3),lk_run q h9⟩;have a7:=a7 rfl;obtain⟨ha,hc,rfl, -⟩:=a7.len;have j9:=E.trans k13;have c6:=HF.E k13 O;have e8:=HB.E k13 O;have f6:=hEW.ext k13;refine go ?_;refine AX (rd 0 5 (.alt 5 (.alt 6 (.read 7 .done) .stop) .stop)) An Dv (fun H I ed=>⟨Ext H,?_,?_⟩)
   ·exact Ew
   have IF:=c6.E I O;have IB:=e8.E I O;have cb:Cells H cX (0+14) [g,m,d,M,b4]:=IB.cells.part 14 5;have qd:=j9.trans I;refine go ?_;refine D_R (v:=.agg [g,m,d,M,b4].toArray) rfl rfl (fun V hV=>by refine AQ (L:=[g,m,d,M,b4]) rfl rfl (cb.E hV O) ?_;exact AA ⟨rfl,rfl,rfl⟩) ?_;refine go ?_;refine D_E rfl ?_;refine AE (word_ok H la lc xs _ D n (hx.ext qd) (hl0.ext qd) U U) rfl ?_;rintro _ u1⟨f0,rfl,i1,h4⟩;refine wNl i1 ?_;have t1:=qd.trans i1;have p1:Ext v6 u1:=(((((((n7.E.trans n8.E).trans n9.E).trans k10).trans X).trans k13).trans I).trans i1);refine D_E rfl ?_;refine AE (wholds_ok u1 B K S _ x.now f0 (xs++D) n (j.ext t1) q (f3.ext p1) Z h4 g1 g2 g3 g4 g5 (C.ext t1) (s.E t1 O) (Nat.le_trans p t1.size)) rfl ?_;rintro _ u2⟨rfl,i2⟩;refine wNl (i1.trans i2) ?_;have t2:=t1.trans i2;have b8:=I.trans (i1.trans i2);have JF:=c6.E b8 O;have f7:=f6.ext b8;have i9:=a7.ext b8
   have d5:(Ba (CP S (CA x 5) xs)).op≠0->sem (wdG S ((xs++D)++n) (xs++D).length n.length) x.now 0->LkS S (Ba (CP S (CA x 5) xs))/\sem (wdG S (D++n) D.length n.length) (Ba (CP S (CA x 5) xs)) 0:=fun h N=>by
    have:=left_sem Z.2 hWd N h
    rwa [c8]at this
   have d4:(Ba (CA y 6)).op≠0->sem (wdG S ((xs++D)++n) (xs++D).length n.length) x.now 0->LkS S (Ba (CA y 6))/\sem (wdG S (D++n) D.length n.length) (Ba (CA y 6)) 0:=fun h N=>by
    have:=owed_sem Z hWd N eL h
    rwa [c8]at this
   have T:(Ba (CA y 6)).op≠0->Bc (Ba (CA y 6))=Ba (CA y 6):=dgoal_canon;have l3:=drop_len y 6;have d6:∀x∈D,0<=x/\x<CQ S:=fun x h=>g4 x (List.mem_append_right _ h);have d7:D.length<=60:=by omega
   refine go ?_;refine AE (mgoal_ok u2 ea ec _ f7 U (C.ext t2) (s.E t2 O) (Nat.le_trans p t2.size)) rfl ?_;rintro _ u3⟨i3,fn⟩;obtain⟨k8,rfl,g7,d2⟩:=fn.cells;obtain⟨m0,m1,m2,m3,m4,rfl⟩:=Ab g7;obtain rfl:=fn.op0;generalize Ba (CP S (CA x 5) xs)=eF at d5 fn d2⊢;refine Au (cs:=[iV eF.op,m1,m2,m3,m4]) rfl rfl Dx d2 (fun u4 n4=>?_);have i4:=i3.trans n4.E;have t4:=t2.trans i4;have KF:=JF.E i4 O;have KE:=n4.D;have fE4:FAt AV u4 (.agg [iV eF.op,m1,m2,m3,m4].toArray) eF:=(fn.ext n4.E).mono fun _ _=>trivial;obtain⟨cN,hcN⟩:∃cN,cN=u3.heap.size:=⟨_,rfl⟩;rw[<-hcN]at KE⊢;refine go ?_;refine AE (mgoal_ok u4 ha hc _ (i9.ext i4) U (C.ext t4) (s.E t4 O) (Nat.le_trans p t4.size)) rfl ?_;rintro _ u5⟨i5,a6⟩;obtain⟨k9,rfl,g8,d3⟩:=a6.cells;obtain⟨o0,o1,o2,A,Q,rfl⟩:=Ab g8;obtain rfl:=a6.op0;generalize Ba (CA y 6)=aF at d4 T a6 d3⊢;refine Au (cs:=[iV aF.op,o1,o2,A,Q]) rfl rfl Dx d3 (fun u6 n6=>?_);have i6:=i5.trans n6.E;have t6:=t4.trans i6;have e9:=KF.E i6 O;have LE:=KE.E i6 O;have LA:=n6.D;have fE6:=fE4.ext i6;have fA6:FAt AV u6 (.agg [iV aF.op,o1,o2,A,Q].toArray) aF:=(a6.ext n6.E).mono fun _ _=>trivial;obtain⟨cA,hcA⟩:∃cA,cA=u5.heap.size:=⟨_,rfl⟩;rw[<-hcA]at LA⊢;by_cases h1:eF.op=0
   ·refine go ?_;exact AB rfl ⟨rfl,t6⟩
   by_cases b5:aF.op=0
   ·refine go ?_;exact AB rfl ⟨rfl,t6⟩
   refine go ?_;refine AX (rd 0 8 (.alt 8 (rd 9 4 (.alt 13 (rd 14 5 (.read 20 (.alt 19 (.alt 21 (rd 22 3 .done) .stop) .stop))) .stop)) .stop)) An Dv (fun H I ed=>⟨Ext H,?_,?_⟩)
   ·exact Ew
   have MF:=e9.E I O;have ME:=LE.E I O;have MA:=LA.E I O;have F:=t6.trans I;have f4:=fE6.ext I;have fA7:=fA6.ext I;have T:=T b5
   have hza:szF aF<=400:=by
    have:=can_sz (f:=aF) (by rw[T];exact b5)
    rwa [T]at this
   by_cases N:sem (wdG S ((xs++D)++n) (xs++D).length n.length) x.now 0
   ·rw[tv_iff.2 N];refine go ?_;obtain⟨le1,le2⟩:=d5 h1 N;obtain⟨la1,la2⟩:=d4 b5 N;refine D_E rfl (go ?_);refine AE (wholds_ok H B K S _ eF _ D n (j.ext F) q f4 le1 (hl0.ext F) d7 g2 g3 d6 g5 (C.ext F) (s.E F O) (Nat.le_trans p F.size)) rfl ?_;rintro _ y1⟨rfl,o1⟩;rw[tv_iff.2 le2];have t8:=F.trans o1;refine wNl o1 ?_;refine go ?_;refine D_E rfl (go ?_);refine AE (wholds_ok y1 B K S _ aF _ D n (j.ext t8) q (fA7.ext o1) la1 (hl0.ext t8) d7 g2 g3 d6 g5 (C.ext t8) (s.E t8 O) (Nat.le_trans p t8.size)) rfl ?_;rintro _ y2⟨rfl,o2⟩;rw[tv_iff.2 la2];have t9:=t8.trans o2;have a5:=o1.trans o2;refine wNl a5 ?_;refine go ?_;refine D_E rfl (go ?_);refine AE (BN y2 _ aF (fA7.ext a5) (C.ext t9) (s.E t9 O) (Nat.le_trans p t9.size)) rfl ?_;rintro vc y3⟨A,fc⟩;rw[T]at fc;refine wNl (a5.trans A) ?_;refine go ?_;refine D_E rfl (go ?_);refine AE (DO y3 _ _ aF aF _ _ fc ((fA7.ext a5).ext A) (.inl fun b hb=>hb.2) U) rfl ?_;rintro _ y4⟨rfl,Q⟩;rw[(Bs aF aF).2 rfl];refine wNl ((a5.trans A).trans Q) ?_;refine go ?_;exact AB rfl ⟨rfl,(t9.trans A).trans Q⟩
   ·have hs':tv (sem (wdG S ((xs++D)++n) (xs++D).length n.length) x.now 0)=false:=by
     rw[Bool.eq_false_iff];exact fun e=>N (tv_iff.1 e)
    rw[hs'];refine go ?_;refine D_E rfl ?_;refine Ak rfl ?_;refine wNl (Ext.refl _) ?_;refine go ?_;refine D_E rfl ?_;refine Ak rfl ?_;refine wNl (Ext.refl _) ?_;refine go ?_;refine D_E rfl (go ?_);refine AE (BN H _ aF (fA7) (C.ext F) (s.E F O) (Nat.le_trans p F.size)) rfl ?_;rintro vc y3⟨A,fc⟩;rw[T]at fc;refine wNl A ?_;refine go ?_;refine D_E rfl (go ?_);refine AE (DO y3 _ _ aF aF _ _ fc (fA7.ext A) (.inl fun b hb=>hb.2) U) rfl ?_;rintro _ y4⟨rfl,Q⟩;rw[(Bs aF aF).2 rfl];refine wNl (A.trans Q) ?_;refine go ?_;exact AB rfl ⟨rfl,(F.trans A).trans Q⟩
section
open Go.ChangeAt Go.ChangeShapes Go.WideShapes
open Go.ChangeMaps (open_string)
section
variable {H:Type}{enc:TypeId×Value->H}{P:Program}{W W':World}
theorem sameAt_ext(F:Ext W W'){p:MemPlace}(v:p.block<W.heap.size):W.sameAt W' p:=by
 cases p with
 |cell b off=>exact World.cell?_of_block (w:=W) (a:=⟨b,off,none⟩) (F.block b v O)
 |map b=>exact F.block b v O
theorem trodAll_ext(K:Kids P (·<P.types.size))(o:∀t e,t<P.types.size->P.underlying t=some (.slice e)->0<P.cellsOf e)(F:Ext W W'){sp:Nat->Bool}:
  ∀{k:List TypeId}{vs:LV}{ds:List (DataW H)}{ps:List MemPlace},(∀t∈k,t<P.types.size)->DataW.TrodAll enc P W 0 (fun _=>true) true k vs ds ps->
   (∀p∈ps,p.block<W.heap.size)->(∀p∈ps,sp p.block=true)->DataW.TrodAll enc P W' 0 sp true k vs ds ps
 | [],[],[],_,_,h,_,_=>h
 |_::_,_::_,_::_,_,hT,⟨p,q,⟨n,h1⟩,h2,e⟩,hl,hs=>by
  subst e;refine⟨p,q,⟨n,DataW.trod_stays K (fun a b=>o _ _ a b) (fun h=>by cases h) (hT _ O) h1 (fun x T=>sameAt_ext F (hl x (List.mem_append_left _ T))) fun x T=>hs x (List.mem_append_left _ T)⟩,?_,rfl⟩;exact trodAll_ext K o F (fun t a=>hT t (List.mem_cons_of_mem _ a)) h2 (fun x T=>hl x (List.mem_append_right _ T)) fun x T=>hs x (List.mem_append_right _ T)
theorem keptBut_ext(F:Ext W W')(e:MemPlace->Prop):W.keptBut W' e:=by
 refine⟨F.os,F.output,fun i a=>?_⟩;rw[F.block i a O];exact(World.keptBut_refl W e).2.2 i a
theorem post_of_ext(K:Kids P (·<P.types.size))(o:∀t e,t<P.types.size->P.underlying t=some (.slice e)->0<P.cellsOf e){f:Func}{s:ChangeSpec}{d fresh c:Bool}{args:Array Value}{v:Value}{ds a:List (DataW H)}{j:List MemPlace}{l:TypeId}
  (k:∀t∈f.params.toList,t<P.types.size)(D:s.vars=[])(g:DataW.Whole enc P f.params.toList s.vars d W args.toList ds a j)
  (E:s.fn H (ds++a)={results:=[.lit (.bool true)],args:=ds})(M:f.resultTypes= #[l])(b:P.underlying l=some .bool)(r:v=.bool true)(F:Ext W W'):
  s.post enc P f d fresh c false W args v W':=by
 subst r;have B:∀p∈j,p.block<W.heap.size:=g.lt;obtain⟨p,q,m,i,rfl,u,G⟩:=id g
 have n:a=[]/\q=[]:=by
  rw[D]at i;cases a with
  |nil=>exact⟨rfl,i⟩
  |cons _ _=>exact i.elim
 obtain⟨rfl,rfl⟩:=n;refine⟨ds,[],_,[],p,[],g,?_,?_,?_,keptBut_ext F _,(fun h=>by cases h)⟩
 ·rw[E,M];exact trodAll_cons_mk (shut_bool b true) trodAll_mk0
 ·rw[E];exact trodAll_ext K o F k m (fun x T=>B x (List.mem_append_left _ T)) fun x T=>by simpa using B x (List.mem_append_left _ T)
 ·rw[E,D];exact rfl
end
theorem kids:Kids Zp (·<Tryz.prog.types.size):=kids_rows Dv Dv
theorem full:∀t e,t<Tryz.prog.types.size->Tryz.prog.underlying t=some (.slice e)->0<Tryz.prog.cellsOf e:=slices_full_of Zp Dv
theorem own:ownKnob Tryz.prog.godebug=none:=by kernel_rfl
section
variable {H:Type}{enc:TypeId×Value->H}{P:Program}{W:World}{sp:Nat->Bool}{hd:Bool}
theorem spot_none{a:Addr}{v:Value}(h:W.cell? a=some v):a.spot=none:=by
 cases ha:a.spot with
 |none=>rfl
 |some _=>
  unfold World.cell? at h
  split at h
  ·simp[ha]at h
  ·cases h
theorem val_one{r:Reach}{t e:TypeId}{v u:Value}{b:Nat}(d:P.underlying t=some (.slice e))(q:Value.okWide P W r b t v)(h:v.cells.toList=[u]):v=u:=by
 obtain⟨a,l,c,rfl⟩:=okWide_slice d q;simpa[Value.cells]using h
end
end
section
open Go.ChangeAt Go.ChangeShapes Go.WideShapes
theorem lenF{cs:LV}(h:cs.length=5):∃g B D S f,cs=[g,B,D,S,f]:=by
 match cs,h with
 | [a,b,c,d,e],_=>exact⟨a,b,c,d,e,rfl⟩
theorem lenR{cs:LV}(h:cs.length=8):∃e B D d,cs=e::B::D::d/\d.length=5:=by
 match cs,h with
 |a::b::c::d,h=>exact⟨a,b,c,d,rfl,by simpa using h⟩
theorem lenG{cs:LV}(h:cs.length=3):∃d B D,cs=[d,B,D]:=by
 match cs,h with
 | [a,b,c],_=>exact⟨a,b,c,rfl⟩
theorem lenS{cs:LV}(h:cs.length=2):∃d B,cs=[d,B]:=by
 match cs,h with
 | [a,b],_=>exact⟨a,b,rfl⟩
theorem cell_eq{w:World}{b i j:Nat}(h:i=j):w.cell? ⟨b,i,none⟩=w.cell? ⟨b,j,none⟩:=by rw[h]
section
variable {H:Type}{enc:TypeId×Value->H}{W:World}{sp:Nat->Bool}{hd:Bool}
theorem open_rows{α:Type}[Inhabited α]{t e:TypeId}{c C:Nat}{cs:LV}{x:DataW H×List MemPlace}(Q:LV->α->Prop)(Z:Tryz.prog.underlying t=some (.slice e))(V:Tryz.prog.cellsOf e=c)(v:0<c)
  (M:∀(n:Nat)(cs:LV)(x:DataW H×List MemPlace),n<C->DataW.trod enc Zp W 0 sp hd n e cs=some x->∃a,Q cs a)(h:DataW.trod enc Zp W 0 sp hd C t cs=some x):
  ∃(a:Option Addr)(k:Nat)(L:List (LV))(l:List α),cs=[.slice a l.length k]/\Sl AV W (.slice a l.length k) l.length L.flatten/\L.length=l.length/\(∀d∈L,d.length=c)/\∀(i:Nat)(d:LV)(a:α),L[i]?=some d->l[i]?=some a->Q d a:=by
 rcases DataW.trod_slice Z h with⟨rfl,_⟩|⟨a,f,w,a1,a5,n,rfl,rfl,_,_,hl,y,a4,G,_,_⟩
 ·exact⟨none,0,[],[],rfl,⟨none,0,rfl,Nat.le_refl _,by omega,fun _=>rfl,.inl rfl⟩,rfl,(fun d hd=>by cases hd),fun i d a h=>by simp at h⟩
 ·rw[V]at G
  obtain⟨D,r⟩:=Deep.choose_lt (α:=LV×α) (n:=f) (p:=fun i q=>W.cells? 0 (a.add (i*c)) c=some q.1/\Q q.1 q.2) (fun i g=>by
   have X:=G i g;rw[List.getElem?_eq_getElem U]at X;obtain⟨E,o,R⟩:=Option.bind_eq_some_iff.1 X;obtain⟨b,S⟩:=M n E _ (Nat.lt_succ_self n) R;exact⟨(E,b),o,S⟩)
  have j:∀i,i<f->(D i).1.length=c:=fun i g=>(World.cells?_some (r i g).1).2.1
  have A:∀d∈((List.range f).map fun i=>(D i).1),d.length=c:=by
   intro d hd;obtain⟨i,g,rfl⟩:=List.mem_map.1 hd;exact j i (List.mem_range.1 g)
  have m:((List.range f).map fun i=>(D i).2).length=f:=by simp
  refine⟨some a,w,(List.range f).map fun i=>(D i).1,(List.range f).map fun i=>(D i).2,by rw[m],⟨some a,w,rfl,by omega,by simp only[maxLen]at y;omega,(fun h=>by cases h),?_⟩,by simp,A,?_⟩
  ·by_cases hz:f=0
   ·left;omega
   ·right;have F:=(World.cells?_some (r 0 U).1).2.2 0 v
    have I:a.spot=none:=by
     have a2:=j 0 U;rw[List.getElem?_eq_getElem U]at F;have:=spot_none F;simpa[Addr.add]using this
    obtain⟨b,a0,s⟩:=a;simp only at I;subst I;refine⟨b,a0,rfl,trivial,fun i u K=>?_⟩;have B:=(List.getElem?_eq_some_iff.1 K).1;rw[CM c _ A]at B;simp only[List.length_map,List.length_range]at B;have P:i/c<f:=(Nat.div_lt_iff_lt_mul v).2 B;have z:i%c<c:=Nat.mod_lt _ v
    have T:((List.range f).map fun i=>(D i).1)[i/c]?=some (D (i/c)).1:=by
     rw[List.getElem?_map,List.getElem?_range P];rfl
    have a3:=j _ P;have N:(D (i/c)).1[i%c]?=some (D (i/c)).1[i%c]:=List.getElem?_eq_getElem U;have X:=CR c _ _ _ _ _ A T N;have g:i/c*c+i%c=i:=by rw[Nat.mul_comm];exact Nat.div_add_mod i c
    rw[g]at X;have o:=(World.cells?_some (r _ P).1).2.2 (i%c) z;rw[Addr.add_lit,Addr.add_lit,N]at o;have e:u=(D (i/c)).1[i%c]:=Option.some.inj (K.symm.trans X);rw[e,<-o];exact cell_eq U
  ·intro i d b hd S;obtain⟨X,rfl⟩:=List.getElem?_eq_some_iff.1 hd;obtain⟨_,rfl⟩:=List.getElem?_eq_some_iff.1 S;simp at X;simp only[List.getElem_map,List.getElem_range];exact(r i U).2
theorem cellF:Tryz.prog.cellsOf 36=5:=by kernel_rfl
theorem cellR:Tryz.prog.cellsOf 38=8:=by kernel_rfl
theorem cellSg:Tryz.prog.cellsOf 125=3:=by kernel_rfl
theorem cellI:Tryz.prog.cellsOf 3=1:=by kernel_rfl
theorem cellB:Tryz.prog.cellsOf 4=1:=by kernel_rfl
theorem cellSt:Tryz.prog.cellsOf 9=1:=by kernel_rfl
theorem cellFs:Tryz.prog.cellsOf 34=1:=by kernel_rfl
theorem strV_toList(s:ByteArray):Value.string s=AK s.data.toList:=by simp[AK]
theorem BL{β:Type}{xs:List β}{n i:Nat}(h:xs.length=n)(a:i<n):∃y,xs[i]?=some y:=⟨_,List.getElem?_eq_getElem U⟩
theorem open_fml:∀(C:Nat)(cs:LV)(x:DataW H×List MemPlace),DataW.trod enc Zp W 0 sp hd C 36 cs=some x->∃f:Fml,fmlR.fits AV W cs f:=by
 intro C
 induction C using Nat.strongRecOn with
 |ind C ih=>
 intro cs x h;obtain⟨p,n,rfl,_,y,a0,K⟩:=DataW.trod_struct Tryz.underlying36 h;rw[cellF]at y;obtain⟨e,B,D,S,o,rfl⟩:=lenF y;have M:p.length=5:=a0;have q:DataW.trod enc Zp W 0 sp hd n 3 ((List.drop 0 [e,B,D,S,o]).take (Tryz.prog.cellsOf 3))=p[0]?:=K 0 _ rfl;have t:DataW.trod enc Zp W 0 sp hd n 9 ((List.drop 1 [e,B,D,S,o]).take (Tryz.prog.cellsOf 9))=p[1]?:=K 1 _ rfl;have Z:DataW.trod enc Zp W 0 sp hd n 3 ((List.drop 2 [e,B,D,S,o]).take (Tryz.prog.cellsOf 3))=p[2]?:=K 2 _ rfl;have u:DataW.trod enc Zp W 0 sp hd n 3 ((List.drop 3 [e,B,D,S,o]).take (Tryz.prog.cellsOf 3))=p[3]?:=K 3 _ rfl;have w:DataW.trod enc Zp W 0 sp hd n 34 ((List.drop 4 [e,B,D,S,o]).take (Tryz.prog.cellsOf 34))=p[4]?:=K 4 _ rfl;rw[cellI]at q Z u;rw[cellSt]at t;rw[cellFs]at w;obtain⟨y0,R⟩:=BL (i:=0) M U;obtain⟨y1,F⟩:=BL (i:=1) M U;obtain⟨y2,T⟩:=BL (i:=2) M U;obtain⟨y3,X⟩:=BL (i:=3) M U;obtain⟨y4,g4⟩:=BL (i:=4) M U;obtain⟨N,z,_,_⟩:=DataW.trod_int Tryz.underlying3 (q.trans R);obtain⟨s,G,_,_⟩:=DataW.trod_string Tryz.underlying9 (t.trans F);obtain⟨v,A,_,_⟩:=DataW.trod_int Tryz.underlying3 (Z.trans T);obtain⟨b,E,_,_⟩:=DataW.trod_int Tryz.underlying3 (u.trans X);have:Inhabited Fml:=⟨Ag⟩;obtain⟨a,k,L,l,V,hS,hL,h5,hA⟩:=open_rows (fun d g=>fmlR.fits AV W d g) Tryz.underlying34 cellF U (fun m cs x hm hx=>ih m U cs x hx) (w.trans g4);have j:e=iV N:=by simpa using z
 have r:B=AK s.data.toList:=by rw[<-strV_toList];simpa using G
 have I:D=iV v:=by simpa using A
 have P:S=iV b:=by simpa using E
 have Q:o=.slice a l.length k:=by simpa using V
 subst j r I P Q;exact⟨⟨N,s.data.toList,v,b,l⟩,rfl,.mk N _ v b l _ L hS hL h5 fun i c g hc hg=>(hA i c g hc hg).2⟩
theorem open_req{C:Nat}{cs:LV}{x:DataW H×List MemPlace}(h:DataW.trod enc Zp W 0 sp hd C 38 cs=some x):∃r:Rqm,reqR.fits AV W cs r:=by
 obtain⟨c,n,rfl,_,M,z,K⟩:=DataW.trod_struct Tryz.underlying38 h;rw[cellR]at M;obtain⟨a,B,D,d,rfl,T⟩:=lenR M;have N:c.length=4:=z;have m:DataW.trod enc Zp W 0 sp hd n 9 ((List.drop 0 (a::B::D::d)).take (Tryz.prog.cellsOf 9))=c[0]?:=K 0 _ rfl;have e:DataW.trod enc Zp W 0 sp hd n 9 ((List.drop 1 (a::B::D::d)).take (Tryz.prog.cellsOf 9))=c[1]?:=K 1 _ rfl;have Z:DataW.trod enc Zp W 0 sp hd n 3 ((List.drop 2 (a::B::D::d)).take (Tryz.prog.cellsOf 3))=c[2]?:=K 2 _ rfl;have g:DataW.trod enc Zp W 0 sp hd n 36 ((List.drop 3 (a::B::D::d)).take (Tryz.prog.cellsOf 36))=c[3]?:=K 3 _ rfl;rw[cellI]at Z;rw[cellSt]at m e;rw[cellF]at g;obtain⟨y,u⟩:=BL (i:=0) N U;obtain⟨I,F⟩:=BL (i:=1) N U;obtain⟨G,v⟩:=BL (i:=2) N U;obtain⟨L,w⟩:=BL (i:=3) N U;obtain⟨s,o,_,_⟩:=DataW.trod_string Tryz.underlying9 (m.trans u);obtain⟨t,b,_,_⟩:=DataW.trod_string Tryz.underlying9 (e.trans F);obtain⟨k,A,_,_⟩:=DataW.trod_int Tryz.underlying3 (Z.trans v);obtain⟨f,l⟩:=open_fml _ _ _ (g.trans w);have j:a=AK s.data.toList:=by rw[<-strV_toList];simpa using o
 have p:B=AK t.data.toList:=by rw[<-strV_toList];simpa using b
 have q:D=iV k:=by simpa using A
 have E:(List.drop 3 (a::B::D::d)).take 5=d:=by simp[<-T]
 rw[E]at l;subst j p q;exact⟨⟨s.data.toList,t.data.toList,k,f⟩,d,rfl,T,l.2⟩
theorem open_sgn{C:Nat}{cs:LV}{x:DataW H×List MemPlace}(h:DataW.trod enc Zp W 0 sp hd C 125 cs=some x):∃r:Sgn,sgnR.fits AV W cs r:=by
 obtain⟨a,n,rfl,_,M,o,K⟩:=DataW.trod_struct Tryz.underlying125 h;rw[cellSg]at M;obtain⟨d,B,D,rfl⟩:=lenG M;have R:a.length=3:=o;have m:DataW.trod enc Zp W 0 sp hd n 9 ((List.drop 0 [d,B,D]).take (Tryz.prog.cellsOf 9))=a[0]?:=K 0 _ rfl;have c:DataW.trod enc Zp W 0 sp hd n 4 ((List.drop 1 [d,B,D]).take (Tryz.prog.cellsOf 4))=a[1]?:=K 1 _ rfl;have Z:DataW.trod enc Zp W 0 sp hd n 3 ((List.drop 2 [d,B,D]).take (Tryz.prog.cellsOf 3))=a[2]?:=K 2 _ rfl;rw[cellI]at Z;rw[cellSt]at m;rw[cellB]at c;obtain⟨y,l⟩:=BL (i:=0) R U;obtain⟨I,F⟩:=BL (i:=1) R U;obtain⟨N,v⟩:=BL (i:=2) R U;obtain⟨s,e,_,_⟩:=DataW.trod_string Tryz.underlying9 (m.trans l);obtain⟨t,b,_,_⟩:=DataW.trod_bool Tryz.underlying4 (c.trans F);obtain⟨k,A,_,_⟩:=DataW.trod_int Tryz.underlying3 (Z.trans v);have j:d=AK s.data.toList:=by rw[<-strV_toList];simpa using e
 have f:B=.bool t:=by simpa using b
 have g:D=iV k:=by simpa using A
 subst j f g;exact⟨⟨s.data.toList,t,k⟩,rfl⟩
theorem open_sgns{C:Nat}{cs:LV}{x:DataW H×List MemPlace}(h:DataW.trod enc Zp W 0 sp hd C 22 cs=some x):∃(v:Value)(l:List Sgn),cs=[v]/\SlAt sgnR AV W v l:=by
 have:Inhabited Sgn:=⟨⟨[],false,0⟩⟩;obtain⟨a,k,L,l,e,j,A,_,E⟩:=open_rows (fun d g=>sgnR.fits AV W d g) Tryz.underlying22 cellSg U (fun m cs x _ T=>open_sgn T) h;exact⟨_,l,e,a,k,L,rfl,j,A,E⟩
end
set_option maxRecDepth 100000 in
theorem val_struct{W:World}{r:Reach}{t:TypeId}{k:Array Field}{v:Value}{b:Nat}(P:Tryz.prog.underlying t=some (.struct k))(q:Value.okWide Zp W r b t v):v=.agg v.cells:=by
 obtain⟨a,rfl,_⟩:=okWide_struct P q;rfl
end
section
open Go.ChangeAt Go.ChangeShapes Go.WideShapes
section
variable {H:Type}{enc:TypeId×Value->H}{P:Program}{w:World}{base:Nat}{sp:Nat->Bool}{held:Bool}
theorem trod_arr{C:Nat}{t e:TypeId}{n c:Nat}{cs:LV}{ds:List (DataW H)}{p:List MemPlace}(g:P.underlying t=some (.array n e))(M:P.cellsOf e=c)(l:P.cellsOf t=n*c)
  (h:DataW.trod enc P w base sp held C t cs=some (.agg ds,p)):cs.length=n*c/\∃m,∀i,i<n->∃d q,ds[i]?=some d/\DataW.trod enc P w base sp held m e ((cs.drop (i*c)).take c)=some (d,q):=by
 cases C with
 |zero=>simp[DataW.trod]at h
 |succ C=>
  simp only[DataW.trod,g,M,l]at h
  split at h
  ·rename_i hl;obtain⟨j,y,T⟩:=Option.map_eq_some_iff.1 h
   have f:j.map (·.1)=ds:=by
    have:=congrArg Prod.fst T;simpa using this
   refine⟨hl,C,fun i a=>?_⟩;obtain⟨b,S,K⟩:=Lib.mapM_at y i i (by simp[a]);exact⟨b.1,b.2,by rw[<-f,List.getElem?_map,S];rfl,K⟩
  ·cases h
end
def spanD(p:Nat×Nat×Nat):DataW Unit:=.agg [.lit (.int .u8 (p.1:Int)),.lit (.int .u8 (p.2.1:Int)),.lit (.int .i64 (p.2.2:Int))]
theorem Dg{cs out:LV}{c i r:Nat}{v:Value}(h:(cs.drop (i*c)).take c=out)(q:out[r]?=some v):cs[i*c+r]?=some v:=by
 subst h;rw[List.getElem?_take]at q
 split at q
 ·rwa [List.getElem?_drop]at q
 ·cases q
theorem len3{cs:LV}(h:cs.length=3):∃d B D,cs=[d,B,D]:=by
 match cs,h with
 | [a,b,c],_=>exact⟨a,b,c,rfl⟩
theorem span_piece{w:World}{C:Nat}{cs:LV}{p:Nat×Nat×Nat}{q:List MemPlace}(h:DataW.trod (fun _=>()) Zp w 0 (fun _=>true) false C 248 cs=some (spanD p,q)):cs=spanC1 p:=by
 have V:Tryz.prog.cellsOf 248=3:=by kernel_rfl
 have t:Tryz.prog.cellsOf 5=1:=by kernel_rfl
 have y:Tryz.prog.cellsOf 3=1:=by kernel_rfl
 obtain⟨e,n,_,T,s,z,K⟩:=DataW.trod_struct Tryz.underlying248 h;rw[V]at s;obtain⟨d,B,D,rfl⟩:=len3 s;have m:DataW.trod (fun _=>()) Zp w 0 (fun _=>true) false n 5 ((List.drop 0 [d,B,D]).take (Tryz.prog.cellsOf 5))=e[0]?:=K 0 _ rfl;have j:DataW.trod (fun _=>()) Zp w 0 (fun _=>true) false n 5 ((List.drop 1 [d,B,D]).take (Tryz.prog.cellsOf 5))=e[1]?:=K 1 _ rfl;have Z:DataW.trod (fun _=>()) Zp w 0 (fun _=>true) false n 3 ((List.drop 2 [d,B,D]).take (Tryz.prog.cellsOf 3))=e[2]?:=K 2 _ rfl;have R:e.length=3:=z;rw[t]at m j;rw[y]at Z;have k:e[0]?=some e[0]:=List.getElem?_eq_getElem U;have F:e[1]?=some e[1]:=List.getElem?_eq_getElem U;have l:e[2]?=some e[2]:=List.getElem?_eq_getElem U;obtain⟨a,I,X,_⟩:=DataW.trod_int Tryz.underlying5 (m.trans k);obtain⟨b,S,i,_⟩:=DataW.trod_int Tryz.underlying5 (j.trans F);obtain⟨c,o,u,_⟩:=DataW.trod_int Tryz.underlying3 (Z.trans l)
 have hd:e.map (·.1)=[.lit (.int .u8 (p.1:Int)),.lit (.int .u8 (p.2.1:Int)),.lit (.int .i64 (p.2.2:Int))]:=by
  have:=congrArg Prod.fst T;simpa[spanD]using this.symm
 have f:=congrArg (·[0]?) hd;have g:=congrArg (·[1]?) hd;have A:=congrArg (·[2]?) hd;simp[k,X]at f;simp[F,i]at g;simp[l,u]at A;simp at I S o;rw[I,S,o,f,g,A];try rfl
theorem sym_piece{w:World}{C:Nat}{cs:LV}{l:LU}{q:List MemPlace}(h:DataW.trod (fun _=>()) Zp w 0 (fun _=>true) false C 9 cs=some (.lit (.string l),q)):cs=[AK l]:=by
 obtain⟨s,rfl,T,_⟩:=DataW.trod_string Tryz.underlying9 h;have:=congrArg Prod.fst T;simp at this;rw[this]
theorem int_at{w:World}{C i:Nat}{cs:LV}{xs:List (DataW Unit×List MemPlace)}{ds:List (DataW Unit)}{z:Int}(K:DataW.trod (fun _=>()) Zp w 0 (fun _=>true) false C 3 ((cs.drop i).take 1)=xs[i]?)(hd:xs.map (·.1)=ds)(a:ds[i]?=some (.lit (.int .i64 z))):cs[i]?=some (iV z):=by
 rw[<-hd,List.getElem?_map]at a;obtain⟨x,T,o⟩:=Option.map_eq_some_iff.1 a;obtain⟨n,G,rfl,_⟩:=DataW.trod_int Tryz.underlying3 (K.trans T);simp at o;subst o;have:=congrArg (·[0]?) G;simpa[List.getElem?_take,List.getElem?_drop]using this
theorem bool_at{w:World}{C i:Nat}{cs:LV}{xs:List (DataW Unit×List MemPlace)}{ds:List (DataW Unit)}{z:Bool}(K:DataW.trod (fun _=>()) Zp w 0 (fun _=>true) false C 4 ((cs.drop i).take 1)=xs[i]?)(hd:xs.map (·.1)=ds)(a:ds[i]?=some (.lit (.bool z))):cs[i]?=some (.bool z):=by
 rw[<-hd,List.getElem?_map]at a;obtain⟨x,T,o⟩:=Option.map_eq_some_iff.1 a;obtain⟨n,G,rfl⟩:=DataW.trod_bool Tryz.underlying4 (K.trans T);simp at o;subst o;have:=congrArg (·[0]?) G;simpa[List.getElem?_take,List.getElem?_drop]using this
def formD(x:Form):DataW Unit:=.agg [.lit (.int .i64 x.least),.lit (.int .i64 x.most),.lit (.int .i64 x.val),.lit (.int .i64 x.bound),.lit (.bool x.named),.lit (.bool x.past),.lit (.bool x.future),.lit (.bool x.loose)]
theorem form_piece{w:World}{e:Nat}{cs:LV}{p:Form}{q:List MemPlace}(h:DataW.trod (fun _=>()) Zp w 0 (fun _=>true) false e 190 cs=some (formD p,q)):cs=Br p:=by
 have V:Tryz.prog.cellsOf 190=8:=by kernel_rfl
 have B:Tryz.prog.cellsOf 4=1:=by kernel_rfl
 have g:Tryz.prog.cellsOf 3=1:=by kernel_rfl
 obtain⟨a,n,_,j,f,l,K⟩:=DataW.trod_struct Tryz.underlying190 h;rw[V]at f
 have hd:a.map (·.1)=[.lit (.int .i64 p.least),.lit (.int .i64 p.most),.lit (.int .i64 p.val),.lit (.int .i64 p.bound),.lit (.bool p.named),.lit (.bool p.past),.lit (.bool p.future),.lit (.bool p.loose)]:=by
  have:=congrArg Prod.fst j;simpa[formD]using this.symm
 have m:DataW.trod (fun _=>()) Zp w 0 (fun _=>true) false n 3 ((cs.drop 0).take (Tryz.prog.cellsOf 3))=a[0]?:=K 0 _ rfl;have c:DataW.trod (fun _=>()) Zp w 0 (fun _=>true) false n 3 ((cs.drop 1).take (Tryz.prog.cellsOf 3))=a[1]?:=K 1 _ rfl;have Z:DataW.trod (fun _=>()) Zp w 0 (fun _=>true) false n 3 ((cs.drop 2).take (Tryz.prog.cellsOf 3))=a[2]?:=K 2 _ rfl;have k:DataW.trod (fun _=>()) Zp w 0 (fun _=>true) false n 3 ((cs.drop 3).take (Tryz.prog.cellsOf 3))=a[3]?:=K 3 _ rfl;have C:DataW.trod (fun _=>()) Zp w 0 (fun _=>true) false n 4 ((cs.drop 4).take (Tryz.prog.cellsOf 4))=a[4]?:=K 4 _ rfl;have T:DataW.trod (fun _=>()) Zp w 0 (fun _=>true) false n 4 ((cs.drop 5).take (Tryz.prog.cellsOf 4))=a[5]?:=K 5 _ rfl;have d:DataW.trod (fun _=>()) Zp w 0 (fun _=>true) false n 4 ((cs.drop 6).take (Tryz.prog.cellsOf 4))=a[6]?:=K 6 _ rfl;have I:DataW.trod (fun _=>()) Zp w 0 (fun _=>true) false n 4 ((cs.drop 7).take (Tryz.prog.cellsOf 4))=a[7]?:=K 7 _ rfl;rw[g]at m c Z k;rw[B]at C T d I;apply List.ext_getElem?;intro i
 match i with
 |0=>exact int_at m hd rfl
 |1=>exact int_at c hd rfl
 |2=>exact int_at Z hd rfl
 |3=>exact int_at k hd rfl
 |4=>exact bool_at C hd rfl
 |5=>exact bool_at T hd rfl
 |6=>exact bool_at d hd rfl
 |7=>exact bool_at I hd rfl
 |i+8=>rw[List.getElem?_eq_none U,List.getElem?_eq_none (by simp[Br])]
section
variable {H:Type}{enc:TypeId×Value->H}{W:World}{sp:Nat->Bool}{hd:Bool}{r:Reach}{b:Nat}{v:Value}{x:DataW H×List MemPlace}
theorem open_intl{C:Nat}{cs:LV}(h:DataW.trod enc Zp W 0 sp hd C 24 cs=some x):∃(a:Option Addr)(c:Nat)(l:List Int),cs=[.slice a l.length c]/\Sl AV W (.slice a l.length c) l.length (l.map (.int .i64)):=by
 rcases open_ints Tryz.underlying24 Tryz.underlying3 cellI h with⟨rfl,_⟩|⟨a,d,f,X,rfl,_,M,y,o,_,e,D⟩
 ·exact⟨none,0,[],rfl,⟨none,0,rfl,Nat.le_refl _,by omega,fun _=>rfl,.inl rfl⟩⟩
 ·have q:d<=X.length:=by rw[o];split<;>omega
  have B:(X.take d).length=d:=by simp;omega
  refine⟨some a,f,X.take d,by rw[B],some a,f,rfl,by omega,by simp only[maxLen]at y;omega,(fun h=>by cases h),?_⟩;by_cases m:d=0
  ·left;omega
  ·right;have j:a.spot=none:=spot_none (a:=a.add 0) (e 0 U);obtain⟨b,p,s⟩:=a;simp only at j;subst j;refine⟨b,p,rfl,trivial,fun i u n=>?_⟩
   have k:i<d:=by
    have:=(List.getElem?_eq_some_iff.1 n).1;rw[List.length_map]at this;omega
   rw[List.getElem?_map,List.getElem?_take,if_pos k,List.getElem?_eq_getElem U]at n;cases n;have g:=e i U;rw[Addr.add_lit]at g;rw[g]
   congr 2
   simp[List.getD_eq_getElem?_getD,show i<X.length by omega]
set_option maxRecDepth 100000 in
theorem arg_sgns(q:Value.okWide Zp W r b 22 v)(h:∃n,DataW.trod enc Zp W 0 sp hd n 22 v.cells.toList=some x):∃l:List Sgn,SlAt sgnR AV W v l:=by
 obtain⟨n,h⟩:=h;obtain⟨u,l,e,M⟩:=open_sgns h;have:v=u:=val_one Tryz.underlying22 q e;exact⟨l,this▸M⟩
set_option maxRecDepth 100000 in
theorem arg_ints(q:Value.okWide Zp W r b 24 v)(h:∃n,DataW.trod enc Zp W 0 sp hd n 24 v.cells.toList=some x):∃(a:Option Addr)(c:Nat)(l:List Int),v=.slice a l.length c/\Sl AV W (.slice a l.length c) l.length (l.map (.int .i64)):=by
 obtain⟨n,h⟩:=h;obtain⟨a,c,l,e,M⟩:=open_intl h;exact⟨a,c,l,val_one Tryz.underlying24 q e,M⟩
theorem cellL:Tryz.prog.cellsOf 26=2:=by kernel_rfl
theorem cellIs:Tryz.prog.cellsOf 24=1:=by kernel_rfl
theorem cellD:Tryz.prog.cellsOf 40=19:=by kernel_rfl
set_option maxRecDepth 100000 in
theorem arg_las(G:Value.okWide Zp W r b 26 v)(h:∃n,DataW.trod enc Zp W 0 sp hd n 26 v.cells.toList=some x):∃(c:LV)(D N:List Int),v=.agg c.toArray/\LasG W c D N:=by
 obtain⟨n,h⟩:=h;have q:=val_struct Tryz.underlying26 G;obtain⟨k,m,_,_,M,L,K⟩:=DataW.trod_struct Tryz.underlying26 h;rw[cellL]at M;obtain⟨d,B,V⟩:=lenS M;rw[V]at K;have p:k.length=2:=L;have l:DataW.trod enc Zp W 0 sp hd m 24 ((List.drop 0 [d,B]).take (Tryz.prog.cellsOf 24))=k[0]?:=K 0 _ rfl;have o:DataW.trod enc Zp W 0 sp hd m 24 ((List.drop 1 [d,B]).take (Tryz.prog.cellsOf 24))=k[1]?:=K 1 _ rfl;rw[cellIs]at l o;obtain⟨y,C⟩:=BL (i:=0) p U;obtain⟨I,E⟩:=BL (i:=1) p U;obtain⟨a,e,F,t,s⟩:=open_intl (l.trans C);obtain⟨u,f,g,z,X⟩:=open_intl (o.trans E);have j:d=.slice a F.length e:=by simpa using t
 have A:B=.slice u g.length f:=by simpa using z
 subst j A;exact⟨[.slice a F.length e,.slice u g.length f],F,g,by rw[q,<-V,Array.toArray_toList],a,e,u,f,rfl,s,X⟩
end
def laidL:List (String×DataW Unit):=[("math/bits.deBruijn32tab",Rows.laid_math_bits_deBruijn32tab),("math/bits.deBruijn64tab",Rows.laid_math_bits_deBruijn64tab),("internal/strconv.uint64pow10",Rows.laid_internal_strconv_uint64pow10),("strconv.ErrRange",Rows.laid_strconv_ErrRange),("strconv.ErrSyntax",Rows.laid_strconv_ErrSyntax),("foresight/signal.keys",Rows.laid_foresight_signal_keys),("foresight/formula.forms",Rows.laid_foresight_formula_forms),("foresight/lexer.spans",Rows.laid_foresight_lexer_spans),("foresight/lexer.symbols",Rows.laid_foresight_lexer_symbols)]
theorem gp_of_laid{W:World}(h:laidMetH Zp laidL W):GK W/\GF W:=by
 have G:laidMet Zp laidL W:=h;obtain⟨ps,⟨g1,t1,a6,b5,p1,q1,c9,d3,d7,c4,⟨g2,t2,a7,b6,p2,q2,d0,d4,a1,c5,⟨g3,t3,a8,b7,p3,q3,Q,L,d8,c6,⟨g4,t4,a9,b8,p4,q4,d1,d5,d9,c7,⟨g5,t5,b0,b9,p5,q5,d2,d6,e0,c8,⟨g6,t6,b1,c0,p6,q6,F,V,a2,I,⟨g9,t9,b4,c3,p9,q9,T,a0,a5,t,⟨g7,t7,b2,c1,p7,q7,R,X,a3,K,⟨g8,t8,b3,c2,p8,q8,o,Z,a4,N,_,_⟩,_⟩,_⟩,_⟩,_⟩,_⟩,_⟩,_⟩,_⟩,_⟩:=G;have n2:Tryz.prog.globalNamed "math/bits.deBruijn64tab" =some 9:=by kernel_rfl
 have S:Tryz.prog.globalNamed "foresight/signal.keys" =some 0:=by kernel_rfl
 have E:Tryz.prog.globalNamed "foresight/lexer.spans" =some 3:=by kernel_rfl
 have C:Tryz.prog.globalNamed "foresight/lexer.symbols" =some 4:=by kernel_rfl
 have c:Tryz.prog.globalNamed "foresight/formula.forms" =some 2:=by kernel_rfl
 have n3:Tryz.prog.globalNamed "internal/strconv.uint64pow10" =some 7:=by kernel_rfl
 have y9:(Tryz.prog.globals[2]?).map (·.type)=some 236:=by kernel_rfl
 have y3:(Tryz.prog.globals[7]?).map (·.type)=some 327:=by kernel_rfl
 have y6:(Tryz.prog.globals[0]?).map (·.type)=some 196:=by kernel_rfl
 have y7:(Tryz.prog.globals[3]?).map (·.type)=some 249:=by kernel_rfl
 have y8:(Tryz.prog.globals[4]?).map (·.type)=some 272:=by kernel_rfl
 obtain rfl:=Option.some.inj (c.symm.trans T);obtain rfl:=Option.some.inj (n3.symm.trans Q);obtain rfl:=Option.some.inj (y9.symm.trans a0);obtain rfl:=Option.some.inj (y3.symm.trans L);obtain rfl:=Option.some.inj (S.symm.trans F);obtain rfl:=Option.some.inj (E.symm.trans R);obtain rfl:=Option.some.inj (C.symm.trans o);obtain rfl:=Option.some.inj (y6.symm.trans V);obtain rfl:=Option.some.inj (y7.symm.trans X);obtain rfl:=Option.some.inj (y8.symm.trans Z);refine⟨⟨⟨?_,?_,?_⟩,?_⟩,?_⟩
 ·obtain⟨M,m,f⟩:=trod_arr (ds:=spansL.map spanD) Tryz.underlying249 (by kernel_rfl:Tryz.prog.cellsOf 248=3) Dv K;intro j u n;have z:j<48:=(List.getElem?_eq_some_iff.1 n).1;obtain⟨p,a⟩:∃p,spansL[j/3]?=some p:=⟨_,List.getElem?_eq_getElem (by show j/3<16;omega)⟩;obtain⟨d,q,hd,g⟩:=f (j/3) U;rw[List.getElem?_map,a]at hd;cases hd;have s:=span_piece g;have A:=spanC_at spansL (j/3) p a;obtain⟨v,k⟩:∃v,(spanC1 p)[j%3]?=some v:=⟨_,List.getElem?_eq_getElem (by show j%3<3;omega)⟩;have B:=Dg s k;have D:=Dg A k;rw[show j/3*3+j%3=j by omega]at B D;have i:(spansL.flatMap spanC1)[j]?=some u:=n;rw[D]at i;rw[Nat.zero_add,World.var?_cell E a3 j];rw[<-i,<-B];simp
 ·obtain⟨M,m,f⟩:=trod_arr (ds:=symsL.map fun l=>.lit (.string l)) Tryz.underlying272 (by kernel_rfl:Tryz.prog.cellsOf 9=1) Dv N;intro j u n;have z:j<15:=(List.getElem?_eq_some_iff.1 n).1;obtain⟨p,a⟩:∃p,symsL[j]?=some p:=⟨_,List.getElem?_eq_getElem z⟩;obtain⟨d,q,hd,g⟩:=f j z;rw[List.getElem?_map,a]at hd;cases hd;have B:=Dg (r:=0) (sym_piece g) rfl;have i:(symsL.map AK)[j]?=some u:=n;rw[List.getElem?_map,a]at i;cases i;rw[Nat.zero_add,World.var?_cell C a4 j];simpa using B
 ·have y:=a1;simp only[World.var?,n2,Option.bind_some]at y
  split at y
  ·rename_i e;have:=(Array.getElem?_eq_some_iff.1 e).1;omega
  ·cases y
 ·obtain⟨M,m,f⟩:=trod_arr (ds:=keysL.map fun l=>.lit (.string l)) Tryz.underlying196 (by kernel_rfl:Tryz.prog.cellsOf 9=1) Dv I;intro j u n;have z:j<10:=(List.getElem?_eq_some_iff.1 n).1;obtain⟨p,a⟩:∃p,keysL[j]?=some p:=⟨_,List.getElem?_eq_getElem z⟩;obtain⟨d,q,hd,g⟩:=f j z;rw[List.getElem?_map,a]at hd;cases hd;have B:=Dg (r:=0) (sym_piece g) rfl;have i:(keysL.map AK)[j]?=some u:=n;rw[List.getElem?_map,a]at i;cases i;rw[Nat.zero_add,World.var?_cell S a2 j];simpa using B
 ·obtain⟨M,m,f⟩:=trod_arr (ds:=formsL.map formD) Tryz.underlying236 (by kernel_rfl:Tryz.prog.cellsOf 190=8) Dv t;intro j u n;have z:j<160:=(List.getElem?_eq_some_iff.1 n).1;obtain⟨p,a⟩:∃p,formsL[j/8]?=some p:=⟨_,List.getElem?_eq_getElem (by show j/8<20;omega)⟩;obtain⟨d,q,hd,g⟩:=f (j/8) U;rw[List.getElem?_map,a]at hd;cases hd;have s:=form_piece g;obtain⟨v,k⟩:∃v,(Br p)[j%8]?=some v:=⟨_,List.getElem?_eq_getElem (by show j%8<8;omega)⟩;have B:=Dg s k;have D:=formC_at formsL (j/8) (j%8) p v a k;rw[show j/8*8+j%8=j by omega]at B D;have i:(formsL.flatMap Br)[j]?=some u:=n;rw[D]at i;rw[Nat.zero_add,World.var?_cell c a5 j];rw[<-i,<-B];simp
set_option maxRecDepth 100000 in
theorem law_liftedL{B:Os}(L:B.Started){k:FuncId}{fn:Func}{s:ChangeSpec}{G:List PathCond}{fresh:Bool}{H:Type}{enc:TypeId×Value->H}(F:Stop.Interp)(g:Tryz.prog.inits.idxOf? k=none)(Q:Tryz.prog.funcs[k]?=some fn)
  (a2:∃(w:World)(y:Tape)(i:Input),w.os=B/\(w.forCall y i).Shaped Zp/\i.vars=[]/\Input.okWide Zp (w.forCall y i) .any w.heap.size k i/\
   (OpenSpec.ofChange s).preRow enc Zp fn G false laidL (w.forCall y i).memory i.args/\({}:Assume).holds Zp (lone (Frame.enter Zp k i.args .normal) [] (w.forCall y i)))
  (D:s.vars=[])(Z:(fn.params.toList.all fun t=>decide (t<Tryz.prog.types.size))=true)(M:fn.resultTypes= #[4])
  (T:∀ds:List (DataW H),ds.length=fn.params.toList.length->s.fn H ds={results:=[.lit (.bool true)],args:=ds})
  (a1:∀(W:World)(base:Nat)(args:LV)(ds:List (DataW H))(p:List MemPlace),(∀(j:Nat)t v,fn.params.toList[j]?=some t->args[j]?=some v->Value.okWide Zp W .any base t v)->
   DataW.TrodAll enc Zp W 0 (fun _=>true) true fn.params.toList args ds p->GK W/\GF W->Fn Zp k args W fun v w'=>v=.bool true/\Ext W w'):
  ReturnsInHanded {} Tryz.checked B k .any ((OpenSpec.ofChange s).preRow enc Zp fn G false laidL) (((OpenSpec.ofChange s).at F).post enc Zp fn false fresh false false):=by
 refine returnsInHanded_of_row (C:=Tryz.checked) (s:=OpenSpec.ofChange s) own L g Q a2 ?_;intro W base args ds n K a0 f _ _ _ A _ _;have c:DataW.Whole enc Zp fn.params.toList s.vars false W args.toList ds n K:=f;obtain⟨p,q,E,N,rfl,hf,hn⟩:=f
 have S:n=[]:=by
  have I:DataW.TrodVars enc Zp W (fun _=>true) s.vars n q:=N;rw[D]at I;cases n with
  |nil=>rfl
  |cons _ _=>exact I.elim
 subst S
 have l:∀{m:List TypeId}{R:LV}{ds:List (DataW H)}{u:List MemPlace},DataW.TrodAll enc Zp W 0 (fun _=>true) true m R ds u->ds.length=m.length:=by
  intro m
  induction m with
  |nil=>intro R ds u h;obtain⟨rfl,rfl,rfl⟩:=trodAll_nil h;rfl
  |cons t m ih=>intro R ds u h;obtain⟨v,a4,d,a3,a,b,rfl,rfl,rfl,X,z⟩:=trodAll_cons h;simp[ih z]
 refine Calls.mono (a1 W base args.toList ds p (fun j t v X z=>a0 j t v (Array.getElem?_toList.symm.trans X) (Array.getElem?_toList.symm.trans z)) E (gp_of_laid A)) fun e W' o=>?_;cases e with
 |returned v=>
  refine⟨v,rfl,post_of_ext kids full (fun t V=>of_decide_eq_true (List.all_eq_true.1 Z t V)) D c ?_ M Tryz.underlying4 o.1 o.2⟩;rw[List.append_nil];exact T ds (l E)
 |panicked ch=>exact o.elim
 |outgrown=>exact o.elim
def layC(cs:LV):Obj->Obj
 | .cells _ t frozen=>.cells cs.toArray t frozen
 |o=>o
def tabC:DataW Unit->LV
 | .agg l=>l.map fun d=>match d with| .lit (.int k z)=>.int k z|_=>.bool false
 |_=>[]
noncomputable def laidWorld (a:Os):World:=
 let w:=World.holding Zp a ⟨#[.cells #[AK [118,97,108,117,101,32,111,117,116,32,111,102,32,114,97,110,103,101]] 317,.cells #[AK [105,110,118,97,108,105,100,32,115,121,110,116,97,120]] 317],#[],[]⟩
 {w with heap:=(((((((((w.heap.modify 2 (layC formC)).modify 3 (layC spanC)).modify 4 (layC symC)).modify 0 (layC keyC)).modify 6 (layC [.iface 315 (.pointer (sm 15))])).modify 5 (layC [.iface 315 (.pointer (sm 16))])).modify 7 (layC (tabC Rows.laid_internal_strconv_uint64pow10))).modify 8 (layC (tabC Rows.laid_math_bits_deBruijn32tab))).modify 9 (layC (tabC Rows.laid_math_bits_deBruijn64tab)))}
end
section
open Go.ChangeAt Go.ChangeShapes Go.WideShapes
section
variable {H:Type}{enc:TypeId×Value->H}{W:World}{sp:Nat->Bool}{hd:Bool}{r:Reach}{b:Nat}{v:Value}{x:DataW H×List MemPlace}
theorem open_dty{o:Nat}{cs:LV}(h:DataW.trod enc Zp W 0 sp hd o 40 cs=some x):∃y:Dty,dtyR.fits AV W cs y:=by
 obtain⟨a,n,rfl,_,M,w,K⟩:=DataW.trod_struct Tryz.underlying40 h;rw[cellD]at M;have N:a.length=4:=w;have m:DataW.trod enc Zp W 0 sp hd n 38 ((cs.drop 0).take (Tryz.prog.cellsOf 38))=a[0]?:=K 0 _ rfl;have e:DataW.trod enc Zp W 0 sp hd n 3 ((cs.drop 8).take (Tryz.prog.cellsOf 3))=a[1]?:=K 1 _ rfl;have Z:DataW.trod enc Zp W 0 sp hd n 36 ((cs.drop 9).take (Tryz.prog.cellsOf 36))=a[2]?:=K 2 _ rfl;have k:DataW.trod enc Zp W 0 sp hd n 36 ((cs.drop 14).take (Tryz.prog.cellsOf 36))=a[3]?:=K 3 _ rfl;rw[cellR]at m;rw[cellI]at e;rw[cellF]at Z k;obtain⟨A,d⟩:=BL (i:=0) N U;obtain⟨I,F⟩:=BL (i:=1) N U;obtain⟨B,p⟩:=BL (i:=2) N U;obtain⟨D,s⟩:=BL (i:=3) N U;obtain⟨q,T⟩:=open_req (m.trans d);obtain⟨t,j,_,_⟩:=DataW.trod_int Tryz.underlying3 (e.trans F);obtain⟨f,u⟩:=open_fml _ _ _ (Z.trans p);obtain⟨g,C⟩:=open_fml _ _ _ (k.trans s);have l:(cs.drop 14).take 5=cs.drop 14:=List.take_of_length_le (by rw[List.length_drop];omega);rw[l]at C;refine⟨⟨q,t,f,g⟩,(cs.drop 0).take 8,(cs.drop 9).take 5,cs.drop 14,?_,T,u,C⟩;have X:cs=cs.take 8++cs.drop 8:=(List.take_append_drop 8 cs).symm;have c:cs.drop 8=(cs.drop 8).take 1++(cs.drop 8).drop 1:=(List.take_append_drop 1 _).symm;have Q:(cs.drop 8).drop 1=cs.drop 9:=by rw[List.drop_drop]
 have z:cs.drop 9=(cs.drop 9).take 5++(cs.drop 9).drop 5:=(List.take_append_drop 5 _).symm;have S:(cs.drop 9).drop 5=cs.drop 14:=by rw[List.drop_drop]
 rw[Q]at c;rw[S]at z;rw[j]at c;show cs=(cs.drop 0).take 8++(iV t::((cs.drop 9).take 5++cs.drop 14));rw[<-z,List.drop_zero]
 calc cs=cs.take 8++cs.drop 8:=X
  _=cs.take 8++([iV t]++cs.drop 9):=by rw[<-c]
set_option maxRecDepth 100000 in
theorem arg_dtys(q:Value.okWide Zp W r b 23 v)(h:∃n,DataW.trod enc Zp W 0 sp hd n 23 v.cells.toList=some x):∃(a:Option Addr)(c:Nat)(l:List Dty),v=.slice a l.length c/\SlAt dtyR AV W (.slice a l.length c) l:=by
 obtain⟨n,h⟩:=h;have:Inhabited Dty:=⟨⟨⟨[],[],0,Ag⟩,0,Ag,Ag⟩⟩;obtain⟨a,k,L,l,e,j,A,_,E⟩:=open_rows (fun d g=>dtyR.fits AV W d g) Tryz.underlying23 cellD U (fun m f x _ T=>open_dty T) h;exact⟨a,k,l,val_one Tryz.underlying23 q e,a,k,L,rfl,j,A,E⟩
set_option maxRecDepth 100000 in
theorem arg_byte(q:Value.okWide Zp W r b 5 v)(h:∃n,DataW.trod enc Zp W 0 sp hd n 5 v.cells.toList=some x):∃z:Int,v=.int .u8 z/\0<=z/\z<256:=by
 obtain⟨n,h⟩:=h;obtain⟨z,rfl⟩:=okWide_int Tryz.underlying5 q;obtain⟨N,e,_,D⟩:=DataW.trod_int Tryz.underlying5 h;have:z=N:=by simpa[Value.cells]using e
 subst this;simp only[Lit.wf,Bool.and_eq_true,decide_eq_true_eq]at D;have X:(0:Int)<=z:=D.1;have a:z<=255:=D.2;exact⟨z,rfl,X,by omega⟩
end
end
theorem joined_of{P:Program}{f:FuncId}{fn:Func}{s:ChangeSpec}{c:OpenClaim}(a:(c.wf (OpenSpec.ofChange s))=true)(X:(laidOutB P)=true)(W:(mapsRowed P)=true)(q:(fn.params.all (P.readableRec ·))=true)(z:(namedTie P c.named s.vars)=true)(w:(c.stops==[])=true)(y:(P.stops==[])=true)(x:(c.knobs==[])=true)(B:(P.stopKnobs==[])=true)(A:(c.inPlace==P.inPlace f)=true)(b:(c.unfollowed==P.unfollowed f)=true)(S:(c.recurses==P.recurses f)=true)(e:(c.named==P.varsNamed f)=true)(g:(c.maps==(fn.params.toList++s.plain.varTypes P).any (P.mapsRec ·))=true)(R:(c.ifaces==(fn.params.toList++s.plain.varTypes P).any (P.ifacesRec ·))=true)(h:(c.mapsOut==P.mapsAmong fn.resultTypes.toList)=true)(F:(c.loops==(fn.params.toList++s.plain.varTypes P).any (P.loopsFrom ·))=true)(d:(c.wideKeys==(fn.params.toList++s.plain.varTypes P++fn.resultTypes.toList).any (P.wideKeysFrom ·))=true)(i:(s.vars.all (P.varReadable ·))=true)(j:(fn.resultTypes.all (fun t=>P.readableRec t&&decide (t<P.types.size)))=true)(N:(c.ifacesOut==fn.resultTypes.toList.any (P.ifacesRec ·))=true)(l:(c.loopsOut==fn.resultTypes.toList.any (P.loopsFrom ·))=true)(m:(c.plainKeys==P.plainKeys)=true)(r:(c.shortTexts.isNone)=true)(Q:(P.stopsHeard)=true)(V:(P.mayEnter)=true)(T:(c.lifted==P.liftsFinal)=true)(n:(P.make==some c.make)=true)(o:(c.kinds==(if c.domain.isEmpty then[]else fn.params.toList.map fun t=>match P.underlying t with|some (.int k)=>some k|_=>none))=true)(p:(c.pinned==c.pinnedBy)=true)(u:(c.veiled==(fn.params.toList++s.plain.varTypes P++fn.resultTypes.toList).any (P.veiledRec ·))=true)(v:(c.veiledFits P fn.params.toList (fn.params.toList++s.plain.varTypes P++fn.resultTypes.toList))=true):joinedFacts P f fn s c=true:=by
 unfold joinedFacts;simp only[Bool.and_eq_true];exact⟨⟨⟨⟨⟨⟨⟨⟨⟨⟨⟨⟨⟨⟨⟨⟨⟨⟨⟨⟨⟨⟨⟨⟨⟨⟨⟨⟨⟨⟨⟨a,X⟩,W⟩,q⟩,z⟩,w⟩,y⟩,x⟩,B⟩,A⟩,b⟩,S⟩,e⟩,g⟩,R⟩,h⟩,F⟩,d⟩,i⟩,j⟩,N⟩,l⟩,m⟩,r⟩,Q⟩,V⟩,T⟩,n⟩,o⟩,p⟩,u⟩,v⟩
theorem TopOwedOnce_j0:(Rows.topOwedOnceRow.wf (OpenSpec.ofChange (OpenSpec.ofChange Rows.topOwedOnceSpec).bare))=true:=by kernel_rfl
theorem TopOwedOnce_j1:(laidOutB Zp)=true:=by kernel_rfl
theorem TopOwedOnce_j2:(mapsRowed Zp)=true:=by kernel_rfl
theorem TopOwedOnce_j3:(Tryz.f3.params.all (Tryz.prog.readableRec ·))=true:=by kernel_rfl
theorem TopOwedOnce_j4:(namedTie Zp Rows.topOwedOnceRow.named (OpenSpec.ofChange Rows.topOwedOnceSpec).bare.vars)=true:=by kernel_rfl
theorem TopOwedOnce_j5:((Rows.topOwedOnceRow.stops==[]))=true:=by kernel_rfl
theorem TopOwedOnce_j6:((Tryz.prog.stops==[]))=true:=by kernel_rfl
theorem TopOwedOnce_j7:((Rows.topOwedOnceRow.knobs==[]))=true:=by kernel_rfl
theorem TopOwedOnce_j8:((Tryz.prog.stopKnobs==[]))=true:=by kernel_rfl
theorem TopOwedOnce_j9:((Rows.topOwedOnceRow.inPlace==Tryz.prog.inPlace 3))=true:=by kernel_rfl
theorem TopOwedOnce_j10:((Rows.topOwedOnceRow.unfollowed==Tryz.prog.unfollowed 3))=true:=by kernel_rfl
theorem TopOwedOnce_j11:((Rows.topOwedOnceRow.recurses==Tryz.prog.recurses 3))=true:=by kernel_rfl
theorem TopOwedOnce_j12:((Rows.topOwedOnceRow.named==Tryz.prog.varsNamed 3))=true:=by kernel_rfl
theorem TopOwedOnce_j13:((Rows.topOwedOnceRow.maps==(Tryz.f3.params.toList++(OpenSpec.ofChange Rows.topOwedOnceSpec).bare.plain.varTypes Zp).any (Tryz.prog.mapsRec ·)))=true:=by kernel_rfl
theorem TopOwedOnce_j14:((Rows.topOwedOnceRow.ifaces==(Tryz.f3.params.toList++(OpenSpec.ofChange Rows.topOwedOnceSpec).bare.plain.varTypes Zp).any (Tryz.prog.ifacesRec ·)))=true:=by kernel_rfl
theorem TopOwedOnce_j15:((Rows.topOwedOnceRow.mapsOut==Tryz.prog.mapsAmong Tryz.f3.resultTypes.toList))=true:=by kernel_rfl
theorem TopOwedOnce_j16:((Rows.topOwedOnceRow.loops==(Tryz.f3.params.toList++(OpenSpec.ofChange Rows.topOwedOnceSpec).bare.plain.varTypes Zp).any (Tryz.prog.loopsFrom ·)))=true:=by kernel_rfl
theorem TopOwedOnce_j17:((Rows.topOwedOnceRow.wideKeys==(Tryz.f3.params.toList++(OpenSpec.ofChange Rows.topOwedOnceSpec).bare.plain.varTypes Zp++Tryz.f3.resultTypes.toList).any (Tryz.prog.wideKeysFrom ·)))=true:=by kernel_rfl
theorem TopOwedOnce_j18:((OpenSpec.ofChange Rows.topOwedOnceSpec).bare.vars.all (Tryz.prog.varReadable ·))=true:=by kernel_rfl
theorem TopOwedOnce_j19:(Tryz.f3.resultTypes.all (fun t=>Tryz.prog.readableRec t&&decide (t<Tryz.prog.types.size)))=true:=by kernel_rfl
theorem TopOwedOnce_j20:((Rows.topOwedOnceRow.ifacesOut==Tryz.f3.resultTypes.toList.any (Tryz.prog.ifacesRec ·)))=true:=by kernel_rfl
theorem TopOwedOnce_j21:((Rows.topOwedOnceRow.loopsOut==Tryz.f3.resultTypes.toList.any (Tryz.prog.loopsFrom ·)))=true:=by kernel_rfl
theorem TopOwedOnce_j22:((Rows.topOwedOnceRow.plainKeys==Tryz.prog.plainKeys))=true:=by kernel_rfl
theorem TopOwedOnce_j23:(Rows.topOwedOnceRow.shortTexts.isNone)=true:=by kernel_rfl
theorem TopOwedOnce_j24:(Tryz.prog.stopsHeard)=true:=by kernel_rfl
theorem TopOwedOnce_j25:(Tryz.prog.mayEnter)=true:=by kernel_rfl
theorem TopOwedOnce_j26:((Rows.topOwedOnceRow.lifted==Tryz.prog.liftsFinal))=true:=by kernel_rfl
theorem TopOwedOnce_j27:((Tryz.prog.make==some Rows.topOwedOnceRow.make))=true:=by kernel_rfl
theorem TopOwedOnce_j28:((Rows.topOwedOnceRow.kinds==(if Rows.topOwedOnceRow.domain.isEmpty then[]else Tryz.f3.params.toList.map fun t=>match Tryz.prog.underlying t with|some (.int k)=>some k|_=>none)))=true:=by kernel_rfl
theorem TopOwedOnce_j29:((Rows.topOwedOnceRow.pinned==Rows.topOwedOnceRow.pinnedBy))=true:=by kernel_rfl
theorem TopOwedOnce_j30:((Rows.topOwedOnceRow.veiled==(Tryz.f3.params.toList++(OpenSpec.ofChange Rows.topOwedOnceSpec).bare.plain.varTypes Zp++Tryz.f3.resultTypes.toList).any (Tryz.prog.veiledRec ·)))=true:=by kernel_rfl
theorem TopOwedOnce_j31:(Rows.topOwedOnceRow.veiledFits Zp Tryz.f3.params.toList (Tryz.f3.params.toList++(OpenSpec.ofChange Rows.topOwedOnceSpec).bare.plain.varTypes Zp++Tryz.f3.resultTypes.toList))=true:=by kernel_rfl
theorem TopOwedOnce_joined0:joinedFacts Tryz.prog 3 Tryz.f3 (OpenSpec.ofChange Rows.topOwedOnceSpec).bare Rows.topOwedOnceRow=true:=joined_of TopOwedOnce_j0 TopOwedOnce_j1 TopOwedOnce_j2 TopOwedOnce_j3 TopOwedOnce_j4 TopOwedOnce_j5 TopOwedOnce_j6 TopOwedOnce_j7 TopOwedOnce_j8 TopOwedOnce_j9 TopOwedOnce_j10 TopOwedOnce_j11 TopOwedOnce_j12 TopOwedOnce_j13 TopOwedOnce_j14 TopOwedOnce_j15 TopOwedOnce_j16 TopOwedOnce_j17 TopOwedOnce_j18 TopOwedOnce_j19 TopOwedOnce_j20 TopOwedOnce_j21 TopOwedOnce_j22 TopOwedOnce_j23 TopOwedOnce_j24 TopOwedOnce_j25 TopOwedOnce_j26 TopOwedOnce_j27 TopOwedOnce_j28 TopOwedOnce_j29 TopOwedOnce_j30 TopOwedOnce_j31
theorem TopOwedOnce_joined:joinedFacts Tryz.pinned.checked.prog 3 Tryz.f3 (OpenSpec.ofChange Rows.topOwedOnceSpec).bare Rows.topOwedOnceRow=true:=by
 rw[show Tryz.pinned.checked.prog=Tryz.prog from by kernel_rfl];exact TopOwedOnce_joined0
section
open Go.ChangeAt Go.ChangeShapes Go.WideShapes
set_option maxRecDepth 100000 in
theorem TopOwedOnce_open{H:Type}{enc:TypeId×Value->H}(W:World)(r:Nat)(args:LV)(ds:List (DataW H))(p:List MemPlace)(q:∀(j:Nat)t v,Tryz.f3.params.toList[j]?=some t->args[j]?=some v->Value.okWide Zp W .any r t v)
  (E:DataW.TrodAll enc Zp W 0 (fun _=>true) true Tryz.f3.params.toList args ds p)(C:GK W/\GF W):Fn Zp 3 args W fun v w'=>v=.bool true/\Ext W w':=by
 rw[Tryz.params3]at E q;obtain⟨u,_,b,_,p0,q0,rfl,rfl,rfl,s,A⟩:=trodAll_cons E;obtain⟨x,_,N,_,p1,q1,rfl,rfl,rfl,X,Z⟩:=trodAll_cons A;obtain⟨B,_,P,_,p2,q2,rfl,rfl,rfl,g,k⟩:=trodAll_cons Z;obtain⟨y,_,T,_,p3,q3,rfl,rfl,rfl,Q,a⟩:=trodAll_cons k;obtain⟨I,_,R,_,p4,q4,rfl,rfl,rfl,z,w⟩:=trodAll_cons a;obtain⟨rfl,rfl,rfl⟩:=trodAll_nil w;obtain⟨S,d⟩:=arg_sgns (q 0 _ u rfl rfl) s;obtain⟨L,K,rfl,_⟩:=d.len;obtain⟨e,G,l,rfl,M⟩:=arg_dtys (q 1 _ x rfl rfl) X;obtain⟨o,rfl,m⟩:=arg_byte (q 2 _ B rfl rfl) g;obtain⟨V,n,F,rfl,f⟩:=arg_ints (q 3 _ y rfl rfl) Q;obtain⟨c,D,h,rfl,i⟩:=arg_las (q 4 _ I rfl rfl) z;exact owedOnce_ok W L K S e G l o V n F c D h m d M f i C.1 C.2 C.1.keys C.1.gv.size
theorem TopOwedOnce_laidMet(P:Os):laidMet Zp laidL ((laidWorld P).forCall (fun _ _=>0) ⟨#[],#[.slice none 0 0,.slice none 0 0,.int .u8 0,.slice none 0 0,.agg #[.slice none 0 0,.slice none 0 0]],[]⟩).memory:=laidMet_of_run' 8 Dv Dv
theorem TopOwedOnce_reads(P:Os){H:Type}(enc:TypeId×Value->H):∃B,DataW.whole enc Zp ((laidWorld P).forCall (fun _ _=>0) ⟨#[],#[.slice none 0 0,.slice none 0 0,.int .u8 0,.slice none 0 0,.agg #[.slice none 0 0,.slice none 0 0]],[]⟩).memory Tryz.f3.params.toList Rows.topOwedOnceSpec.vars false #[.slice none 0 0,.slice none 0 0,.int .u8 0,.slice none 0 0,.agg #[.slice none 0 0,.slice none 0 0]].toList 8=some ([.nil,.nil,.lit (.int .u8 0),.nil,.agg [.nil,.nil]],[],B):=⟨[],by kernel_rfl⟩
set_option maxRecDepth 100000 in
theorem TopOwedOnce_lifted(P:Os)(L:P.Started)(H:Type)(enc:TypeId×Value->H)(F:Stop.Interp):
  ReturnsInHanded {} Tryz.checked P 3 .any ((OpenSpec.ofChange Rows.topOwedOnceSpec).preRow enc Zp Tryz.f3 Rows.topOwedOnceRow.domain false Rows.topOwedOnceRow.laid) (((OpenSpec.ofChange Rows.topOwedOnceSpec).at F).post enc Zp Tryz.f3 false true false false):=by
 obtain⟨B,T⟩:=TopOwedOnce_reads P enc
 exact law_liftedL L F Dv Tryz.func3
  (witness_row_atRef (enc:=enc) (C:=Tryz.checked) false (laidWorld P) #[.slice none 0 0,.slice none 0 0,.int .u8 0,.slice none 0 0,.agg #[.slice none 0 0,.slice none 0 0]] rfl Dv Dv Dv
   (OpenSpec.preRow_of_cond 8 T Dv (fun k a=>by cases a) Dv (TopOwedOnce_laidMet P))) rfl Dv Dv
  (fun j h=>by
   match j,h with
   | [d1,d2,d3,d4,d5],_=>rfl) TopOwedOnce_open
theorem TopOwedOnce_said:Rows.TopOwedOnceSaid:=
 OpenClaim.holds_of_cond 3 Tryz.f3 rfl rfl rfl rfl rfl rfl rfl ⟨rfl,rfl,rfl,rfl,rfl⟩ rfl rfl rfl rfl rfl Dv Tryz.func3 TopOwedOnce_joined
  (of_decide_eq_true Dv) (by unfold Func.isWrapper;first|(rw[if_pos (by decide+kernel)];kernel_rfl)|(rw[if_neg (by decide+kernel)];exact⟨rfl,rfl⟩))
  (fun P L H d _ F=>by rw[OpenClaim.pre_eq_preRow];exact TopOwedOnce_lifted P L H d F)
theorem TopOwedOnce_plain(f:FuncId)(fn:Func)(K:Tryz.pinned.checked.prog.funcNamed "foresight/foresighttop.TopOwedOnce" =some f)(E:Tryz.pinned.checked.prog.funcs[f]?=some fn):
  true=Tryz.pinned.checked.prog.looks []/\∀(j:Nat)t,fn.params[j]?=some t->Tryz.pinned.checked.prog.wantsStandIn t=false:=by
 obtain rfl:f=3:=Option.some.inj ((show Tryz.prog.funcNamed "foresight/foresighttop.TopOwedOnce" =some 3 by kernel_rfl).symm.trans K) |>.symm;obtain rfl:fn=Tryz.f3:=(Option.some.inj (Tryz.func3.symm.trans E)).symm;refine⟨by kernel_rfl,fun j t P=>?_⟩;have s:(Tryz.f3.params.toList.all fun t=> !Tryz.prog.wantsStandIn t)=true:=by kernel_rfl
 have:=List.all_eq_true.1 s t (by simpa using Array.mem_of_getElem? P);exact Bool.not_eq_true' _ |>.mp this
theorem TopOwedOnce_proved:Rows.TopOwedOnceCardSaid:=
 Claim7.holds_tied_plain_at .later [] _ _ _ _ TopOwedOnce_said (fun _ h=>by cases h) Dv (fun _ h=>by cases h) topOwedOnce_row_tie rfl ⟨rfl,rfl⟩ Dv rfl TopOwedOnce_plain Dv
end
end Go.Proofs.YtohodbnnhlddpaaGreatDoor
