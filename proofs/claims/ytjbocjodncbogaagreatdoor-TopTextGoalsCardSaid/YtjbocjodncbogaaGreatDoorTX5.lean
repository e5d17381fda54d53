/- TopTextGoals, part 5 of 16: rules, lemmas, walks. Conditions: none. -/
import Derived.Test.YtjbocjodncbogaaGreatDoorTX4
namespace Go.Proofs.YtjbocjodncbogaaGreatDoor
open Go.RowKit
set_option linter.unusedVariables false
section
variable {mk:Prop}[MK mk]
theorem sees2_inv{s t:LU}{ts ts':List Tok}{b:Bool}(h:Run (sees2 s t) ts (.ok (b,ts'))):ts'=ts:=by
 cases h.det (DV s t ts);rfl
theorem lines_cnt:∀(n:Nat)(t o:List Tok)(l:List Rqm),t.length<=n->Run (body .lines) t (.ok (l,o))->l.length+o.length<=t.length:=by
 intro n
 induction n with
 |zero=>
  intro t o l I h;obtain⟨b,d,a,h⟩:=DM h;have e:=sees2_inv a;subst e;cases b with
  |true=>
   obtain⟨r,c,F,h⟩:=call_ok h;have:=line_less F;omega
  |false=>cases h.det (Run.ret _ _);simp
 |succ n ih=>
  intro t o l I h;obtain⟨b,d,a,h⟩:=DM h;have e:=sees2_inv a;subst e;cases b with
  |true=>
   obtain⟨r,c,F,h⟩:=call_ok h;obtain⟨m,f,i,h⟩:=call_ok h;have W:=line_less F;have R:=ih c f m U i;cases h.det (Run.ret _ _);simp;omega
  |false=>cases h.det (Run.ret _ _);simp
theorem part_cnt{t o:List Tok}{l:List Rqm}(h:Run (body .part) t (.ok (l,o))):l.length+o.length<t.length:=by
 obtain⟨_,a,e,h⟩:=DM h;obtain⟨_,b,F,h⟩:=DM h;obtain⟨_,c,i,h⟩:=DM h;obtain⟨m,Q,u,h⟩:=call_ok h;obtain⟨_,d,P,h⟩:=DM h;cases h.det (Run.ret _ _);have:=expect_inv e;have:=F.le;have:=i.le;have:=lines_cnt _ _ _ _ (Nat.le_refl _) u;have:=P.le;simp;omega
theorem parts_cnt:∀(n:Nat)(t o:List Tok)(l:List (List Rqm)),t.length<=n->Run (body .parts) t (.ok (l,o))->l.flatten.length+o.length<=t.length:=by
 intro n
 induction n with
 |zero=>
  intro t o l I h;obtain⟨b,d,a,h⟩:=DM h;have e:=sees2_inv a;subst e;cases b with
  |true=>
   obtain⟨r,c,F,h⟩:=call_ok h;have:=part_less F;omega
  |false=>cases h.det (Run.ret _ _);simp
 |succ n ih=>
  intro t o l I h;obtain⟨b,d,a,h⟩:=DM h;have e:=sees2_inv a;subst e;cases b with
  |true=>
   obtain⟨r,c,F,h⟩:=call_ok h;obtain⟨m,f,i,h⟩:=call_ok h;have W:=part_cnt F;have R:=ih c f m U i;cases h.det (Run.ret _ _);simp only[List.flatten_cons,List.length_append];omega
  |false=>cases h.det (Run.ret _ _);simp
theorem spec_ok(E:Env)(N:Nat):ItemR spcR aggV E N 29 (body .spec):=by
 intro w ts h hN;have c2:=h.st.slt;unfold PDo;refine Az Tryz.func29 rfl Tryz.ntmps29 nlr EO (go ?_);refine A3 (L:=[pt E.s]) rfl (fun e n1=>?_);refine AY (fun F P=>?_);have z1:=n1.size;have z2:=P.size;have x2:Blk F w.heap.size 68 [pt E.s]:=n1.D.E P.E O;have b2:Blk F e.heap.size 25 [.slice none 0 0,.slice none 0 0]:=P.D;have h2:=(h.ext n1.E).ext P.E;have k2:Keep [E.s] w F:=(n1.E.trans P.E).any;refine go ?_;refine Ag (whileSgn_ok E ts.length _ _ [] [pt w.heap.size] _ _ _ whileP_sig F ts (declared_ok E F _ x2 U) (signal_ok E _) h2 (Nat.le_refl _)) rfl ?_ ?_;rotate_left
 ·rintro ch wq⟨kq,lq,rq,rfl⟩;refine go ?_;exact Ab ⟨k2.trans kq O,lq,Run.callE rq,rfl⟩
 rintro sv z⟨I,l,t3,r3,q3,L,o3,F3⟩;have h3:=h2.next I q3
 have k13:=k2.trans I O;have z3:=I.size;have x3:=x2.E I ES;have b3:=b2.E I ES;have S3:=Aa (ok:=fun b=>F.heap.size<=b/\b<z.heap.size) o3 (fun g n=>by have:=An o3 n;omega);obtain⟨X,R,rfl,_⟩:=id S3;refine go ?_;refine A2 (cs:=[.slice X l.length R,.slice none 0 0]) rfl rfl EQ (by intro u H;simp at H;rcases H with rfl|rfl<;>rfl) (fun B r=>?_);have h4:=h3.ext r.E;have a7:=k13.ext r.E;have z4:=r.size;have x4:=x3.E r.E O;have b4:=b3.E r.E O;have e4:=r.D;have S4:=S3.ext r.E;have F4:=F3.ext r.E;refine go ?_;refine Ag (whileReqs_ok E t3.length _ _ [pt E.s] [] _ _ _ whileP_parts B t3 (opened_ok E B) (part_ok E _) h4 (Nat.le_refl _)) rfl ?_ ?_;rotate_left
 ·rintro ch wq⟨kq,lq,rq,rfl⟩;refine go ?_;exact Ab ⟨a7.trans kq O,lq,Run.call r3 (Run.callE rq),rfl⟩
 rintro pv f⟨A,m,t5,r5,q5,M,o5,F5⟩;have h5:=h4.next A q5
 have k15:=a7.trans A O;have z5:=A.size;have b5:=b4.E A ES;have e5:=e4.E A ES;have S5:=S4.E A (fun b S=>by simp;omega);have P5:=Aa (ok:=fun b=>B.heap.size<=b/\b<f.heap.size) o5 (fun g n=>An o5 n);have a8:RsAt reqsR (fun b=>B.heap.size<=b/\b<f.heap.size) f M m:=F5.lt.mono fun b S=>⟨S.1.1,S.2⟩;obtain⟨pa,pc,rfl,_⟩:=id P5;have c3:=h.st.cnt;have hc3:=(show t3<:+ts from Run.suffix r3).length_le;have b9:=parts_cnt _ _ _ _ (Nat.le_refl _) r5
 have c1:m.length<=9223372036854775807:=by
  obtain⟨_,_,hv,g1,g2,_⟩:=id P5;cases hv;omega
 refine go ?_
 refine Ar (α:=Nat×Value×List (LV)) (fun x=>[(2,pt e.heap.size),(4,pt z.heap.size),(17,.slice pa m.length pc),(18,iV (m.length:Int)),(19,iV (x.1:Int))])
  (fun x W=>x.1<=m.length/\Keep [E.s] w W/\PSt W E t5/\f.heap.size<=W.heap.size/\Blk W e.heap.size 25 [.slice none 0 0,.slice none 0 0]/\Blk W z.heap.size 25 [.slice X l.length R,x.2.1]/\
   Sl (fun b=>F.heap.size<=b/\b<z.heap.size) W (.slice X l.length R) l.length L.flatten/\Sl (fun b=>B.heap.size<=b/\b<f.heap.size) W (.slice pa m.length pc) m.length M.flatten/\RsAt reqsR (fun b=>B.heap.size<=b/\b<f.heap.size) W M m/\
   W.ownsRow f.heap.size 57 8 x.2.1 (m.take x.1).flatten.length x.2.2.flatten/\RsAt reqR (fun b=>B.heap.size<=b/\b<f.heap.size) W x.2.2 (m.take x.1).flatten) (fun x=>m.length-x.1) (0,.slice none 0 0,[]) ⟨rfl,rfl,rfl,rfl,rfl,trivial⟩
  ⟨by simp,k15,q5,Nat.le_refl _,b5,e5,S5,P5,a8,⟨by simp,.inl ⟨rfl,rfl⟩⟩,RsAt.nil⟩ ?_
 rintro⟨k,rv,Q⟩w6 f6⟨hk,k6,q6,z6,b6,e6,S6,P6,Z,q,G6⟩;simp only at hk q G6 e6⊢;refine go ?_;have hb1:e.heap.size<z.heap.size:=by omega
 by_cases a0:k<m.length
 ·obtain⟨c,hc⟩:∃c,M[k]?=some c:=⟨_,List.getElem?_eq_getElem (by rw[Z.1];exact a0)⟩;obtain⟨p,a6⟩:∃p,m[k]?=some p:=⟨_,List.getElem?_eq_getElem a0⟩;obtain⟨pv,rfl,va,vc,V,rfl,SV,FV⟩:=Z.2 k c p hc a6
  obtain⟨b,o,rfl,S,b8⟩:∃b o,pa=some ⟨b,o,none⟩/\(B.heap.size<=b/\b<f.heap.size)/\w6.cell? ⟨b,o+k,none⟩=some (.slice va p.length vc):=by
   obtain⟨a',a4,hv,g1,g2,g3,g4⟩:=id P6;cases hv;obtain⟨b,o,rfl,S,hcc⟩:=g4.resolve_left U;refine⟨b,o,rfl,S,hcc k _ ?_⟩;have:=CR 1 M k 0 _ _ Z.len hc rfl;simpa using this
  have a5:m.take (k+1)=m.take k++[p]:=by rw[List.take_add_one,a6];rfl
  have c0:(m.take (k+1)).flatten.length<=m.flatten.length:=by
   have e1:=congrArg (fun x=>x.flatten.length) (List.take_append_drop (k+1) m);simp only[List.flatten_append,List.length_append]at e1;omega
  have b1:(m.take (k+1)).flatten.length=(m.take k).flatten.length+p.length:=by rw[a5];simp
  obtain⟨T,y,rfl⟩:∃T y,rv=.slice T (m.take k).flatten.length y:=by
   rcases q.2 with⟨rfl,h0⟩|⟨g,a4,b0,rfl,_⟩
   ·exact⟨none,0,by rw[h0]⟩
   ·exact Gq
  have a1:∀x∈(Value.slice T (m.take k).flatten.length y).ownBlock.toList,f.heap.size<=x:=fun x d=>(An q (Option.mem_toList.1 d)).1;refine go ?_;refine Ax (v:=.slice T (m.take k).flatten.length y) (sv:=.slice va p.length vc) rfl rfl q SV U rfl FV.flat FV.oneC U U U (fun v7 w7 j=>?_);have o7:=j.own;have z7:=j.E.size;have K:∀b,b<f.heap.size->b∉(Value.slice T (m.take k).flatten.length y).ownBlock.toList:=fun b S d=>by have:=a1 b d;omega
  have e7:=e6.E j.E (K _ U);have b7:=b6.E j.E (K _ U);have S7:=S6.E j.E (fun b S=>K b U);have P7:=P6.E j.E (fun b S=>K b S.2);have F7:=Z.E j.E (fun b S=>K b S.2);have G7:=(G6.app FV).E j.E (fun b S=>K b S.2);have k7:=k6.trans j.E (fun x d a0=>by have:=a1 x d;omega);have q7:=q6.E j.E (fun x d=>by have:=a1 x d;omega)
  obtain⟨a2,a3,rfl⟩:∃a2 a3,v7=.slice a2 ((m.take k).flatten.length+p.length) a3:=by
   rcases o7.2 with⟨rfl,h0⟩|⟨g,a4,b0,rfl,_⟩
   ·exact⟨none,0,by rw[h0]⟩
   ·exact Gq
  refine go ?_;refine AU rfl rfl rfl e7 O (fun w8 t=>?_);have z8:=t.size;have G:∀b,b≠z.heap.size->b∉[z.heap.size]:=fun b S d=>S (by simpa using d);refine go ?_;refine⟨(k+1,.slice a2 ((m.take k).flatten.length+p.length) a3,Q++V),⟨rfl,⟨rfl,rfl,rfl,rfl,?_,trivial⟩,⟨by simp only;omega,k7.trans t.E ES,q7.E t.E ES,by omega,b7.E t.E (G _ U),t.D,S7.E t.E (fun b S=>G _ U),P7.E t.E (fun b S=>G _ U),F7.E t.E (fun b S=>G _ U),?_,?_⟩⟩,by simp only;omega⟩
  ·show iV ((k:Int)+1)=_;rw[Int.natCast_add];rfl
  ·have:=Ai o7 t.E (fun g n=>G g (by have:=An o7 n;omega));simp only[b1,List.flatten_append];exact this
  ·simp only[a5,List.flatten_append];have:=G7.E t.E (fun b S=>G _ U);simpa using this
 ·obtain rfl:k=m.length:=by omega
  rw[List.take_length]at q G6;refine go ?_;have hr6:=Aa (ok:=fresh w) q (fun g n=>by have:=An q n;simp only[fresh];omega);obtain⟨T,y,rfl,_⟩:=id hr6;refine go ?_;refine AI (cs:=[.slice X l.length R,.slice T m.flatten.length y]) rfl rfl rfl (by intro u H;simp at H;rcases H with rfl|rfl<;>rfl) b6 O (fun w7 D=>?_);refine go ?_;have b7:Blk w7 e.heap.size 25 [.slice X l.length R,.slice T m.flatten.length y]:=D.D;have C:∀b,b≠e.heap.size->b∉[e.heap.size]:=fun b S d=>S (by simpa using d);have a9:RsAt sgnR (fun b=>b≠e.heap.size/\fresh w b) w6 L l:=⟨F4.1,fun i c a hc ha=>F4.2 i c a hc ha⟩;have R7:=Aa (ok:=fun b=>b≠e.heap.size/\fresh w b) q (fun g n=>by have:=An q n;simp only[fresh];omega);refine AW rfl rfl rfl b7.cells ⟨k6.trans D.E ES,⟨l,m.flatten⟩,t5,Run.call r3 (Run.call r5 (Run.ret _ _)),q6.E D.E ES,_,rfl,_,_,rfl,⟨_,_,L,rfl,?_,?_⟩,⟨_,_,Q,rfl,?_,?_⟩⟩
  ·exact(S6.mono (ok':=fun b=>b≠e.heap.size/\fresh w b) (fun b S=>by simp only[fresh];omega)).E D.E (fun b S=>C b S.1) |>.mono fun b S=>S.2
  ·exact(a9.E D.E (fun b S=>C b S.1)).mono fun b S=>S.2
  ·exact(R7.E D.E (fun b S=>C b S.1)).mono fun b S=>S.2
  ·exact((G6.mono (ok':=fun b=>b≠e.heap.size/\fresh w b) (fun b S=>by simp only[fresh];omega)).E D.E (fun b S=>C b S.1)).mono fun b S=>S.2
theorem infixes_ok(w:World):Fn Zp 75 [] w fun v w'=>∃m,v=.map (some m)/\w.heap.size<=m/\Ext w w'/\SMap w' m (tabV infixT):=by
 refine AN Tryz.func75 rfl Tryz.ntmps75 (go ?_);refine W_makeMapS (fun Q Z g n=>go ?_);refine Cr (x:=[85]) (y:=oprV ⟨9,0,0⟩) rfl rfl rfl n rfl (fun N e R j=>go ?_);refine Cr (x:=[82]) (y:=oprV ⟨10,0,0⟩) rfl rfl rfl j rfl (fun b i h z=>go ?_);refine Cr (x:=[83]) (y:=oprV ⟨16,16,0⟩) rfl rfl rfl z rfl (fun d c k t=>go ?_);refine Cr (x:=[84]) (y:=oprV ⟨17,17,1⟩) rfl rfl rfl t rfl (fun f A l a=>go ?_);exact AC rfl ⟨w.heap.size,rfl,Nat.le_refl _,(((Z.E e O).E i O).E c O).E A O,a⟩
theorem prefixes_ok(w:World):Fn Zp 74 [] w fun v w'=>∃m,v=.map (some m)/\w.heap.size<=m/\Ext w w'/\SMap w' m (tabV prefixT):=by
 refine AN Tryz.func74 rfl Tryz.ntmps74 (go ?_);refine W_makeMapS (fun Q Z B n=>go ?_);refine Cr (x:=[33]) (y:=oprV ⟨4,0,0⟩) rfl rfl rfl n rfl (fun N e R j=>go ?_);refine Cr (x:=[88]) (y:=oprV ⟨8,0,0⟩) rfl rfl rfl j rfl (fun k i C z=>go ?_);refine Cr (x:=[89]) (y:=oprV ⟨15,0,0⟩) rfl rfl rfl z rfl (fun p h D t=>go ?_);refine Cr (x:=[90]) (y:=oprV ⟨15,0,1⟩) rfl rfl rfl t rfl (fun f A E a=>go ?_);refine Cr (x:=[79]) (y:=oprV ⟨18,0,0⟩) rfl rfl rfl a rfl (fun r o q c=>go ?_);refine Cr (x:=[72]) (y:=oprV ⟨19,0,0⟩) rfl rfl rfl c rfl (fun P L H S=>go ?_);refine Cr (x:=[70]) (y:=oprV ⟨11,13,0⟩) rfl rfl rfl S rfl (fun s g l b=>go ?_);refine Cr (x:=[71]) (y:=oprV ⟨12,14,0⟩) rfl rfl rfl b rfl (fun u V T d=>go ?_);exact AC rfl ⟨w.heap.size,rfl,Nat.le_refl _,(((((((Z.E e O).E i O).E h O).E A O).E o O).E L O).E g O).E V O,d⟩
theorem takeWhile_all{p:UInt8->Bool}:∀{l:LU},(l.takeWhile p).length=l.length->∀c∈l,p c=true
 | [],_,c,T=>by cases T
 |x::l,h,c,T=>by
  rw[List.takeWhile_cons]at h;cases hp:p x with
  |false=>rw[hp]at h;simp at h
  |true=>
   rw[hp]at h;simp at h;rcases List.mem_cons.1 T with rfl|T
   ·exact hp
   ·exact takeWhile_all h c T
theorem Alone.wf{k:Int}{y:LU}(h:Alone k y):k=2->1<=y.length/\y.length<=4/\∀c∈y,Au c=true:=by
 rintro rfl;obtain⟨Z,W,R⟩:=h;refine⟨Z,?_⟩;unfold BU at R
 split at R
 ·simp[blankM]at R
 ·simp[commM]at R
 ·unfold EN at R
  split at R
  ·cases R
  ·have:=(addM_le R).1;simp at this
 ·unfold EI at R
  split at R
  ·cases R
  ·rename_i hb;have e:=DG R;have C:((y.takeWhile Au).length)=y.length:=by simpa[Ao]using e.symm
   refine⟨?_,takeWhile_all C⟩;have A:BM y 0=false:=by simpa using hb
   unfold BM at A;rw[<-e]at A;simp at A;omega
 ·unfold symM at R
  split at R
  ·have:=(addM_le R).1;simp at this
  ·cases R
 ·cases R
theorem Reach1.cap{t:LU}{a b:Nat}{ts P:List Tok}(h:Reach1 t a ts b P)(T:ts.length<=2000):P.length<=2000:=by
 induction h with
 |refl=>exact T
 |step h hs hr ih=>
  rename_i a a1 b ts ts1 P;refine ih ?_;rcases step_shape hs with rfl|⟨k,rfl⟩
  ·exact T
  ·have:ts.length≠2000:=by
    intro e;unfold BU at hs
    split at hs
    ·simp[blankM]at hs
    ·simp[commM]at hs
    ·unfold EN at hs
     split at hs
     ·cases hs
     ·exact(addM_le hs).2 e
    ·unfold EI at hs
     split at hs
     ·cases hs
     ·exact(addM_le hs).2 e
    ·unfold symM at hs
     split at hs
     ·exact(addM_le hs).2 e
     ·cases hs
    ·cases hs
   simp;omega
theorem lexM_toks{t:LU}{ts:List Tok}(h:EE t=.ok ts):t.length<=6000/\ts.length<=2000/\∀x∈ts,TokWf x:=by
 obtain⟨K,G⟩:=lexM_ok h;exact⟨K,G.cap O,fun x V=>((G.alone (Nat.le_refl _) (fun x V=>by cases V)) x V).wf⟩
theorem recRet_F(w:World)(Q S B:Nat):CallsDIn Fence.wide 0 Zp 108 ([]++[pt Q,pt S,pt B]:LV).toArray .returning w (fun e a w'=>match e with| .returned _=>a=.returning/\Ext w w'|_=>False):=by
 refine Dr (u1:=.returning) (v0:=.nilIface) (G:=fun _ w'=>Ext w w') (args:=[pt Q,pt S,pt B]) Tryz.func108 rfl Tryz.ntmps108 O ET EO EO (.inl ⟨rfl,rfl,rfl⟩) ?_;exact GG
theorem recPan_F(w:World)(Q S B:Nat)(d:LV)(s C:Value)(e q:Int)(M:Blk w Q 37 d)(g:d.length=([iV 0,AL [],iV 0,iV 0,.slice none 0 0]:LV).length)(L:Blk w S 28 [s])(R:Blk w B 3 [C])(V:Q≠S)(T:Q≠B)(m:S≠B):
  CallsDIn Fence.wide 0 Zp 108 ([]++[pt Q,pt S,pt B]:LV).toArray (.panicking [{v:=.iface 121 (.agg #[iV e,iV q]),recovered:=false}]) w
   (fun n x w'=>match n with| .returned _=>x=.panicking [{v:=.iface 121 (.agg #[.int .i64 e,.int .i64 q]),recovered:=true}]/\(Keep [Q,S,B] w w'/\Blk w' Q 37 [.int .i64 0,AL [],.int .i64 0,.int .i64 0,.slice none 0 0]/\Blk w' S 28 [.int .i64 e]/\Blk w' B 3 [.int .i64 q])|_=>False):=by
 have K:=M.lt;have F:=L.lt;have I:=R.lt
 refine Dr (u1:=.panicking [{v:=.iface 121 (.agg #[iV e,iV q]),recovered:=true}]) (v0:=.iface 121 (.agg #[iV e,iV q]))
  (G:=fun _ w'=>Keep [Q,S,B] w w'/\Blk w' Q 37 [iV 0,AL [],iV 0,iV 0,.slice none 0 0]/\Blk w' S 28 [iV e]/\Blk w' B 3 [iV q]) (args:=[pt Q,pt S,pt B]) Tryz.func108 rfl Tryz.ntmps108 O ET EO EO (.inr ⟨_,rfl,rfl,rfl⟩) ?_
 refine W_assert_yes rfl ?_;refine M_tuple rfl (DU rfl rfl (DU rfl rfl ?_));refine A2 (cs:=[iV e,iV q]) rfl rfl EQ (AV rfl) (fun N c=>?_);have j:=c.D;have P:=c.size;refine go ?_;refine AY (fun l r=>?_);have X:=r.size;have z:Blk l N.heap.size 37 [iV 0,AL [],iV 0,iV 0,.slice none 0 0]:=r.D;replace j:=j.E r.E O;have i:Ext w l:=c.E.trans r.E;replace M:=M.E i O;replace L:=L.E i O;replace R:=R.E i O;refine go ?_;refine Ac (rd 0 5 (.alt 5 (.alt 6 (.alt 7 .done .stop) .stop) .stop)) Ap EO (fun A b H=>⟨fun W=>W.cell? ⟨w.heap.size,0,none⟩=some (iV e)/\W.cell? ⟨w.heap.size,1,none⟩=some (iV q)/\Cells W N.heap.size 0 [iV 0,AL [],iV 0,iV 0,.slice none 0 0],?_,?_⟩)
 ·exact⟨(j.E b O).cell rfl,(j.E b O).cell rfl,(z.E b O).cells⟩
 have t:∀W:World,(W.cell? ⟨w.heap.size,0,none⟩=some (iV e)/\W.cell? ⟨w.heap.size,1,none⟩=some (iV q)/\Cells W N.heap.size 0 [iV 0,AL [],iV 0,iV 0,.slice none 0 0])->W.cell? ⟨w.heap.size,0,none⟩=some (iV e):=fun W h=>h.1;have y:∀W:World,(W.cell? ⟨w.heap.size,0,none⟩=some (iV e)/\W.cell? ⟨w.heap.size,1,none⟩=some (iV q)/\Cells W N.heap.size 0 [iV 0,AL [],iV 0,iV 0,.slice none 0 0])->W.cell? ⟨w.heap.size,1,none⟩=some (iV q):=fun W h=>h.2.1;have u:∀W:World,(W.cell? ⟨w.heap.size,0,none⟩=some (iV e)/\W.cell? ⟨w.heap.size,1,none⟩=some (iV q)/\Cells W N.heap.size 0 [iV 0,AL [],iV 0,iV 0,.slice none 0 0])->Cells W N.heap.size 0 [iV 0,AL [],iV 0,iV 0,.slice none 0 0]:=fun W h=>h.2.2;replace j:=j.E b O;replace z:=z.E b O;replace M:=M.E b O;replace L:=L.E b O;replace R:=R.E b O;have k:Keep [Q,S,B] w A:=(i.trans b).any;((apply D_R rfl rfl;(intro W o;refine AQ rfl EQ (u W o) ?_;exact AA ⟨rfl,rfl,rfl⟩))<;>(refine D_R rfl rfl (fun W o=>AB rfl dz) ?_)<;>(refine D_R rfl rfl (fun W o=>AH rfl (t W o) dz) ?_)<;>(refine D_R rfl rfl (fun W o=>AB rfl dz) ?_)<;>(refine D_R rfl rfl (fun W o=>AH rfl (y W o) dz) ?_))
 refine D_E rfl ?_;refine AI (cs:=[iV 0,AL [],iV 0,iV 0,.slice none 0 0]) rfl rfl rfl (AV rfl) M (by rw[g];simp) (fun W p=>?_);have f:=p.D;rw[BY d [iV 0,AL [],iV 0,iV 0,.slice none 0 0] (by rw[g])]at f;replace L:=L.E p.E EP;replace R:=R.E p.E EP;replace j:=j.E p.E EP;replace z:=z.E p.E EP;replace k:=k.trans p.E O;clear M p;have M:=f;refine wNl (⟨j.cell rfl,j.cell rfl,z.cells⟩) ?_;refine D_E rfl ?_;refine AU rfl rfl rfl L O (fun D p=>?_);exact FM
theorem recRet_S(w:World)(Q S B:Nat):CallsDIn Fence.wide 0 Zp 73 ([]++[pt Q,pt S,pt B]:LV).toArray .returning w (fun e a w'=>match e with| .returned _=>a=.returning/\Ext w w'|_=>False):=by
 refine Dr (u1:=.returning) (v0:=.nilIface) (G:=fun _ w'=>Ext w w') (args:=[pt Q,pt S,pt B]) Tryz.func73 rfl Tryz.ntmps73 O ET EO EO (.inl ⟨rfl,rfl,rfl⟩) ?_;exact GG
theorem recPan_S(w:World)(Q S B:Nat)(d:LV)(s C:Value)(e q:Int)(M:Blk w Q 25 d)(g:d.length=([.slice none 0 0,.slice none 0 0]:LV).length)(L:Blk w S 28 [s])(R:Blk w B 3 [C])(V:Q≠S)(T:Q≠B)(m:S≠B):
  CallsDIn Fence.wide 0 Zp 73 ([]++[pt Q,pt S,pt B]:LV).toArray (.panicking [{v:=.iface 121 (.agg #[iV e,iV q]),recovered:=false}]) w
   (fun n x w'=>match n with| .returned _=>x=.panicking [{v:=.iface 121 (.agg #[.int .i64 e,.int .i64 q]),recovered:=true}]/\(Keep [Q,S,B] w w'/\Blk w' Q 25 [.slice none 0 0,.slice none 0 0]/\Blk w' S 28 [.int .i64 e]/\Blk w' B 3 [.int .i64 q])|_=>False):=by
 have K:=M.lt;have F:=L.lt;have I:=R.lt
 refine Dr (u1:=.panicking [{v:=.iface 121 (.agg #[iV e,iV q]),recovered:=true}]) (v0:=.iface 121 (.agg #[iV e,iV q]))
  (G:=fun _ w'=>Keep [Q,S,B] w w'/\Blk w' Q 25 [.slice none 0 0,.slice none 0 0]/\Blk w' S 28 [iV e]/\Blk w' B 3 [iV q]) (args:=[pt Q,pt S,pt B]) Tryz.func73 rfl Tryz.ntmps73 O ET EO EO (.inr ⟨_,rfl,rfl,rfl⟩) ?_
 refine W_assert_yes rfl ?_;refine M_tuple rfl (DU rfl rfl (DU rfl rfl ?_));refine A2 (cs:=[iV e,iV q]) rfl rfl EQ (AV rfl) (fun N c=>?_);have j:=c.D;have P:=c.size;refine go ?_;refine AY (fun l r=>?_);have X:=r.size;have z:Blk l N.heap.size 25 [.slice none 0 0,.slice none 0 0]:=r.D;replace j:=j.E r.E O;have i:Ext w l:=c.E.trans r.E;replace M:=M.E i O;replace L:=L.E i O;replace R:=R.E i O;refine go ?_;refine Ac (rd 0 5 (.alt 5 (.alt 6 (.alt 7 .done .stop) .stop) .stop)) Ap EO (fun A b H=>⟨fun W=>W.cell? ⟨w.heap.size,0,none⟩=some (iV e)/\W.cell? ⟨w.heap.size,1,none⟩=some (iV q)/\Cells W N.heap.size 0 [.slice none 0 0,.slice none 0 0],?_,?_⟩)
 ·exact⟨(j.E b O).cell rfl,(j.E b O).cell rfl,(z.E b O).cells⟩
 have t:∀W:World,(W.cell? ⟨w.heap.size,0,none⟩=some (iV e)/\W.cell? ⟨w.heap.size,1,none⟩=some (iV q)/\Cells W N.heap.size 0 [.slice none 0 0,.slice none 0 0])->W.cell? ⟨w.heap.size,0,none⟩=some (iV e):=fun W h=>h.1;have y:∀W:World,(W.cell? ⟨w.heap.size,0,none⟩=some (iV e)/\W.cell? ⟨w.heap.size,1,none⟩=some (iV q)/\Cells W N.heap.size 0 [.slice none 0 0,.slice none 0 0])->W.cell? ⟨w.heap.size,1,none⟩=some (iV q):=fun W h=>h.2.1;have u:∀W:World,(W.cell? ⟨w.heap.size,0,none⟩=some (iV e)/\W.cell? ⟨w.heap.size,1,none⟩=some (iV q)/\Cells W N.heap.size 0 [.slice none 0 0,.slice none 0 0])->Cells W N.heap.size 0 [.slice none 0 0,.slice none 0 0]:=fun W h=>h.2.2;replace j:=j.E b O;replace z:=z.E b O;replace M:=M.E b O;replace L:=L.E b O;replace R:=R.E b O;have k:Keep [Q,S,B] w A:=(i.trans b).any;((apply D_R rfl rfl;(intro W o;refine AQ rfl EQ (u W o) ?_;exact AA ⟨rfl,rfl,rfl⟩))<;>(refine D_R rfl rfl (fun W o=>AB rfl dz) ?_)<;>(refine D_R rfl rfl (fun W o=>AH rfl (t W o) dz) ?_)<;>(refine D_R rfl rfl (fun W o=>AB rfl dz) ?_)<;>(refine D_R rfl rfl (fun W o=>AH rfl (y W o) dz) ?_))
 refine D_E rfl ?_;refine AI (cs:=[.slice none 0 0,.slice none 0 0]) rfl rfl rfl (AV rfl) M (by rw[g];simp) (fun W p=>?_);have f:=p.D;rw[BY d [.slice none 0 0,.slice none 0 0] (by rw[g])]at f;replace L:=L.E p.E EP;replace R:=R.E p.E EP;replace j:=j.E p.E EP;replace z:=z.E p.E EP;replace k:=k.trans p.E O;clear M p;have M:=f;refine wNl (⟨j.cell rfl,j.cell rfl,z.cells⟩) ?_;refine D_E rfl ?_;refine AU rfl rfl rfl L O (fun D p=>?_);exact FM
def errOf{α:Type}(n:Nat):Ans α->Except (Int×Nat) α
 | .ok y=>.ok y.1
 | .error []=>.error (51,n)
 | .error (x::_)=>.error (50,x.loc)
def PRes(nt:NT)(t:LU)(r:Except (Int×Nat) nt.T):Prop:=
 match EE t with
 | .error e=>r=.error e
 | .ok ts=>∃a:Ans nt.T,Run (whole nt) ts a/\r=errOf t.length a
theorem PRes.det{nt:NT}{t:LU}{r s:Except (Int×Nat) nt.T}(h:PRes nt t r)(c:PRes nt t s):r=s:=by
 unfold PRes at h c;cases hm:EE t with
 |error e=>rw[hm]at h c;rw[h,c]
 |ok ts=>
  rw[hm]at h c;obtain⟨a,Z,rfl⟩:=h;obtain⟨b,W,rfl⟩:=c;rw[Z.det W]
def RunAns{α:Type}(R:Rp α)(b:LV->Value)(zero:LV)(P:Except (Int×Nat) α->Prop)(w w':World)(v:Value):Prop:=
 ∃c e q,v=.tuple #[b c,iV e,iV q]/\Ext w w'/\((∃a,P (.ok a)/\e=0/\q= -1/\R.fits (fresh w) w' c a)\/∃p:Nat,P (.error (e,p))/\e≠0/\q=(p:Int)/\c=zero)
theorem errV_ne{α:Type}(n:Nat)(l:List Tok):∃e p,errV n l=failP e p/\(errOf n (.error l:Ans α))=.error (e,p)/\e≠0:=by
 cases l with
 |nil=>exact⟨51,n,rfl,rfl,by decide⟩
 |cons x l=>exact⟨50,x.loc,rfl,rfl,by decide⟩
theorem lexF(w:World)(t:LU)(X:GV w):Fn Zp 72 [AL t] w fun v w'=>∃a c e q ts,v=.tuple #[.slice a ts.length c,iV e,iV q]/\Ext w w'/\Sl (fun b=>w.heap.size<=b/\b<w'.heap.size) w' (.slice a ts.length c) ts.length (Dk ts)/\
  ((EE t=.ok ts/\e=0/\q= -1)\/∃p:Nat,EE t=.error (e,p)/\e≠0/\q=(p:Int)/\ts=[]):=by
 refine(lex_ok w t X).mono ?_;rintro v w'⟨tv,e,q,rfl,k,h⟩;unfold LexAns at h;cases hm:EE t with
 |ok ts=>
  rw[hm]at h;obtain⟨rfl,rfl,d⟩:=h;have F:=Aa (ok:=fun b=>w.heap.size<=b/\b<w'.heap.size) d fun g f=>An d f;obtain⟨a,c,rfl,G⟩:=id F;exact⟨a,c,0, -1,ts,rfl,k,F,.inl ⟨rfl,rfl,rfl⟩⟩
 |error r=>
  obtain⟨n,p⟩:=r;rw[hm]at h;obtain⟨rfl,rfl,rfl⟩:=h;exact⟨none,0,e,p,[],rfl,k,⟨_,_,rfl,by simp,by omega,fun _=>rfl,.inl rfl⟩,.inr ⟨p,rfl,lexM_err hm,rfl,rfl⟩⟩
theorem res_cellA{P:Program}{f:Fr}{w:World}{T n b t:Nat}{L:LV}{l:List ResultVar}{k:LV->Prop}[hT:AggT P T n](D:f t=.pointer (sm b))(K:L.length=n)(a:Cells w b 0 L)(h:Da P l f w fun r=>k (.agg L.toArray::r)):Da P (.cell t T::l) f w k:=
 ⟨_,_,D,D9 hT K a,h⟩
theorem run_F(w:World)(t:LU)(hG:GK w)(hI:∀E N,ItemR fmlR aggV E N 46 (body .formula)):Fn Zp 45 [AL t,.func (.func 46) #[] #[]] w (fun v w'=>RunAns fmlR aggV [iV 0,AL [],iV 0,iV 0,.slice none 0 0] (PRes .formula t) w w' v):=by
 have e9:=hG.gv.size;refine DC Tryz.func45 rfl Tryz.ntmps45 nlr EO (go ?_);refine AY (fun Q n1=>?_);refine AY (fun d n2=>?_);refine AY (fun z n3=>?_);have z1:=n1.size;have z2:=n2.size;have z3:=n3.size;have b1:Blk z w.heap.size 37 [iV 0,AL [],iV 0,iV 0,.slice none 0 0]:=(n1.D.E n2.E O).E n3.E O;have b2:Blk z Q.heap.size 28 [iV 0]:=n2.D.E n3.E O;have b3:Blk z d.heap.size 3 [iV 0]:=n3.D;have k3:Ext w z:=(n1.E.trans n2.E).trans n3.E;refine go ?_;refine AF (lexF z t (hG.gv.ext k3)) rfl ?_;rintro v w4⟨ta,tc,e,q,u,rfl,k4,hT,s⟩;have z4:=k4.size;have c1:=b1.E k4 O;have c2:=b2.E k4 O;have c3:=b3.E k4 O;refine go ?_;refine AU rfl rfl rfl c2 O (fun w5 A=>?_);refine AU rfl rfl rfl (c3.E A.E EP) O (fun w6 n=>?_);have z5:=A.size;have z6:=n.size;have K:Blk w6 w.heap.size 37 [iV 0,AL [],iV 0,iV 0,.slice none 0 0]:=(c1.E A.E EP).E n.E EP;have P:Blk w6 Q.heap.size 28 [iV e]:=A.D.E n.E EP;have X:Blk w6 d.heap.size 3 [iV q]:=n.D;have k6:Ext w w6:=((k3.trans k4).E A.E EP).E n.E EP;refine go ?_;rcases s with⟨s,rfl,rfl⟩|⟨p,s,he,rfl,rfl⟩
 ·obtain⟨ht6,d9,e0⟩:=lexM_toks s;refine go ?_;refine W_defer (v1:=[]) (v2:=[pt w.heap.size,pt Q.heap.size,pt d.heap.size]) (vs:=[]) rfl rfl (go ?_);refine AF (prefixes_ok w6) rfl ?_;rintro v w7⟨B,rfl,hmp,F,b7⟩;refine AF (infixes_ok w7) rfl ?_;rintro v m⟨D,rfl,f0,g,b4⟩;have hpl:=b7.lt;have d2:=b4.lt;have g0:=F.size;have zk8:=g.size;refine go ?_;refine A3 (L:=[.slice ta u.length tc,iV (t.length:Int),.map (some B),.map (some D)]) rfl (fun I i=>?_);have z9:=i.size;have k9:Ext w I:=((k6.trans F).trans g).trans i.E;refine go ?_;have c6:=((((hT.E A.E (fun b S=>by simp;omega)).E n.E (fun b S=>by simp;omega)).ext F).ext g).ext i.E;have f1:=(((K.E F O).E g O).E i.E O);have f2:=(((P.E F O).E g O).E i.E O);have f3:=(((X.E F O).E g O).E i.E O);have hP:PSt I ⟨z.heap.size,m.heap.size,t.length,B,D⟩ u:=⟨⟨ta,tc,i.D,c6.mono fun b S=>by have:=S.1;have:=S.2;exact⟨by show z.heap.size<=b;omega,by show b<m.heap.size;omega⟩⟩,(b7.E g O).E i.E O,b4.E i.E O,⟨by show B<m.heap.size;omega,d2⟩,e0,d9⟩;have o:PW I ⟨z.heap.size,m.heap.size,t.length,B,D⟩ u:=⟨hP,hG.ext k9,by show 10<=m.heap.size;omega⟩;have b6:∀{r:Ans (NT.T .formula)},Run (whole .formula) u r->PRes .formula t (errOf t.length r):=fun{r}hr=>by unfold PRes;rw[s];exact⟨r,hr,rfl⟩
  have b5:∀(f:Fr)(k:World)(l:List Tok),Run (whole .formula) u (.error l)->Keep [m.heap.size,w.heap.size] I k->(∃L1,Blk k w.heap.size 37 L1/\L1.length=5)->f 4=pt w.heap.size->f 5=pt Q.heap.size->f 6=pt d.heap.size->
    DZ Zp Tryz.f45 (fun v w'=>RunAns fmlR aggV [iV 0,AL [],iV 0,iV 0,.slice none 0 0] (PRes .formula t) w w' v) (fun _ _=>False) (.panic (errV t.length l)) f [{target:=.fn (.func 108) #[pt w.heap.size,pt Q.heap.size,pt d.heap.size],args:=#[]}] k:=by
   rintro f k l hr hk⟨L1,g1,c5⟩e4 e5 e6;obtain⟨e,p,d0,d1,c9⟩:=errV_ne (α:=NT.T .formula) t.length l;rw[d0];refine finD_pan_def (a:=[]) (c:=[pt w.heap.size,pt Q.heap.size,pt d.heap.size]) (recPan_F k _ _ _ L1 _ _ e (p:Int) g1 c5 (f2.E hk EP) (f3.E hk EP) U U U) fun w11 c4=>?_;obtain⟨e1,Z,a4,a5⟩:=c4;refine res_cellA e4 rfl Z.cells (A7 e5 (a4.cell rfl) (A7 e6 (a5.cell rfl) ?_));have hp:=b6 hr;rw[d1]at hp;exact⟨[iV 0,AL [],iV 0,iV 0,.slice none 0 0],e,p,rfl,(k9.E hk EP).E e1 EP,.inr ⟨p,hp,c9,rfl,rfl⟩⟩
  refine go ?_;refine Cs (v1:=[]) (v2:=[]) (vs:=[pt m.heap.size]) rfl (hI ⟨z.heap.size,m.heap.size,t.length,B,D⟩ u.length I u o (Nat.le_refl _)) rfl ?_ ?_;rotate_left
  ·exact Ge
  rintro v k⟨j,a,e7,r10,e3,c,rfl,fit⟩;have C:c.length=5:=Rp.len fmlR fit;have hco:=Rp.one fmlR fit;have g1:=f1.E j EP;have g2:=f2.E j EP;have g3:=f3.E j EP;have f6:=j.size;refine AI (cs:=c) rfl rfl C hco g1 O (fun w11 y=>?_)
  have Z:Blk w11 w.heap.size 37 c:=by
   have:=y.D;rw[BY [iV 0,AL [],iV 0,iV 0,.slice none 0 0] c (by rw[C];rfl)]at this;exact this
  have a4:=g2.E y.E EP;have a5:=g3.E y.E EP;have fit':=Rp.E fmlR fit y.E (fun b S=>by simp[fresh]at S⊢;omega);have b8:Keep [m.heap.size,w.heap.size] I w11:=(j.mono O).trans (y.E.mono (Y:=[m.heap.size,w.heap.size]) O) O;have f7:=y.size;have hE:w.heap.size<m.heap.size:=by omega
  obtain⟨⟨ta',tc',c7,d8⟩,d3,d4,d5,d6,d7⟩:=id e3;have c8:=c7.E y.E EP;refine go ?_;cases e7 with
  |cons x l=>
   have hl:(x::l).length=l.length+1:=rfl;refine go ?_;have q11:PSt w11 ⟨z.heap.size,m.heap.size,t.length,B,D⟩ (x::l):=⟨⟨ta',tc',c8,d8.E y.E (fun b S=>by have:z.heap.size<=b:=S.1;simp;omega)⟩,d3.E y.E EP,d4.E y.E EP,d5,d6,d7⟩;refine Ag (wrong_ok ⟨z.heap.size,m.heap.size,t.length,B,D⟩ w11 (x::l) q11) rfl (R:=fun _ _=>False) ?_ ?_
   ·rintro v d hh;exact hh.elim
   ·exact Gc
  |nil=>
   have hl:([]:List Tok).length=0:=rfl;refine go ?_;refine A8 rfl Z C ?_;refine AI (cs:=c) rfl rfl C hco Z U (fun e8 G=>?_)
   have i1:Blk e8 w.heap.size 37 c:=by
    have:=G.D;rw[BY c c rfl]at this;exact this
   refine AU rfl rfl rfl (a4.E G.E EP) O (fun f4 H=>?_);refine AU rfl rfl rfl ((a5.E G.E EP).E H.E EP) O (fun a6 a0=>?_);have f8:=G.size;have f9:=H.size;have j1:=(i1.E H.E EP).E a0.E EP;have j2:Blk a6 Q.heap.size 28 [iV 0]:=H.D.E a0.E EP;have j3:Blk a6 d.heap.size 3 [iV (-1)]:=a0.D;have e2:Ext w a6:=(((k9.E b8 EP).E G.E O).E H.E EP).E a0.E EP;have fit14:=Rp.E fmlR (Rp.E fmlR (Rp.E fmlR fit' G.E (fun b S=>by simp[fresh]at S⊢;omega)) H.E (fun b S=>by simp[fresh]at S⊢;omega)) a0.E (fun b S=>by simp[fresh]at S⊢;omega);refine go ?_;refine finD_ret_def (a:=[]) (c:=[pt w.heap.size,pt Q.heap.size,pt d.heap.size]) (recRet_F _ _ _ _) fun f5 V=>?_;refine res_cellA rfl C (j1.E V O).cells (A7 rfl ((j2.E V O).cell rfl) (A7 rfl ((j3.E V O).cell rfl) ?_));have hp:=b6 (Run.call r10 (Run.look (Run.ret _ _)));exact⟨c,0, -1,rfl,e2.trans V,.inl ⟨a,hp,rfl,rfl,Rp.mono fmlR (Rp.ext fmlR fit14 V) fun b S=>by simp only[fresh]at S⊢;omega⟩⟩
 ·refine go ?_;refine Ac (rd 0 3 (.alt 3 (.alt 4 (.alt 5 .done .stop) .stop) .stop)) Ap EO (fun wd M ed=>⟨fun W=>Cells W w.heap.size 0 [iV 0,AL [],iV 0,iV 0,.slice none 0 0]/\W.cell? ⟨Q.heap.size,0,none⟩=some (iV e)/\W.cell? ⟨d.heap.size,0,none⟩=some (iV (p:Int)),?_,?_⟩)
  ·exact⟨(K.E M O).cells,(P.E M O).cell rfl,(X.E M O).cell rfl⟩
  have b9:∀W:World,(Cells W w.heap.size 0 [iV 0,AL [],iV 0,iV 0,.slice none 0 0]/\W.cell? ⟨Q.heap.size,0,none⟩=some (iV e)/\W.cell? ⟨d.heap.size,0,none⟩=some (iV (p:Int)))->Cells W w.heap.size 0 [iV 0,AL [],iV 0,iV 0,.slice none 0 0]:=fun W h=>h.1;have c0:∀W:World,(Cells W w.heap.size 0 [iV 0,AL [],iV 0,iV 0,.slice none 0 0]/\W.cell? ⟨Q.heap.size,0,none⟩=some (iV e)/\W.cell? ⟨d.heap.size,0,none⟩=some (iV (p:Int)))->W.cell? ⟨Q.heap.size,0,none⟩=some (iV e):=fun W h=>h.2.1;have fc2:∀W:World,(Cells W w.heap.size 0 [iV 0,AL [],iV 0,iV 0,.slice none 0 0]/\W.cell? ⟨Q.heap.size,0,none⟩=some (iV e)/\W.cell? ⟨d.heap.size,0,none⟩=some (iV (p:Int)))->W.cell? ⟨d.heap.size,0,none⟩=some (iV (p:Int)):=fun W h=>h.2.2;replace K:=K.E M O;replace P:=P.E M O;replace X:=X.E M O;((apply D_R rfl rfl;(intro W o;refine AQ rfl EQ (b9 W o) ?_;exact AA ⟨rfl,rfl,rfl⟩))<;>(refine D_R rfl rfl (fun W o=>AH rfl (c0 W o) dz) ?_)<;>(refine D_R rfl rfl (fun W o=>AH rfl (fc2 W o) dz) ?_))
  refine D_E rfl ?_;refine AI (cs:=[iV 0,AL [],iV 0,iV 0,.slice none 0 0]) rfl rfl rfl (AV rfl) K O (fun wa pa=>?_);have a1:Blk wa w.heap.size 37 [iV 0,AL [],iV 0,iV 0,.slice none 0 0]:=pa.D;have a2:=P.E pa.E EP;have a3:=X.E pa.E EP;refine wNl (⟨a1.cells,a2.cell rfl,a3.cell rfl⟩) ?_;refine D_E rfl ?_;refine AU rfl rfl rfl a2 O (fun wb pb=>?_);have a7:=a1.E pb.E EP;have a8:Blk wb Q.heap.size 28 [iV e]:=pb.D;have a9:=a3.E pb.E EP;refine wNl (⟨a7.cells,a8.cell rfl,a9.cell rfl⟩) ?_;refine D_E rfl ?_;refine AU rfl rfl rfl a9 O (fun wc pc=>?_);have b0:=a7.E pc.E EP;have c2':=a8.E pc.E EP;have c3':Blk wc d.heap.size 3 [iV (p:Int)]:=pc.D;refine wNl (⟨b0.cells,c2'.cell rfl,c3'.cell rfl⟩) ?_;refine go ?_;refine BF (res_cellA rfl rfl b0.cells (A7 rfl (c2'.cell rfl) (A7 rfl (c3'.cell rfl) ?_)));refine⟨[iV 0,AL [],iV 0,iV 0,.slice none 0 0],e,p,rfl,(((k6.trans M).E pa.E O).E pb.E EP).E pc.E EP,.inr ⟨p,?_,he,rfl,rfl⟩⟩;unfold PRes;rw[s]
theorem run_S(w:World)(t:LU)(hG:GK w)(hI:∀E N,ItemR spcR aggV E N 29 (body .spec)):Fn Zp 28 [AL t,.func (.func 29) #[] #[]] w (fun v w'=>RunAns spcR aggV [.slice none 0 0,.slice none 0 0] (PRes .spec t) w w' v):=by
 have e9:=hG.gv.size;refine DC Tryz.func28 rfl Tryz.ntmps28 nlr EO (go ?_);refine AY (fun Q n1=>?_);refine AY (fun d n2=>?_);refine AY (fun z n3=>?_);have z1:=n1.size;have z2:=n2.size;have z3:=n3.size;have b1:Blk z w.heap.size 25 [.slice none 0 0,.slice none 0 0]:=(n1.D.E n2.E O).E n3.E O;have b2:Blk z Q.heap.size 28 [iV 0]:=n2.D.E n3.E O;have b3:Blk z d.heap.size 3 [iV 0]:=n3.D;have k3:Ext w z:=(n1.E.trans n2.E).trans n3.E;refine go ?_;refine AF (lexF z t (hG.gv.ext k3)) rfl ?_;rintro v w4⟨ta,tc,e,q,u,rfl,k4,hT,s⟩;have z4:=k4.size;have c1:=b1.E k4 O;have c2:=b2.E k4 O;have c3:=b3.E k4 O;refine go ?_;refine AU rfl rfl rfl c2 O (fun w5 A=>?_);refine AU rfl rfl rfl (c3.E A.E EP) O (fun w6 n=>?_);have z5:=A.size;have z6:=n.size;have K:Blk w6 w.heap.size 25 [.slice none 0 0,.slice none 0 0]:=(c1.E A.E EP).E n.E EP;have P:Blk w6 Q.heap.size 28 [iV e]:=A.D.E n.E EP;have X:Blk w6 d.heap.size 3 [iV q]:=n.D;have k6:Ext w w6:=((k3.trans k4).E A.E EP).E n.E EP;refine go ?_;rcases s with⟨s,rfl,rfl⟩|⟨p,s,he,rfl,rfl⟩
 ·obtain⟨ht6,d9,e0⟩:=lexM_toks s;refine go ?_;refine W_defer (v1:=[]) (v2:=[pt w.heap.size,pt Q.heap.size,pt d.heap.size]) (vs:=[]) rfl rfl (go ?_);refine AF (prefixes_ok w6) rfl ?_;rintro v w7⟨B,rfl,hmp,F,b7⟩;refine AF (infixes_ok w7) rfl ?_;rintro v m⟨D,rfl,f0,g,b4⟩;have hpl:=b7.lt;have d2:=b4.lt;have g0:=F.size;have zk8:=g.size;refine go ?_;refine A3 (L:=[.slice ta u.length tc,iV (t.length:Int),.map (some B),.map (some D)]) rfl (fun I i=>?_);have z9:=i.size;have k9:Ext w I:=((k6.trans F).trans g).trans i.E;refine go ?_;have c6:=((((hT.E A.E (fun b S=>by simp;omega)).E n.E (fun b S=>by simp;omega)).ext F).ext g).ext i.E;have f1:=(((K.E F O).E g O).E i.E O);have f2:=(((P.E F O).E g O).E i.E O);have f3:=(((X.E F O).E g O).E i.E O);have hP:PSt I ⟨z.heap.size,m.heap.size,t.length,B,D⟩ u:=⟨⟨ta,tc,i.D,c6.mono fun b S=>by have:=S.1;have:=S.2;exact⟨by show z.heap.size<=b;omega,by show b<m.heap.size;omega⟩⟩,(b7.E g O).E i.E O,b4.E i.E O,⟨by show B<m.heap.size;omega,d2⟩,e0,d9⟩;have o:PW I ⟨z.heap.size,m.heap.size,t.length,B,D⟩ u:=⟨hP,hG.ext k9,by show 10<=m.heap.size;omega⟩;have b6:∀{r:Ans (NT.T .spec)},Run (whole .spec) u r->PRes .spec t (errOf t.length r):=fun{r}hr=>by unfold PRes;rw[s];exact⟨r,hr,rfl⟩
  have b5:∀(f:Fr)(k:World)(l:List Tok),Run (whole .spec) u (.error l)->Keep [m.heap.size,w.heap.size] I k->(∃L1,Blk k w.heap.size 25 L1/\L1.length=2)->f 4=pt w.heap.size->f 5=pt Q.heap.size->f 6=pt d.heap.size->
    DZ Zp Tryz.f28 (fun v w'=>RunAns spcR aggV [.slice none 0 0,.slice none 0 0] (PRes .spec t) w w' v) (fun _ _=>False) (.panic (errV t.length l)) f [{target:=.fn (.func 73) #[pt w.heap.size,pt Q.heap.size,pt d.heap.size],args:=#[]}] k:=by
   rintro f k l hr hk⟨L1,g1,c5⟩e4 e5 e6;obtain⟨e,p,d0,d1,c9⟩:=errV_ne (α:=NT.T .spec) t.length l;rw[d0];refine finD_pan_def (a:=[]) (c:=[pt w.heap.size,pt Q.heap.size,pt d.heap.size]) (recPan_S k _ _ _ L1 _ _ e (p:Int) g1 c5 (f2.E hk EP) (f3.E hk EP) U U U) fun w11 c4=>?_;obtain⟨e1,Z,a4,a5⟩:=c4;refine res_cellA e4 rfl Z.cells (A7 e5 (a4.cell rfl) (A7 e6 (a5.cell rfl) ?_));have hp:=b6 hr;rw[d1]at hp;exact⟨[.slice none 0 0,.slice none 0 0],e,p,rfl,(k9.E hk EP).E e1 EP,.inr ⟨p,hp,c9,rfl,rfl⟩⟩
  refine go ?_;refine Cs (v1:=[]) (v2:=[]) (vs:=[pt m.heap.size]) rfl (hI ⟨z.heap.size,m.heap.size,t.length,B,D⟩ u.length I u o (Nat.le_refl _)) rfl ?_ ?_;rotate_left
  ·exact Ge
  rintro v k⟨j,a,e7,r10,e3,c,rfl,fit⟩;have C:c.length=2:=Rp.len spcR fit;have hco:=Rp.one spcR fit;have g1:=f1.E j EP;have g2:=f2.E j EP;have g3:=f3.E j EP;have f6:=j.size;refine AI (cs:=c) rfl rfl C hco g1 O (fun w11 y=>?_)
  have Z:Blk w11 w.heap.size 25 c:=by
   have:=y.D;rw[BY [.slice none 0 0,.slice none 0 0] c (by rw[C];rfl)]at this;exact this
  have a4:=g2.E y.E EP;have a5:=g3.E y.E EP;have fit':=Rp.E spcR fit y.E (fun b S=>by simp[fresh]at S⊢;omega);have b8:Keep [m.heap.size,w.heap.size] I w11:=(j.mono O).trans (y.E.mono (Y:=[m.heap.size,w.heap.size]) O) O;have f7:=y.size;have hE:w.heap.size<m.heap.size:=by omega
  obtain⟨⟨ta',tc',c7,d8⟩,d3,d4,d5,d6,d7⟩:=id e3;have c8:=c7.E y.E EP;refine go ?_;cases e7 with
  |cons x l=>
   have hl:(x::l).length=l.length+1:=rfl;refine go ?_;have q11:PSt w11 ⟨z.heap.size,m.heap.size,t.length,B,D⟩ (x::l):=⟨⟨ta',tc',c8,d8.E y.E (fun b S=>by have:z.heap.size<=b:=S.1;simp;omega)⟩,d3.E y.E EP,d4.E y.E EP,d5,d6,d7⟩;refine Ag (wrong_ok ⟨z.heap.size,m.heap.size,t.length,B,D⟩ w11 (x::l) q11) rfl (R:=fun _ _=>False) ?_ ?_
   ·rintro v d hh;exact hh.elim
   ·exact Gc
  |nil=>
   have hl:([]:List Tok).length=0:=rfl;refine go ?_;refine A8 rfl Z C ?_;refine AI (cs:=c) rfl rfl C hco Z U (fun e8 G=>?_)
   have i1:Blk e8 w.heap.size 25 c:=by
    have:=G.D;rw[BY c c rfl]at this;exact this
   refine AU rfl rfl rfl (a4.E G.E EP) O (fun f4 H=>?_);refine AU rfl rfl rfl ((a5.E G.E EP).E H.E EP) O (fun a6 a0=>?_);have f8:=G.size;have f9:=H.size;have j1:=(i1.E H.E EP).E a0.E EP;have j2:Blk a6 Q.heap.size 28 [iV 0]:=H.D.E a0.E EP;have j3:Blk a6 d.heap.size 3 [iV (-1)]:=a0.D;have e2:Ext w a6:=(((k9.E b8 EP).E G.E O).E H.E EP).E a0.E EP;have fit14:=Rp.E spcR (Rp.E spcR (Rp.E spcR fit' G.E (fun b S=>by simp[fresh]at S⊢;omega)) H.E (fun b S=>by simp[fresh]at S⊢;omega)) a0.E (fun b S=>by simp[fresh]at S⊢;omega);refine go ?_;refine finD_ret_def (a:=[]) (c:=[pt w.heap.size,pt Q.heap.size,pt d.heap.size]) (recRet_S _ _ _ _) fun f5 V=>?_;refine res_cellA rfl C (j1.E V O).cells (A7 rfl ((j2.E V O).cell rfl) (A7 rfl ((j3.E V O).cell rfl) ?_));have hp:=b6 (Run.call r10 (Run.look (Run.ret _ _)));exact⟨c,0, -1,rfl,e2.trans V,.inl ⟨a,hp,rfl,rfl,Rp.mono spcR (Rp.ext spcR fit14 V) fun b S=>by simp only[fresh]at S⊢;omega⟩⟩
 ·refine go ?_;refine Ac (rd 0 3 (.alt 3 (.alt 4 (.alt 5 .done .stop) .stop) .stop)) Ap EO (fun wd M ed=>⟨fun W=>Cells W w.heap.size 0 [.slice none 0 0,.slice none 0 0]/\W.cell? ⟨Q.heap.size,0,none⟩=some (iV e)/\W.cell? ⟨d.heap.size,0,none⟩=some (iV (p:Int)),?_,?_⟩)
  ·exact⟨(K.E M O).cells,(P.E M O).cell rfl,(X.E M O).cell rfl⟩
  have b9:∀W:World,(Cells W w.heap.size 0 [.slice none 0 0,.slice none 0 0]/\W.cell? ⟨Q.heap.size,0,none⟩=some (iV e)/\W.cell? ⟨d.heap.size,0,none⟩=some (iV (p:Int)))->Cells W w.heap.size 0 [.slice none 0 0,.slice none 0 0]:=fun W h=>h.1;have c0:∀W:World,(Cells W w.heap.size 0 [.slice none 0 0,.slice none 0 0]/\W.cell? ⟨Q.heap.size,0,none⟩=some (iV e)/\W.cell? ⟨d.heap.size,0,none⟩=some (iV (p:Int)))->W.cell? ⟨Q.heap.size,0,none⟩=some (iV e):=fun W h=>h.2.1;have fc2:∀W:World,(Cells W w.heap.size 0 [.slice none 0 0,.slice none 0 0]/\W.cell? ⟨Q.heap.size,0,none⟩=some (iV e)/\W.cell? ⟨d.heap.size,0,none⟩=some (iV (p:Int)))->W.cell? ⟨d.heap.size,0,none⟩=some (iV (p:Int)):=fun W h=>h.2.2;replace K:=K.E M O;replace P:=P.E M O;replace X:=X.E M O;((apply D_R rfl rfl;(intro W o;refine AQ rfl EQ (b9 W o) ?_;exact AA ⟨rfl,rfl,rfl⟩))<;>(refine D_R rfl rfl (fun W o=>AH rfl (c0 W o) dz) ?_)<;>(refine D_R rfl rfl (fun W o=>AH rfl (fc2 W o) dz) ?_))
  refine D_E rfl ?_;refine AI (cs:=[.slice none 0 0,.slice none 0 0]) rfl rfl rfl (AV rfl) K O (fun wa pa=>?_);have a1:Blk wa w.heap.size 25 [.slice none 0 0,.slice none 0 0]:=pa.D;have a2:=P.E pa.E EP;have a3:=X.E pa.E EP;refine wNl (⟨a1.cells,a2.cell rfl,a3.cell rfl⟩) ?_;refine D_E rfl ?_;refine AU rfl rfl rfl a2 O (fun wb pb=>?_);have a7:=a1.E pb.E EP;have a8:Blk wb Q.heap.size 28 [iV e]:=pb.D;have a9:=a3.E pb.E EP;refine wNl (⟨a7.cells,a8.cell rfl,a9.cell rfl⟩) ?_;refine D_E rfl ?_;refine AU rfl rfl rfl a9 O (fun wc pc=>?_);have b0:=a7.E pc.E EP;have c2':=a8.E pc.E EP;have c3':Blk wc d.heap.size 3 [iV (p:Int)]:=pc.D;refine wNl (⟨b0.cells,c2'.cell rfl,c3'.cell rfl⟩) ?_;refine go ?_;refine BF (res_cellA rfl rfl b0.cells (A7 rfl (c2'.cell rfl) (A7 rfl (c3'.cell rfl) ?_)));refine⟨[.slice none 0 0,.slice none 0 0],e,p,rfl,(((k6.trans M).E pa.E O).E pb.E EP).E pc.E EP,.inr ⟨p,?_,he,rfl,rfl⟩⟩;unfold PRes;rw[s]
theorem item_fml(E:Env)(N:Nat):ItemR fmlR aggV E N 46 (body .formula):=by
 intro w u h S;refine FnP.mono ((formulas_ok E N).2.2.2 w u h S) ?_ fun _ _ h=>h;rintro v X⟨k,a,x,r,q,f⟩;obtain⟨c,rfl,T,_⟩:=f.cells;exact⟨k,a,x,r,q,c,rfl,T,f⟩
theorem parse_F(w:World)(t:LU)(X:GK w):Fn Zp 15 [AL t] w (fun v w'=>RunAns fmlR aggV [iV 0,AL [],iV 0,iV 0,.slice none 0 0] (PRes .formula t) w w' v):=by
 refine AN Tryz.func15 rfl Tryz.ntmps15 (go ?_);refine AY (fun Q A=>?_);have g:Blk Q w.heap.size 37 [iV 0,AL [],iV 0,iV 0,.slice none 0 0]:=A.D;have m:=A.size;refine go ?_;refine AF (run_F Q t (X.ext A.E) item_fml) rfl ?_;rintro v N⟨c,e,q,rfl,f,G⟩
 have T:c.length=5/\oneC c:=by
  rcases G with⟨a,_,_,_,n⟩|⟨p,_,_,_,rfl⟩
  ·exact⟨Rp.len fmlR n,Rp.one fmlR n⟩
  ·exact⟨rfl,AV rfl⟩
 have j:=g.E f O;refine go ?_;refine AI (cs:=c) rfl rfl T.1 T.2 j O (fun i d=>?_)
 have z:Blk i w.heap.size 37 c:=by
  have:=d.D;rw[BY [iV 0,AL [],iV 0,iV 0,.slice none 0 0] c (by rw[T.1];rfl)]at this;exact this
 refine go ?_;refine fin_retA2 rfl rfl T.1 z.cells ⟨c,e,q,rfl,(A.E.trans f).E d.E O,?_⟩;rcases G with⟨a,Z,W,R,n⟩|h
 ·exact .inl ⟨a,Z,W,R,Rp.mono fmlR (Rp.E fmlR n d.E (fun b S=>by simp[fresh]at S⊢;omega)) (fun b S=>by simp only[fresh]at S⊢;omega)⟩
 ·exact .inr h
theorem parse_S(w:World)(t:LU)(X:GK w):Fn Zp 7 [AL t] w (fun v w'=>RunAns spcR aggV [.slice none 0 0,.slice none 0 0] (PRes .spec t) w w' v):=by
 refine AN Tryz.func7 rfl Tryz.ntmps7 (go ?_);refine AY (fun Q A=>?_);have g:Blk Q w.heap.size 25 [.slice none 0 0,.slice none 0 0]:=A.D;have m:=A.size;refine go ?_;refine AF (run_S Q t (X.ext A.E) spec_ok) rfl ?_;rintro v N⟨c,e,q,rfl,f,G⟩
 have T:c.length=2/\oneC c:=by
  rcases G with⟨a,_,_,_,n⟩|⟨p,_,_,_,rfl⟩
  ·exact⟨Rp.len spcR n,Rp.one spcR n⟩
  ·exact⟨rfl,AV rfl⟩
 have j:=g.E f O;refine go ?_;refine AI (cs:=c) rfl rfl T.1 T.2 j O (fun i d=>?_)
 have z:Blk i w.heap.size 25 c:=by
  have:=d.D;rw[BY [.slice none 0 0,.slice none 0 0] c (by rw[T.1];rfl)]at this;exact this
 refine go ?_;refine fin_retA2 rfl rfl T.1 z.cells ⟨c,e,q,rfl,(A.E.trans f).E d.E O,?_⟩;rcases G with⟨a,Z,W,R,n⟩|h
 ·exact .inl ⟨a,Z,W,R,Rp.mono spcR (Rp.E spcR n d.E (fun b S=>by simp[fresh]at S⊢;omega)) (fun b S=>by simp only[fresh]at S⊢;omega)⟩
 ·exact .inr h
def parseE(nt:NT)(t:LU)(n:Nat):Option (Except (Int×Nat) nt.T):=match EE t with
 | .error e=>some (.error e)
 | .ok ts=>(evG (evN n) (whole nt) ts).map (errOf t.length)
theorem PRes.ofE{nt:NT}{t:LU}{n:Nat}{r:Except (Int×Nat) nt.T}(h:parseE nt t n=some r):PRes nt t r:=by
 unfold parseE at h;unfold PRes;cases hm:EE t with
 |error e=>rw[hm]at h;exact(Option.some.inj h).symm
 |ok ts=>
  rw[hm]at h;obtain⟨a,Z,W⟩:=Option.map_eq_some_iff.1 h;exact⟨a,⟨n,Z⟩,W.symm⟩
theorem parseS_is(w:World)(t:LU)(a:Spc)(X:GK w)(h:PRes .spec t (.ok a)):Fn Zp 7 [AL t] w (fun v w'=>∃c,v=.tuple #[.agg c.toArray,iV 0,iV (-1)]/\Ext w w'/\spcR.fits Af w' c a):=by
 refine(parse_S w t X).mono ?_;rintro v w'⟨c,e,q,rfl,k,M|M⟩
 ·obtain⟨b,Z,rfl,rfl,f⟩:=M;obtain rfl:b=a:=by have:=Z.det h;cases this;rfl
  exact⟨c,rfl,k,Rp.mono spcR f fun _ _=>trivial⟩
 ·obtain⟨p,Z,_⟩:=M;have:=Z.det h;cases this
theorem own_oneC{w:World}{B e size n:Nat}{v:Value}{xs:LV}(h:w.ownsRow B e size v n xs):v.oneCell'=true:=by
 rcases h.2 with⟨rfl,_⟩|⟨g,E,G,rfl,_⟩<;>rfl
structure Bld(w W:World)(c:Nat)(op:Int)(nm:LU)(val bd:Int)(l:LF)(v:Value)(L:List (LV)):Prop where
 D:Blk W c 37 [iV op,AL nm,iV val,iV bd,v]
 own:W.ownsRow w.heap.size 37 5 v l.length L.flatten
 fs:FsAt (fun b=>(w.heap.size<=b/\b≠c)/\v.ownBlock≠some b) W L l
 ne:∀g,v.ownBlock=some g->g≠c
theorem Bld.ext{w W Z:World}{c:Nat}{op b P:Int}{a:LU}{l:LF}{v:Value}{L:List (LV)}(h:Bld w W c op a b P l v L)(k:Ext W Z):Bld w Z c op a b P l v L:=
 ⟨h.D.E k O,As h.own k,h.fs.ext k,h.ne⟩
theorem Bld.start{w W:World}{c:Nat}{op a P:Int}{k:LU}(h:Blk W c 37 [iV op,AL k,iV a,iV P,.slice none 0 0]):Bld w W c op k a P [] (.slice none 0 0) []:=
 ⟨h,⟨rfl,.inl ⟨rfl,rfl⟩⟩,FsAt.nil _ _,fun g b=>by cases b⟩
theorem Bld.fin{w W:World}{c:Nat}{op a P:Int}{k:LU}{l:LF}{v:Value}{L:List (LV)}(h:Bld w W c op k a P l v L):FAt (fun b=>w.heap.size<=b/\b≠c) W (.agg #[iV op,AL k,iV a,iV P,v]) ⟨op,k,a,P,l⟩:=
 FAt.node op k a P (Aa h.own fun g d=>⟨(An h.own d).1,h.ne g d⟩) (h.fs.mono fun b S=>S.1)
theorem Bld.push{w W W1 j s:World}{c B:Nat}{op i P:Int}{k:LU}{l:LF}{v f:Value}{L:List (LV)}{e T:TypeId}{cs:LV}{g:Fml}(h:Bld w W c op k i P l v L)(D:w.heap.size<=c/\c<B)(q:∀g,v.ownBlock=some g->g<B)(z:w.heap.size<=B)(y:B<=W.heap.size)
  (u:FAt (fun b=>B<=b) W (.agg cs.toArray) g)(C:cs.length=5)(n:New W W1 e cs)(a:Apd W1 j w.heap.size 37 5 v f (l.length+1) (L.flatten++cs))
  (p:Put j s c T [iV op,AL k,iV i,iV P,f])(m:T=37):Bld w s c op k i P (l++[g]) f (L++[cs])/\Keep (c::v.ownBlock.toList) W s:=by
 subst m;have E:=n.size
 have o:∀b,f.ownBlock=some b->v.ownBlock=some b\/b=W1.heap.size:=fun b S=>by
  rcases a.D with e|e
  ·exact .inl Et
  ·rw[e]at S;exact .inr (Option.some.inj S).symm
 have r:∀b,f.ownBlock=some b->b≠c:=fun b S=>by
  rcases o b S with e|e
  ·exact h.ne b e
  ·omega
 have d:∀{b},b∈v.ownBlock.toList->v.ownBlock=some b:=fun V=>Option.mem_toList.1 V;refine⟨⟨p.D,?_,FsAt.snoc ?_ ?_ C,r⟩,?_⟩
 ·have:=Ai a.own p.E (fun b S=>by simpa using r b S);rw[List.length_append,List.flatten_append];simpa using this
 ·refine((((h.fs.lt).ext n.E).E a.E ?_).E p.E ?_).mono ?_
  ·rintro b⟨⟨_,S⟩,_⟩V;exact S (d V)
  ·rintro b⟨⟨⟨_,S⟩,_⟩,_⟩;simpa using S
  ·rintro b⟨⟨⟨Z,t⟩,S⟩,A⟩;refine⟨⟨Z,t⟩,fun e=>?_⟩;rcases o b e with e|e
   ·exact S e
   ·omega
 ·refine((((u.lt).ext n.E).E a.E ?_).E p.E ?_).mono ?_
  ·rintro b⟨Z,_⟩V;have:=q b (d V);omega
  ·rintro b⟨Z,_⟩;simp;omega
  ·rintro b⟨Z,A⟩;refine⟨⟨by omega,by omega⟩,fun e=>?_⟩;rcases o b e with e|e
   ·have:=q b e;omega
   ·omega
 ·refine((n.E.any.trans a.E ?_).trans p.E ?_)
  ·intro x V _;exact List.mem_cons_of_mem _ V
  ·intro x V _;simp at V;subst V;exact List.mem_cons_self ..
def findM(l:List Sgn)(s:LU):Int:=match l.findIdx? (fun x=>decide (x.name=s))with
 |some i=>(i:Int)
 |none=> -1
theorem sigFind_ok(w:World)(v:Value)(l:List Sgn)(s:LU)(h:SlAt sgnR Af w v l):Fn Zp 202 [v,AL s] w fun v w'=>v=iV (findM l s)/\w'=w:=by
 obtain⟨a,c,L,rfl,q,g⟩:=h;have I:l.length<=9223372036854775807:=by obtain⟨_,_,u,Q,D,_⟩:=id q;cases u;omega
 refine AN Tryz.func202 rfl Tryz.ntmps202 (go ?_);refine Ar (α:=Nat) (fun k=>[(0,.slice a l.length c),(1,AL s),(7,iV (l.length:Int)),(8,iV (k:Int))]) (fun k W=>k<=l.length/\W=w/\∀j y,j<k->l[j]?=some y->y.name≠s) (fun k=>l.length-k) 0 ⟨rfl,rfl,rfl,rfl,trivial⟩ ⟨by omega,rfl,fun j y f=>by omega⟩ ?_;rintro k A B⟨G,rfl,f⟩;repeat refine nx rfl ?_
 by_cases d:k<l.length
 ·obtain⟨y,E⟩:∃y,l[k]?=some y:=⟨_,List.getElem?_eq_getElem d⟩;obtain⟨e,Z⟩:∃e,L[k]?=some e:=⟨_,List.getElem?_eq_getElem (by rw[g.1];exact d)⟩;obtain rfl:e=sgnC y:=g.2 k e y Z E;obtain⟨b,o,rfl,_,C⟩:=q.recs g (sz:=3) rfl Z d;have n:A.cell? ⟨b,o+k*3+0,none⟩=some (AL y.name):=C 0 _ rfl;(refine AJ ?_<;>(refine C6 rfl rfl (fun T=>?_) (fun T=>?_)<;>try omega))
  repeat refine nx rfl ?_
  refine AJ (AS rfl (AO (AS rfl ?_)));repeat refine nx rfl ?_
  refine AJ (Ay rfl (AS rfl ?_));refine CG (k:=k) rfl rfl rfl d ?_;by_cases p:y.name=s
  ·(refine AB rfl (AH rfl ER ?_)<;>refine BC rfl ?_<;>refine Bg rfl rfl (fun T=>?_) (fun T=>?_)<;>refine AA ?_)
   case refine_2=>exact absurd p ER
   repeat refine nx rfl ?_
   refine AJ (AS rfl (AO (AS rfl ?_)));repeat refine nx rfl ?_
   refine AC rfl ⟨?_,rfl⟩
   have:l.findIdx? (fun x=>decide (x.name=s))=some k:=by
    rw[List.findIdx?_eq_some_iff_getElem];obtain⟨F,t⟩:=List.getElem?_eq_some_iff.1 E;refine⟨d,by simp[t,p],fun j r=>?_⟩;have:=f j l[j] r (List.getElem?_eq_getElem U);simpa using this
   unfold findM;rw[this];rfl
  ·(refine AB rfl (AH rfl ER ?_)<;>refine BC rfl ?_<;>refine Bg rfl rfl (fun T=>?_) (fun T=>?_)<;>refine AA ?_)
   case refine_1=>exact absurd ER p
   refine go ?_;refine⟨k+1,⟨rfl,⟨rfl,rfl,rfl,?_,trivial⟩,⟨by omega,rfl,fun j z r m=>?_⟩⟩,by omega⟩
   ·show iV ((k:Int)+1)=_;rw[Int.natCast_add];rfl
   ·rcases Nat.lt_or_ge j k with h|h
    ·exact f j z h m
    ·obtain rfl:j=k:=by omega
     rw[E]at m;cases m;exact p
 ·obtain rfl:k=l.length:=by omega
  refine go ?_;refine AC rfl ⟨?_,rfl⟩
  have:l.findIdx? (fun x=>decide (x.name=s))=none:=by
   rw[List.findIdx?_eq_none_iff];intro x V;obtain⟨i,H⟩:=List.getElem?_of_mem V;simpa using f i x (List.getElem?_eq_some_iff.1 H).1 H
  unfold findM;rw[this];rfl
def Bq:List Sgn->Int
 | []=>1
 |x::l=>Bq l*x.size
def okI(l:List Sgn)(i:Nat):Bool:=match l[i]? with
 |some x=>BH x.name&&decide (2<=x.size)&&decide (x.size<=4)&&(l.take i).all (fun y=>decide (y.name≠x.name))
 |none=>true
def Bk(l:List Sgn):Bool:=decide (1<=l.length)&&decide (l.length<=6)&&(List.range l.length).all (okI l)&&decide (Bq l<=64)
theorem prodS_snoc:∀(l:List Sgn)(x:Sgn),Bq (l++[x])=Bq l*x.size
 | [],x=>by simp[Bq]
 |y::l,x=>by
  rw[List.cons_append,Bq,prodS_snoc l x,Bq,Int.mul_right_comm]
theorem prodS_take{l:List Sgn}{k:Nat}{x:Sgn}(h:l[k]?=some x):Bq (l.take (k+1))=Bq (l.take k)*x.size:=by
 rw[List.take_add_one,h,<-prodS_snoc];rfl
theorem okI_some{l:List Sgn}{i:Nat}{x:Sgn}(V:l[i]?=some x):okI l i=true↔BH x.name=true/\2<=x.size/\x.size<=4/\∀j y,j<i->l[j]?=some y->y.name≠x.name:=by
 unfold okI;rw[V];simp only[Bool.and_eq_true,decide_eq_true_eq,List.all_eq_true,and_assoc];refine and_congr_right fun _=>and_congr_right fun _=>and_congr_right fun _=>?_;constructor
 ·intro h j y T E;exact h y (List.mem_of_getElem? (by rw[List.getElem?_take,if_pos T];exact E))
 ·intro h y E;obtain⟨j,T⟩:=List.getElem?_of_mem E;rw[List.getElem?_take]at T
  split at T
  ·exact h j y ER T
  ·cases T
theorem prodS_le:∀(l:List Sgn),(∀x∈l,2<=x.size/\x.size<=4)->l.length<=6->1<=Bq l/\Bq l<=(4:Int)^l.length
 | [],_,_=>by simp[Bq]
 |x::l,h,hl=>by
  obtain⟨Z,W⟩:=prodS_le l (fun y E=>h y (by simp[E])) (by simp at hl;omega);obtain⟨R,B⟩:=h x O;simp only[Bq,List.length_cons];constructor
  ·have:=Int.mul_le_mul Z (show(1:Int)<=x.size by omega) U U;simpa using this
  ·rw[Int.pow_succ];exact Int.mul_le_mul W B U U
theorem pow_six{n:Nat}(h:n<=6):(4:Int)^n<=4096:=by
 have:n=0\/n=1\/n=2\/n=3\/n=4\/n=5\/n=6:=by omega
 rcases this with rfl|rfl|rfl|rfl|rfl|rfl|rfl<;>decide
theorem prodS_six{l:List Sgn}(h:∀i,i<l.length->okI l i=true){k:Nat}(L:k<=l.length)(a:l.length<=6):1<=Bq (l.take k)/\Bq (l.take k)<=4096:=by
 have Z:=prodS_le (l.take k) (fun x V=>by
  obtain⟨i,H⟩:=List.getElem?_of_mem (List.mem_of_mem_take V);have:=(okI_some H).1 (h i (List.getElem?_eq_some_iff.1 H).1);exact⟨this.2.1,this.2.2.1⟩) Ex
 have W:=pow_six (n:=(l.take k).length) Ex;omega
theorem EJ{l:List Sgn}(h:Bk l=true):1<=l.length/\l.length<=6/\(∀i,i<l.length->okI l i=true)/\Bq l<=64:=by
 simp only[Bk,Bool.and_eq_true,decide_eq_true_eq,List.all_eq_true,List.mem_range]at h;exact⟨h.1.1.1,h.1.1.2,h.1.2,h.2⟩
theorem valid_false{l:List Sgn}{i:Nat}(H:i<l.length)(h:okI l i=false):Bk l=false:=by
 cases hv:Bk l with
 |false=>rfl
 |true=>rw[(EJ hv).2.2.1 i H]at h;cases h
set_option maxHeartbeats 1600000 in
theorem sigValid_ok(w:World)(v:Value)(l:List Sgn)(h:SlAt sgnR Af w v l)(hK:KY w):Fn Zp 35 [v] w fun u w'=>u=.bool (Bk l)/\Ext w w':=by
 obtain⟨a,c,L,rfl,hS,s⟩:=h;have b2:l.length<=9223372036854775807:=by obtain⟨_,_,p,P,R,_⟩:=id hS;cases p;omega
 refine AN Tryz.func35 rfl Tryz.ntmps35 (go ?_);by_cases a4:1<=l.length/\l.length<=6
 case neg=>
  have p:Bk l=false:=by
   simp only[Bk];rw[show(decide (1<=l.length)&&decide (l.length<=6))=false by rw[<-Bool.not_eq_true,Bool.and_eq_true,decide_eq_true_eq,decide_eq_true_eq];exact a4];rfl
  rw[p];by_cases h1:1<=l.length
  ·exact Fk
  ·exact Fk
 obtain⟨a7,a8⟩:=a4;refine go ?_;refine Ar (α:=Nat) (fun k=>[(0,.slice a l.length c),(3,.bool true),(4,iV (Bq (l.take k))),(16,iV (l.length:Int)),(17,iV (k:Int))]) (fun k W=>k<=l.length/\Ext w W/\∀i,i<k->okI l i=true) (fun k=>l.length-k) 0 ⟨rfl,rfl,rfl,rfl,rfl,trivial⟩ ⟨by simp,Ext.refl _,fun i H=>by omega⟩ ?_;rintro k w1 f1⟨hk,Z,I⟩;refine go ?_;by_cases G:k<l.length
 ·refine go ?_;obtain⟨x,V⟩:∃x,l[k]?=some x:=⟨_,List.getElem?_eq_getElem G⟩
  have C:∀W,Ext w W->∀j y,l[j]?=some y->∃b o,a=some ⟨b,o,none⟩/\W.cell? ⟨b,o+j*3+0,none⟩=some (AL y.name)/\W.cell? ⟨b,o+j*3+2,none⟩=some (iV y.size):=by
   intro W f j y E;have T:=(List.getElem?_eq_some_iff.1 E).1;obtain⟨D,a0⟩:∃D,L[j]?=some D:=⟨_,List.getElem?_eq_getElem (by rw[s.1];exact T)⟩;obtain rfl:D=sgnC y:=s.2 j D y a0 E;obtain⟨b,o,e,_,F⟩:=(hS.ext f).recs (s.ext f) (sz:=3) rfl a0 T;exact⟨b,o,e,F 0 _ rfl,F 2 _ rfl⟩
  obtain⟨b,o,rfl,K,Q⟩:=C w1 Z k x V;have t:okI l k=true↔_:=okI_some V
  have a5:=prodS_six (l:=l.take k) (fun i H=>by
   rw[List.length_take]at H;have a2:i<k:=by omega
   obtain⟨y,E⟩:∃y,l[i]?=some y:=⟨_,List.getElem?_eq_getElem U⟩;have b1:(l.take k)[i]?=some y:=by rw[List.getElem?_take,if_pos a2];exact E
   have:=(okI_some E).1 (I i a2);refine(okI_some b1).2 ⟨this.1,this.2.1,this.2.2.1,fun j z T g=>?_⟩;rw[List.getElem?_take,if_pos U]at g;exact this.2.2.2 j z T g) (Nat.le_refl _) Ex
  rw[List.take_length]at a5;have b0:=prodS_take V;refine go ?_;refine AF (Do x.name w1 (hK.E Z O)) rfl ?_;rintro _ _⟨rfl,rfl⟩;have A:okI l k=false->Bk l=false:=valid_false G;cases hnm:BH x.name with
  |false=>
   have S:=A (by rw[<-Bool.not_eq_true,t];simp[hnm]);exact GH
  |true=>
  refine go ?_;by_cases X:2<=x.size
  case neg=>
   have S:=A (by rw[<-Bool.not_eq_true,t];simp[X]);exact GH
  refine go ?_;by_cases B:x.size<=4
  case neg=>
   have S:=A (by rw[<-Bool.not_eq_true,t];simp[B]);exact GH
  refine go ?_;refine Ar (α:=Nat) (fun j=>[(0,.slice (some ⟨b,o,none⟩) l.length c),(3,.bool true),(4,iV (Bq (l.take k))),(5,iV (k:Int)),(16,iV (l.length:Int)),(17,iV (k:Int)),(43,iV (k:Int)),(44,iV (j:Int))]) (fun j W=>j<=k/\Ext w W/\∀i y,i<j->l[i]?=some y->y.name≠x.name) (fun j=>k-j) 0 ⟨rfl,rfl,rfl,rfl,rfl,rfl,rfl,rfl,trivial⟩ ⟨by simp,Z,fun i y H=>by omega⟩ ?_;clear K Q Z;rintro j w2 f2⟨T,m,a1⟩;refine go ?_;by_cases a3:j<k
  ·obtain⟨y,E⟩:∃y,l[j]?=some y:=⟨_,List.getElem?_eq_getElem U⟩;refine go ?_;generalize r:decide (y.name=x.name)=cc;repeat' first|refine AA ?_|refine Q_then ?_|refine C_seq ?_
   refine CA (α:=Unit) (fun _=>[(0,.slice (some ⟨b,o,none⟩) l.length c),(3,.bool true),(4,iV (Bq (l.take k))),(5,iV (k:Int)),(16,iV (l.length:Int)),(17,iV (k:Int)),(43,iV (k:Int)),(44,iV (j:Int)),(57,.bool cc)]) (fun _ W=>Ext w W) ?_ ?_
   ·refine Ac (rd 0 11 .done) Ap EO (fun N M ed=>⟨Ext N,?_,?_⟩)
    ·exact FQ
    have P:∀W,Ext N W->W.cell? ⟨b,o+j*3+0,none⟩=some (AL y.name):=fun W e=>by
     obtain⟨b',o',n,q,_⟩:=C W ((m.trans M).trans e) j y E;cases n;exact q
    have R:∀W,Ext N W->W.cell? ⟨b,o+k*3+0,none⟩=some (AL x.name):=fun W e=>by
     obtain⟨b',o',n,q,_⟩:=C W ((m.trans M).trans e) k x V;cases n;exact q
    ((refine D_R rfl rfl (fun W f=>Ay rfl dz) ?_)<;>(refine D_R rfl rfl (fun W f=>AS rfl dz) ?_))
    refine D_R rfl rfl (fun W f=>by refine CG (k:=j) rfl rfl rfl U ?_;exact AA ⟨rfl,rfl,rfl⟩) ?_;((refine D_R rfl rfl (fun W f=>AB rfl dz) ?_)<;>(refine D_R rfl rfl (fun W f=>AH rfl (P W f) dz) ?_)<;>(refine D_R rfl rfl (fun W f=>Ay rfl dz) ?_)<;>(refine D_R rfl rfl (fun W f=>AS rfl dz) ?_))
    refine D_R rfl rfl (fun W f=>by refine CG (k:=k) rfl rfl rfl U ?_;exact AA ⟨rfl,rfl,rfl⟩) ?_;((refine D_R rfl rfl (fun W f=>AB rfl dz) ?_)<;>(refine D_R rfl rfl (fun W f=>AH rfl (R W f) dz) ?_))
    ((refine D_seql rfl rfl rfl rfl (fun F=>?_) (fun F=>?_))<;>refine Bc ?_)
    ·have e:cc=true:=by rw[<-r];exact decide_eq_true ER
     subst e;refine go ?_;exact Aj () ⟨rfl,rfl,rfl,rfl,rfl,rfl,rfl,rfl,rfl,trivial⟩ (m.trans M)
    ·have e:cc=false:=by rw[<-r];exact decide_eq_false ER
     subst e;refine go ?_;exact Aj () ⟨rfl,rfl,rfl,rfl,rfl,rfl,rfl,rfl,rfl,trivial⟩ (m.trans M)
   rintro _ w3 f3 k3;cases cc with
   |true=>
    have S:=A (by
     rw[<-Bool.not_eq_true,t];exact fun q=>q.2.2.2 j y a3 E (of_decide_eq_true r))
    refine go ?_;exact AC rfl ⟨by rw[S];rfl,k3⟩
   |false=>
    refine go ?_;refine⟨j+1,⟨rfl,⟨rfl,rfl,rfl,rfl,rfl,rfl,rfl,?_,trivial⟩,⟨a3,k3,fun i z H g=>?_⟩⟩,by omega⟩
    ·show iV ((j:Int)+1)=_;rw[Int.natCast_add];rfl
    ·by_cases d:i=j
     ·subst d;rw[E]at g;cases g;exact of_decide_eq_false r
     ·exact a1 i z U g
  ·obtain rfl:j=k:=by omega
   have a9:okI l j=true:=t.2 ⟨hnm,X,B,a1⟩;obtain⟨_,_,n,K,Q⟩:=C w2 m j x V;cases n;refine go ?_
   have b3:Bq (l.take j)*x.size<=16384:=by
    have:=Int.mul_le_mul a5.2 B U U;omega
   have b4:0<=Bq (l.take j)*x.size:=Int.mul_nonneg U U;refine go ?_;refine⟨j+1,⟨rfl,⟨rfl,rfl,?_,rfl,?_,trivial⟩,⟨G,m,fun i H=>?_⟩⟩,by omega⟩
   ·exact congrArg (Value.int .i64) b0.symm
   ·show iV ((j:Int)+1)=_;rw[Int.natCast_add];rfl
   ·by_cases d:i=j
    ·subst d;exact a9
    ·exact I i U
 ·obtain rfl:k=l.length:=by omega
  rw[List.take_length]
  have a6:(List.range l.length).all (okI l)=true:=by
   rw[List.all_eq_true];exact fun i H=>I i (List.mem_range.1 H)
  have p:Bk l=decide (Bq l<=64):=by
   unfold Bk;rw[a6,decide_eq_true a7,decide_eq_true a8];simp
  rw[p];refine go ?_;by_cases hp:Bq l<=64
  ·refine go ?_;exact AC rfl ⟨by rw[decide_eq_true hp];rfl,Z⟩
  ·refine go ?_;exact AC rfl ⟨by rw[decide_eq_false hp];rfl,Z⟩
structure WtsR(yv:Value)(X:List Nat)(B:Nat)(l:List Sgn)(J:Nat->World->Prop)(D:World->Prop):Prop where
 fn:∃y,yv=.func (.yield y) #[] #[]
 E:∀{k:Nat}{W W':World}{Y:List Nat},J k W->Keep Y W W'->(∀y∈Y,B<=y)->J k W'
 step:∀{k:Nat}{W:World}{x:Sgn},J k W->l[k]?=some x->YldP Zp yv [iV (k:Int),iV (Bq (l.take k))] W (fun v W'=>Keep X W W'/\((v=.bool true/\J (k+1) W')\/(v=.bool false/\D W'))) (fun _ _=>False)
theorem prod_bound{l:List Sgn}(c:Bk l=true){k:Nat}{x:Sgn}(V:l[k]?=some x):1<=Bq (l.take k)/\Bq (l.take k)<=4096/\2<=x.size/\x.size<=4/\0<=Bq (l.take k)*x.size/\Bq (l.take k)*x.size<=16384:=by
 obtain⟨Z,b,p,_⟩:=EJ c;have L:=(List.getElem?_eq_some_iff.1 V).1;have y:=prodS_six p (k:=k) U b;have a:=(okI_some V).1 (p k L);have W:=Int.mul_le_mul y.2 a.2.2.1 U U;exact⟨y.1,y.2,a.2.1,a.2.2.1,Int.mul_nonneg U U,by omega⟩
theorem SlAt.E{α:Type}{R:Rp α}{ok:Nat->Prop}{X:List Nat}{w w':World}{v:Value}{l:List α}(h:SlAt R ok w v l)(k:Keep X w w')(d:∀b,ok b->b∉X):SlAt R ok w' v l:=by
 obtain⟨a,c,L,e,Z,W⟩:=h;exact⟨a,c,L,e,Z.E k d,W.E k d⟩
theorem SlAt.lt{α:Type}{R:Rp α}{ok:Nat->Prop}{w:World}{v:Value}{l:List α}(z:0<R.size)(h:SlAt R ok w v l):SlAt R (fun b=>ok b/\b<w.heap.size) w v l:=by
 obtain⟨a,c,L,e,Z,W⟩:=h;exact⟨a,c,L,e,Sl_ltR z Z W,W.lt⟩
theorem SlAt.sig{ok:Nat->Prop}{w:World}{a:Option Addr}{n c:Nat}{l:List Sgn}{k:Nat}{x:Sgn}(h:SlAt sgnR ok w (.slice a n c) l)(V:l[k]?=some x):n=l.length/\∃b o,a=some ⟨b,o,none⟩/\ok b/\Cells w b (o+k*3) (sgnC x):=by
 obtain⟨i,I,L,e,f,s⟩:=h;cases e;have T:=(List.getElem?_eq_some_iff.1 V).1;obtain⟨d,Z⟩:∃d,L[k]?=some d:=⟨_,List.getElem?_eq_getElem (by rw[s.1];exact T)⟩;obtain rfl:d=sgnC x:=s.2 k d x Z V;obtain⟨b,o,e,S,g⟩:=f.recs s (sz:=3) rfl Z T;exact⟨rfl,b,o,e,S,g⟩
theorem SlAt.len{α:Type}{R:Rp α}{ok:Nat->Prop}{w:World}{v:Value}{l:List α}(h:SlAt R ok w v l):∃a c,v=.slice a l.length c/\l.length<=9223372036854775807:=by
 obtain⟨a,c,L,rfl,b,_⟩:=h;refine⟨a,c,rfl,?_⟩;obtain⟨_,_,p,Q,d,_⟩:=b;cases p;omega
theorem weights_ok(w:World)(v:Value)(W:v.oneCell'=true):Fn Zp 235 [v] w fun u w'=>u=.func (.func 310) #[] #[pt w.heap.size]/\New w w' 22 [v]:=by
 refine AN Tryz.func235 rfl Tryz.ntmps235 (go ?_);refine A3 (L:=[v]) (by cases v<;>simp_all [Value.cells,Value.oneCell',ev,argF]) (fun Q A=>?_);refine go ?_;exact AC rfl ⟨rfl,A⟩
theorem weightsIt_ok{K:Value}{X:List Nat}{d:Nat->World->Prop}{D:World->Prop}(w:World)(t:Nat)(v:Value)(l:List Sgn)(H:WtsR K X w.heap.size l d D)(g:Blk w t 22 [v])(p:SlAt sgnR (fun b=>b∉X) w v l)(m:Bk l=true)(R:d 0 w)(s:t∉X):
  Fn Zp 310 [K,pt t] w fun _ w'=>Keep X w w'/\(d l.length w'\/D w'):=by
 obtain⟨y,rfl⟩:=H.fn;obtain⟨a,c,rfl,z⟩:=p.len;refine AN Tryz.func310 rfl Tryz.ntmps310 (go ?_);have n:=g.cell (o:=0) rfl;refine go ?_;refine Ar (α:=Nat) (fun k=>[(0,.func (.yield y) #[] #[]),(1,pt t),(3,iV (Bq (l.take k))),(6,iV (l.length:Int)),(7,iV (k:Int))]) (fun k W=>k<=l.length/\Keep X w W/\d k W) (fun k=>l.length-k) 0 ⟨rfl,rfl,rfl,rfl,rfl,trivial⟩ ⟨by simp,Keep.refl _ _,R⟩ ?_;rintro k W I⟨L,f,r⟩;refine go ?_;by_cases e:k<l.length
 ·obtain⟨x,V⟩:∃x,l[k]?=some x:=⟨_,List.getElem?_eq_getElem e⟩;obtain⟨u,C,E,F,A,M⟩:=prod_bound m V;refine go ?_;refine W_yield rfl rfl (H.step r V) ?_;rintro _ W1⟨Z,G⟩;have q:=f.trans Z (fun _ h _=>h);rcases G with⟨rfl,j⟩|⟨rfl,i⟩
  case inr=>
   refine go ?_;exact fin_ret0 rfl ⟨q,.inr i⟩
  obtain⟨_,b,o,rfl,_,S⟩:=(p.E q (fun _ h=>h)).sig V;have B:=q.cell n s;have Q:W1.cell? ⟨b,o+k*3+2,none⟩=some (iV x.size):=S 2 _ rfl;refine go ?_;refine⟨k+1,⟨rfl,⟨rfl,rfl,?_,rfl,?_,trivial⟩,⟨e,q,j⟩⟩,by omega⟩
  ·exact congrArg (Value.int .i64) (prodS_take V).symm
  ·show iV ((k:Int)+1)=_;rw[Int.natCast_add];rfl
 ·obtain rfl:k=l.length:=by omega
  refine go ?_;exact A1 rfl ⟨f,.inl r⟩
theorem own_last{w:World}{B e n:Nat}{v:Value}{xs zs cs:LV}(h:w.ownsRow B e 5 v (n+1) (xs++zs))(V:xs.length=n*5)(T:cs.length=5):
  ∃g cap L,v=.slice (sm g) (n+1) cap/\B<=g/\Blk w g e L/\n*5+5<=L.length/\∀w',Put w w' g e (splice L (n*5) cs)->w'.ownsRow B e 5 v (n+1) (xs++cs):=by
 obtain⟨K,p⟩:=h;rcases p with⟨_,t⟩|⟨g,cap,G,rfl,s,c,Z,W,R,b⟩
 ·omega
 ·have a:n*5+5<=G.toList.length:=by
   have:(n+1)*5<=cap*5:=Nat.mul_le_mul_right 5 Z;simp;omega
  refine⟨g,cap,G.toList,rfl,s,by simpa[Blk]using c,a,fun w' y=>⟨by simp[V,T];omega,.inr ⟨g,cap,(splice G.toList (n*5) cs).toArray,rfl,s,y.D,Z,W,?_,?_⟩⟩⟩
  ·simp[splice,T];simp at a;omega
  ·have d:G.toList.take (n*5)=xs:=by
    have:=congrArg (List.take (n*5)) b;rw[List.take_take,Nat.min_eq_left U,List.take_append_of_le_length U,<-V,List.take_length]at this;rw[<-V];exact this
   simp only[splice,d];rw[<-List.append_assoc,List.take_append_of_le_length (by simp[V,T];omega),List.take_of_length_le (by simp[V,T];omega)]
section
attribute [local semireducible] WC AT B6 BK Bz Cx DZ By
variable {P:Program}{all:Array Oper}{Z:Fr->DS->List PanicEntry->World->Prop}{K:Fr->DS->World->Prop}{rest:List Oper}{f:Fr}{ds:DS}{w:World}
 {d:Nat}{ty xt yt:TypeId}{pos:String}{af:Array Edge}{x y:Operand}
theorem W_slice_hm{T e size j:Nat}{z:Value}{H p:Operand}{a:Option Addr}{n c:Nat}{k E:IntKind}{h m:Nat}[hT:SlT P T e size j z](V:ev f x=.slice a n c)(M:ev f H=.int k (h:Int))(s:ev f p=.int E (m:Int))(b:h<=m)(W:m<=c)
  (L:AT P all Z K rest (upd f d (.slice a h m)) ds w):AT P all Z K (⟨some d,.slice T x none (some H) (some p),ty,pos,af,none⟩::rest) f ds w:=by
 obtain⟨q,g,_,F,_⟩:=hT.out;refine A0 rfl ?_ L;simp only[execOp,V,M,s,Option.map_some,Option.map_none,Instr.sliceAt,Sem.run_bind,run_underlying hT.und,Result.andThen_ok,Instr.slice,Instr.sliceBounds,Instr.sliceBound,asIntOf,Sem.run_pure,sizeOf,typeInfo,program]
 have e:(if m=0 then a else a.map fun(x:Addr)=>x.add 0)=a:=by
  split
  ·rfl
  ·cases a with
   |none=>rfl
   |some a=>simp[Addr.add]
 simp[Sem.run,g,F,show(m:Int)<=c by omega,b,e]
theorem W_slice_lS{T e size j:Nat}{z:Value}{a:Operand}{b o n c l:Nat}{k:IntKind}[hT:SlT P T e size j z](V:ev f x=.slice (some ⟨b,o,none⟩) n c)(g:ev f a=.int k (l:Int))(i:l<=n)(W:l<c)
  (h:AT P all Z K rest (upd f d (.slice (some ⟨b,o+l*size,none⟩) (n-l) (c-l))) ds w):AT P all Z K (⟨some d,.slice T x (some a) none none,ty,pos,af,none⟩::rest) f ds w:=by
 have e:adv c (l:Int).toNat size (some ⟨b,o,none⟩)=some ⟨b,o+l*size,none⟩:=by
  unfold adv;rw[Int.toNat_natCast,if_neg U];simp[Addr.add_lit]
 refine W_slice_l V g U U ?_;rw[e];exact h
theorem W_clear{T e size j:Nat}{z:Value}{b o n c:Nat}{A:TypeId}{L L0:LV}[hT:SlT P T e size j z][hz:CP P e L0](V:ev f x=.slice (some ⟨b,o,none⟩) n c)(I:0<n)(t:oneC L0)(S:Blk w b A L)(G:o+n*L0.length<=L.length)
  (h:∀w' zs,zs.length=n*L0.length->Put w w' b A (splice L o zs)->AT P all Z K rest f ds w'):AT P all Z K (⟨none,.call ⟨.builtin .clear,#[x],#[T]⟩,ty,pos,af,none⟩::rest) f ds w:=by
 obtain⟨a,F,s⟩:=run_zero (P:=P) (T:=e) w;have r:(Builtin.zeroCells a.cells n).size=n*L0.length:=by simp[Builtin.zeroCells,s]
 have D:∀v∈(Builtin.zeroCells a.cells n).toList,v.oneCell'=true:=by
  intro v p;simp only[Builtin.zeroCells,s,Array.toList_map,List.mem_map]at p;obtain⟨i,H,rfl⟩:=p;have u:i<n*L0.length:=by simpa using H
  have E:0<L0.length:=by
   rcases Nat.eq_zero_or_pos L0.length with h|h
   ·rw[h]at u;omega
   ·exact h
  have B:i%L0.length<L0.length:=Nat.mod_lt _ E;rw[List.size_toArray,getElem!_pos _ _ (by simpa using B)];exact t _ O
 have l:w.heap[b]?=some (.cells L.toArray A (0,0)):=S;have X:=run_storeCells_at P b o A (Builtin.zeroCells a.cells n).toList 0 L.toArray w l (by simp only[Array.length_toList,r,List.size_toArray];omega) D;simp only[Nat.add_zero]at X;refine A0 (v:=.tuple #[]) (w':=w.setRow b (splice L o (Builtin.zeroCells a.cells n).toList).toArray) rfl ?_ (h _ _ (by simp[r]) ⟨⟨rfl,rfl,rfl,by simp[World.setRow],fun k _ q=>setRow_other w b k _ (by simpa using q),fun _=>mark_put (g:=b) (by simp[World.setRow]) (fun k q=>setRow_other w b k _ q) (Unm.cells (setRow_heap w b _ _ A _ l)),Nat.le_refl _⟩,by simp[World.setRow],setRow_heap w b _ _ A _ l⟩);have C:∃m,n=m+1:=⟨n-1,by omega⟩;obtain⟨m,rfl⟩:=C;simp only[execOp,resolve,invoke,builtin,Sem.run_bind,Sem.run_pure,Result.andThen_ok];simp[V,Builtin.clear_,run_underlying hT.und,F];rw[X];simp[splice]
theorem W_eqlD{k:IntKind}{a b:Int}(V:ev f x=.int k a)(E:ev f y=.int k b)(h:AT P all Z K rest (upd f d (.bool (decide (a=b)))) ds w):AT P all Z K (⟨some d,.binOp .eql xt x y yt,ty,pos,af,none⟩::rest) f ds w:=
 Bf V E (fun e=>by rw[decide_eq_true e]at h;exact h) (fun e=>by rw[decide_eq_false e]at h;exact h)
theorem W_field{T i k m:Nat}{L:LV}{v:Value}[hT:Av P T i k m][he:D1 P m](V:ev f x=.agg L.toArray)(p:L[k]?=some v)(h:AT P all Z K rest (upd f d v) ds w):
  AT P all Z K (⟨some d,.field T x i,ty,pos,af,none⟩::rest) f ds w:=by
 refine A0 rfl ?_ h;obtain⟨c,l,a,W,R,B,_⟩:=hT.out;obtain⟨F,Q,e⟩:=he.out
 have D:(isAgg m).run P w=.ok false w:=by
  simp only[isAgg,Sem.run_bind,run_underlying Q,Result.andThen_ok];cases F<;>simp_all [aggD]
 have b:(part m L.toArray k).run P w=.ok v w:=by
  simp only[part,Sem.run_bind,D,Result.andThen_ok];simp[p]
 simp only[execOp,V,Instr.field,Sem.run_bind,run_underlying a,Result.andThen_ok,W,R,B,asAgg,Sem.run_pure,b]
theorem inR_u64{n:Int}(a:0<=n)(W:n<=18446744073709551615):inR .u64 n:=by
 unfold inR;constructor
 ·show IntKind.min .u64<=n;have:IntKind.min .u64=0:=rfl;omega
 ·show n<=IntKind.max .u64;have:IntKind.max .u64=18446744073709551615:=by decide
  omega
theorem W_shrU{a:IntKind}{m n:Nat}(V:ev f x=.int .u64 (m:Int))(E:ev f y=.int a (n:Int))(I:n<=60)(h:AT P all Z K rest (upd f d (.int .u64 ((m/2^n:Nat):Int))) ds w):
  AT P all Z K (⟨some d,.binOp .shr xt x y yt,ty,pos,af,none⟩::rest) f ds w:=by
 have e:(m:Int).fdiv (2^n)=((m/2^n:Nat):Int):=by
  rw[Int.fdiv_eq_ediv_of_nonneg _ (by exact Int.pow_nonneg U)];simp
 exact A0 rfl (by simp only[execOp,V,E,eqGuard,binOp,Op.shift,if_neg (show¬(n:Int)<0 by omega),show min (n:Int).toNat IntKind.u64.bits=n from by rw[Int.toNat_natCast];exact Nat.min_eq_left (by show n<=64;omega),e];simp) h
end
abbrev Wd:=Nat->LU->Int
def yestS(v:Int)(p:Nat->Prop):Nat->Prop
 |0=>v=1
 |t+1=>p t
def sinceS(v:Int)(p q:Nat->Prop):Nat->Prop
 |0=>q 0\/p 0/\v=1
 |t+1=>q (t+1)\/p (t+1)/\sinceS v p q t
def trigS(v:Int)(p q:Nat->Prop):Nat->Prop
 |0=>q 0/\(p 0\/v=1)
 |t+1=>q (t+1)/\(p (t+1)\/trigS v p q t)
def untilS(p q:Nat->Prop)(t:Nat):Prop:=∃k,t<=k/\q k/\∀j,t<=j->j<k->p j
def relS(p q:Nat->Prop)(t:Nat):Prop:=∀k,t<=k->q k\/∃j,t<=j/\j<k/\p j
def opP(s:Wd)(op:Int)(c:LU)(v b:Int)(l:List (Nat->Prop))(p q:Nat->Prop):Nat->Prop:=
 if op=1 then fun _=>True
 else if op=3 then fun t=>s t c=v
 else if op=4 then fun t=>¬p t
 else if op=5 then fun t=>∀a∈l,a t
 else if op=6 then fun t=>∃a∈l,a t
 else if op=7 then fun t=>p t->q t
 else if op=8 then fun t=>p (t+1)
 else if op=9 then untilS p q
 else if op=10 then relS p q
 else if op=11 then untilS (fun _=>True) p
 else if op=12 then relS (fun _=>False) p
 else if op=13 then fun t=>∃k:Nat,(k:Int)<=b/\p (t+k)
 else if op=14 then fun t=>∀k:Nat,(k:Int)<=b->p (t+k)
 else if op=15 then yestS v p
 else if op=16 then sinceS v p q
 else if op=17 then trigS v p q
 else if op=18 then sinceS 0 (fun _=>True) p
 else if op=19 then trigS 1 (fun _=>False) p
 else fun _=>False
def opS(s:Wd)(op:Int)(k:LU)(v b:Int)(l:List (Nat->Prop)):Nat->Prop:=opP s op k v b l (l.getD 0 fun _=>False) (l.getD 1 fun _=>False)
theorem rel_not(p q:Nat->Prop)(t:Nat):relS p q t↔¬untilS (fun i=>¬p i) (fun i=>¬q i) t:=by
 unfold relS untilS;constructor
 ·rintro h⟨k,Z,W,R⟩;rcases h k Z with h|⟨j,a,b,c⟩
  ·exact W h
  ·exact R j a b c
 ·intro h k L;refine Classical.byContradiction fun I=>h ⟨k,L,fun K=>I (.inl K),fun j a b y=>I (.inr ⟨j,a,b,y⟩)⟩
abbrev Vl:=LU->Int
def futB(op:Int):Bool:=decide (8<=op)&&decide (op<=14)
def pstB(op:Int):Bool:=decide (15<=op)&&decide (op<=19)
def looseO(op:Int):Bool:=(decide (1<=op)&&decide (op<=6))||(decide (8<=op)&&decide (op<=10))||(decide (15<=op)&&decide (op<=17))
def BX(op:Int)(n:Nat):Bool:=
 if op=1\/op=2\/op=3 then decide (n=0)
 else if op=5\/op=6 then decide (2<=n)
 else if op=7\/op=9\/op=10\/op=16\/op=17 then decide (n=2)
 else decide (n=1)
def Bs(op:Int)(k:LU)(v b:Int)(n:Nat):Bool:=
 decide (1<=op)&&decide (op<=19)&&BX op n&&decide (0<=v)&&decide (v<=if op=3 then 3 else if op=15\/op=16\/op=17 then 1 else 0)&&
 decide (0<=b)&&decide (b<=if op=13\/op=14 then 9 else 0)&&(if op=3 then BH k else k.isEmpty)
mutual
def Dq:Bool->Fml->Bool
 |i,.mk op nm v b args=>looseO op&&Bs op nm v b args.length&& !(i&&futB op)&&(if op=4 then(match args with|a::_=>decide (a.op=3)| []=>false)else true)&&bareL (i||pstB op) args
def bareL:Bool->LF->Bool
 |_,[]=>true
 |i,a::l=>Dq i a&&bareL i l
end
mutual
def Dc:Fml->Bool
 | .mk op _ _ _ args=> !(decide (op=8)||decide (op=9)||decide (op=10))&&pastL args
def pastL:LF->Bool
 | []=>true
 |a::l=>Dc a&&pastL l
end
theorem bareL_mem:∀{l:LF}{i:Bool}{a:Fml},bareL i l=true->a∈l->Dq i a=true
 | [],_,_,_,h=>by cases h
 |c::l,i,a,h,D=>by
  simp only[bareL,Bool.and_eq_true]at h;rcases List.mem_cons.1 D with rfl|D
  ·exact h.1
  ·exact bareL_mem h.2 D
theorem pastL_mem:∀{l:LF}{a:Fml},pastL l=true->a∈l->Dc a=true
 | [],_,_,h=>by cases h
 |c::l,a,h,D=>by
  simp only[pastL,Bool.and_eq_true]at h;rcases List.mem_cons.1 D with rfl|D
  ·exact h.1
  ·exact pastL_mem h.2 D
theorem pastL_of:∀{l:LF},(∀a∈l,Dc a=true)->pastL l=true
 | [],_=>rfl
 |c::l,h=>by
  simp only[pastL,Bool.and_eq_true];exact⟨h c O,pastL_of fun a D=>h a (by simp[D])⟩
theorem bare_past:∀f:Fml,Dq true f=true->Dc f=true
 | .mk op nm v b args,h=>by
  simp only[Dq,Bool.and_eq_true,Bool.true_and,Bool.true_or,Bool.not_eq_true']at h;have K:=h.2;have P:=h.1.1.2;simp only[Dc,Bool.and_eq_true,Bool.not_eq_true',Bool.or_eq_false_iff,decide_eq_false_iff_not];refine⟨?_,pastL_of fun a D=>bare_past a (bareL_mem K D)⟩;simp only[futB,Bool.and_eq_false_iff,decide_eq_false_iff_not]at P;omega
theorem loose_cases{op:Int}(h:looseO op=true):op=1\/op=2\/op=3\/op=4\/op=5\/op=6\/op=8\/op=9\/op=10\/op=15\/op=16\/op=17:=by
 simp only[looseO,Bool.or_eq_true,Bool.and_eq_true,decide_eq_true_eq]at h;omega
def nowOp(x:Vl)(op:Int)(k:LU)(v:Int)(m:Bool)(l:List Bool):Bool:=
 if op=1 then true
 else if op=3 then decide (x k=v)
 else if op=4 then !(l.getD 0 false)
 else if op=5 then l.all id
 else if op=6 then l.any id
 else if op=15 then m
 else if op=16 then l.getD 1 false||(m&&l.getD 0 false)
 else if op=17 then l.getD 1 false&&(m||l.getD 0 false)
 else false
mutual
def nowG(x:Vl)(says:Fml->Bool):Fml->Bool
 | .mk op nm v b args=>nowOp x op nm v (says (.mk op nm v b args)) (nowGL x says args)
def nowGL(x:Vl)(says:Fml->Bool):LF->List Bool
 | []=>[]
 |a::l=>nowG x says a::nowGL x says l
end
theorem nowGL_eq(x:Vl)(m:Fml->Bool):∀l,nowGL x m l=l.map (nowG x m)
 | []=>rfl
 |a::l=>by rw[nowGL,nowGL_eq x m l];rfl
def saysV(f:Fml):Bool:=decide (f.val=1)
def Ck(x:Vl):Fml->Bool:=nowG x saysV
theorem nowM_eq(x:Vl)(op:Int)(k:LU)(v b:Int)(args:LF):Ck x (.mk op k v b args)=nowOp x op k v (decide (v=1)) (args.map (Ck x)):=by
 unfold Ck;rw[nowG,nowGL_eq];rfl
theorem two_args{l:LF}(h:l.length=2):∃a c,l=[a,c]:=by
 match l,h with
 | [a,c],_=>exact⟨a,c,rfl⟩
theorem one_arg{l:LF}(h:l.length=1):∃a,l=[a]:=by
 match l,h with
 | [a],_=>exact⟨a,rfl⟩
theorem bare_arity{op v b:Int}{k:LU}{n:Nat}(h:Bs op k v b n=true):BX op n=true:=by
 simp only[Bs,Bool.and_eq_true]at h;exact h.1.1.1.1.1.2
def bitI(b:Bool):Int:=if b then 1 else 0
def agedV(x:Vl)(op:Int)(v:Int)(first n:Bool):Int:=if op=15 then bitI first else if op=16\/op=17 then bitI n else v
mutual
def aged(x:Vl):Fml->Fml
 | .mk op nm v b args=>.mk op nm (agedV x op v ((args.map (Ck x)).getD 0 false) (Ck x (.mk op nm v b args))) 0 (agedL x args)
def agedL(x:Vl):LF->LF
 | []=>[]
 |a::l=>aged x a::agedL x l
end
theorem agedL_eq(x:Vl):∀l,agedL x l=l.map (aged x)
 | []=>rfl
 |a::l=>by rw[agedL,agedL_eq x l];rfl
def trueF:Fml:=⟨1,[],0,0,[]⟩
def falseF:Fml:=⟨2,[],0,0,[]⟩
def constF(b:Bool):Fml:=if b then trueF else falseF
def opF(op:Int)(l:LF):Fml:=⟨op,[],0,0,l⟩
def rawOp(op:Int)(a:Fml)(n m:LF):Fml:=
 if op=5\/op=6 then opF op n
 else if op=8 then m.getD 0 Am
 else if op=9 then opF 6 [n.getD 1 Am,opF 5 [n.getD 0 Am,a]]
 else if op=10 then opF 5 [n.getD 1 Am,opF 6 [n.getD 0 Am,a]]
 else Am
mutual
def rawF(x:Vl):Fml->Fml
 | .mk op nm v b args=>if Dc (.mk op nm v b args)then constF (Ck x (.mk op nm v b args))else rawOp op (aged x (.mk op nm v b args)) (rawL x args) (agedL x args)
def rawL(x:Vl):LF->LF
 | []=>[]
 |a::l=>rawF x a::rawL x l
end
theorem rawL_eq(x:Vl):∀l,rawL x l=l.map (rawF x)
 | []=>rfl
 |a::l=>by rw[rawL,rawL_eq x l];rfl
theorem D_leaf{P:Program}{ops:Array Oper}{Z:Fr->DS->List PanicEntry->World->Prop}{K:Fr->DS->World->Prop}{S:World->Prop}{T:DT}{f:Fr}{ds:DS}{w:World}{α:Type}(t:DT)(L:α->List (Nat×Value))(I:α->World->Prop)
  (a:∀x l w',I x w'->Cl P ops Z K t S (ov (L x) l) ds w')(W:(∀x l w',agr (L x) l->I x w'->Cl P ops Z K t S l ds w')->Cl P ops Z K T S f ds w):Cl P ops Z K T S f ds w:=
 W fun x l w' D z=>by have:=a x l w' z;rwa [ov_of_agr D]at this
def Dj(op:Int):Int:=if op=7\/op=13 then 6 else if op=14 then 5 else if op=11 then 9 else if op=12 then 10 else if op=18 then 16 else if op=19 then 17 else op
theorem full_ok(w:World)(op:Int):Fn Zp 150 [iV op] w fun u w'=>u=iV (Dj op)/\w'=w:=by
 unfold Dj;refine AN Tryz.func150 rfl Tryz.ntmps150 (go ?_);by_cases K:op=7
 ·rw[if_pos (.inl K)];exact FW
 ·by_cases h:op=13
  ·rw[if_pos (.inr h)];exact FW
  ·rw[if_neg U];refine go ?_;by_cases a:op=14
   ·rw[if_pos a];exact FW
   ·rw[if_neg a];refine go ?_;by_cases g:op=11
    ·rw[if_pos g];exact FW
    ·rw[if_neg g];refine go ?_;by_cases n:op=12
     ·rw[if_pos n];exact FW
     ·rw[if_neg n];refine go ?_;by_cases f:op=18
      ·rw[if_pos f];exact FW
      ·rw[if_neg f];refine go ?_;by_cases e:op=19
       ·rw[if_pos e];exact FW
       ·rw[if_neg e];exact FW
theorem own_nil(w:World)(B e:Nat):w.ownsRow B e 5 (.slice none 0 0) 0 []:=⟨rfl,.inl ⟨rfl,rfl⟩⟩
theorem own_set{w:World}{B n c:Nat}{T:TypeId}{d:LV}{R:Value}{xs cs:LV}(m:w.ownsRow B 37 5 R (n+1) (xs++zero5))(V:xs.length=n*5)(C:cs.length=5)(S:Blk w c T d)(p:∀g,R.ownBlock=some g->g≠c):∃g cap M,R=.slice (sm g) (n+1) cap/\B<=g/\Blk w g 37 M/\n*5+5<=M.length/\
  (∀Q N,Put w Q g 37 (splice M (n*5) cs)->Put Q N c T (d.set 4 R)->Keep [g,c] w N/\Blk N c T (d.set 4 R)/\N.ownsRow B 37 5 R (n+1) (xs++cs))/\
  (∀Q N,Put w Q c T (d.set 4 R)->Put Q N g 37 (splice M (n*5) cs)->Keep [g,c] w N/\Blk N c T (d.set 4 R)/\N.ownsRow B 37 5 R (n+1) (xs++cs)):=by
 obtain⟨g,cap,M,rfl,q,l,A,r⟩:=own_last m V C;have k:c≠g:=fun e=>p g rfl e.symm
 refine⟨g,cap,M,rfl,q,l,A,fun Q N u b=>⟨(u.E.mono fun x h=>by simp at h;simp[h]).trans b.E fun x h _=>by simp at h;simp[h],b.D,Ai (r Q u) b.E fun f a=>by cases a;simpa using k.symm⟩,
  fun Q N u b=>⟨(u.E.mono fun x h=>by simp at h;simp[h]).trans b.E fun x h _=>by simp at h;simp[h],u.D.E b.E (by simpa using k),?_⟩⟩
 obtain⟨f,t,j,o,_,i,_,s⟩:=own_last (Ai m u.E fun f a=>by cases a;simpa using k.symm) V C;cases o
 obtain rfl:j=M:=by
  have Z:=l.E u.E (by simpa using k.symm);unfold Blk at Z i;rw[Z]at i;have:=Option.some.inj i;simpa using(Obj.cells.inj this).1.symm
 exact s N b
end
theorem gl{α:Type}{l:List α}{k:Nat}(h:k<l.length):∃x,l[k]?=some x:=⟨_,List.getElem?_eq_getElem h⟩
theorem nk(k:Nat):iV ((k:Int)+1)=iV ((k+1:Nat):Int):=by rw[Int.natCast_add];rfl
theorem ag{p:Prop}(h:p:=by repeat' first|exact trivial|refine⟨rfl,?_⟩|refine⟨nk _,?_⟩):p:=h
section
variable {mk:Prop}[MK mk]{X:List Nat}{w w':World}{ok:Nat->Prop}
theorem FAt.keep'{v:Value}{f:Fml}(k:Keep X w w')(h:FAt ok w v f)(a:∀b,ok b->b∉X):FAt ok w' v f:=h.E k a
theorem FsAt.keep'{L:List (LV)}{l:LF}(k:Keep X w w')(h:FsAt ok w L l)(a:∀b,ok b->b∉X):FsAt ok w' L l:=h.E k a
theorem RsAt.keep'{α:Type}{R:Rp α}{L:List (LV)}{l:List α}(k:Keep X w w')(h:RsAt R ok w L l)(a:∀b,ok b->b∉X):RsAt R ok w' L l:=h.E k a
theorem SlAt.keep'{α:Type}{R:Rp α}{v:Value}{l:List α}(k:Keep X w w')(h:SlAt R ok w v l)(a:∀b,ok b->b∉X):SlAt R ok w' v l:=h.E k a
theorem PF.keep'{b o:Nat}{f:Fml}(k:Keep X w w')(h:PF ok w b o f)(a:∀b,ok b->b∉X):PF ok w' b o f:=h.E k a
end
section
variable {mk:Prop}[MK mk]
abbrev BS:=Int×Bool
def tkB(s:BS)(d:Int):BS:=(s.1-1,s.2||(decide (s.1-1<0)||decide (d<1)))
def dualM(op:Int):Int:=if op=1 then 2 else if op=2 then 1 else if op=5 then 6 else if op=6 then 5 else if op=9 then 10 else if op=10 then 9 else if op=16 then 17 else if op=17 then 16 else op
def negM(neg:Bool)(op:Int):Int:=if neg then dualM op else op
def lnB(op v:Int)(d:Int)(s:BS):Int×LF×BS:=if(tkB s (d-1)).2 then(v,[],tkB s (d-1))else(if op=17 then 1 else v,[⟨if op=9\/op=16 then 1 else 2,[],0,0,[]⟩],tkB s (d-1))
def isLn(op:Int):Bool:=decide (op=11)||decide (op=12)||decide (op=18)||decide (op=19)
def isPs(op:Int):Bool:=decide (op=15)||decide (op=16)||decide (op=17)
def D3(op v:Int)(neg:Bool):Int:=if isPs op&&neg then 1-v else v
def bdB(op:Int)(neg:Bool)(g:Int->BS->Fml×BS):Nat->Int->BS->Fml×BS
 |0,d,s=>g d s
 |n+1,d,s=>if s.2 then(Am,s)else if(tkB s d).2 then(Am,tkB s d)else if(tkB (tkB s d) (d-1)).2 then(Am,tkB (tkB s d) (d-1))else
  let r:=g (d-1) (tkB (tkB s d) (d-1));let q:=bdB op neg g n (d-2) r.2
  (⟨negM neg (Dj op),[],0,0,[r.1,⟨8,[],0,0,[q.1]⟩]⟩,q.2)
mutual
def fmB:Fml->Bool->Int->BS->Fml×BS
 | .mk op nm v b args,neg,d,s=>
  if s.2 then(Am,s)
  else if op=4 then fm0 args (!neg) d s
  else if op=3/\neg=true then(if(tkB s d).2 then(Am,tkB s d)else if(tkB (tkB s d) (d-1)).2 then(Am,tkB (tkB s d) (d-1))else(⟨4,[],0,0,[⟨3,nm,v,0,[]⟩]⟩,tkB (tkB s d) (d-1)))
  else if op=13\/op=14 then bdB op neg (fm0 args neg) b.toNat d s
  else if(tkB s d).2 then(Am,tkB s d)
  else
   let ln:=if isLn op then lnB (negM neg (Dj op)) (D3 op v neg) d (tkB s d)else(D3 op v neg,[],tkB s d)
   let r:=fmL (op==7) args neg (d-1) ln.2.2
   (⟨negM neg (Dj op),nm,ln.1,0,ln.2.1++r.1⟩,r.2)
def fm0:LF->Bool->Int->BS->Fml×BS
 | [],_,_,s=>(Am,s)
 |a::_,neg,d,s=>fmB a neg d s
def fmL:Bool->LF->Bool->Int->BS->LF×BS
 |_,[],_,_,s=>([],s)
 |turn,a::l,neg,d,s=>let r:=fmB a (neg !=turn) d s;let q:=fmL false l neg d r.2;(r.1::q.1,q.2)
end
def bsOk(s:BS):Prop:= -1<=s.1/\s.1<=1000/\(s.2=false->0<=s.1)
theorem tk_ok{s:BS}{d:Int}(h:bsOk s)(t:s.2=false):bsOk (tkB s d)/\((tkB s d).2=false->1<=d):=by
 obtain⟨Z,W,R⟩:=h;have:=R t;unfold tkB bsOk;simp only[t,Bool.false_or,Bool.or_eq_false_iff,decide_eq_false_iff_not];refine⟨⟨by omega,by omega,fun h=>by omega⟩,fun h=>by omega⟩
abbrev BAt(w:World)(d:Nat)(s:BS):Prop:=Blk w d 152 [iV s.1,.bool s.2]
theorem gtake_ok(w:World)(a:Nat)(s:BS)(d:Int)(S:BAt w a s)(F:bsOk s):
  Fn Zp 148 [pt a,iV d] w fun u w'=>u=.bool (!(tkB s d).2)/\Keep [a] w w'/\BAt w' a (tkB s d):=by
 obtain⟨l,ov⟩:=s;obtain⟨Z,W,_⟩:=F;simp only at Z W;refine AN Tryz.func148 rfl Tryz.ntmps148 (go ?_);refine AU (v:=iV (l-1)) rfl rfl rfl S O (fun Q b=>?_);have n:Blk Q a 152 [iV (l-1),.bool ov]:=b.D;refine go ?_;by_cases K:l-1<0
 ·refine go ?_;refine AU (v:=.bool true) rfl rfl rfl n O (fun N c=>?_);have j:Blk N a 152 [iV (l-1),.bool true]:=c.D;refine go ?_;have e:tkB (l,ov) d=(l-1,true):=by simp[tkB,K]
  rw[e];exact AC rfl ⟨rfl,b.E.trans c.E (fun x h _=>h),j⟩
 ·by_cases C:d<1
  ·refine go ?_;refine AU (v:=.bool true) rfl rfl rfl n O (fun N c=>?_);have j:Blk N a 152 [iV (l-1),.bool true]:=c.D;refine go ?_;have e:tkB (l,ov) d=(l-1,true):=by simp[tkB,C]
   rw[e];exact AC rfl ⟨rfl,b.E.trans c.E (fun x h _=>h),j⟩
  ·refine go ?_;have e:tkB (l,ov) d=(l-1,ov):=by simp[tkB,K,C]
   rw[e];exact AC rfl ⟨rfl,b.E,n⟩
theorem dual_ok(w:World)(op:Int):Fn Zp 151 [iV op] w fun u w'=>u=iV (dualM op)/\w'=w:=by
 unfold dualM;refine AN Tryz.func151 rfl Tryz.ntmps151 (go ?_);by_cases Z:op=1
 ·rw[if_pos Z];refine go ?_;exact AC rfl ⟨rfl,rfl⟩
 rw[if_neg Z];by_cases W:op=2
 ·rw[if_pos W];refine go ?_;exact AC rfl ⟨rfl,rfl⟩
 rw[if_neg W];by_cases R:op=5
 ·rw[if_pos R];refine go ?_;exact AC rfl ⟨rfl,rfl⟩
 rw[if_neg R];by_cases B:op=6
 ·rw[if_pos B];refine go ?_;exact AC rfl ⟨rfl,rfl⟩
 rw[if_neg B];by_cases d:op=9
 ·rw[if_pos d];refine go ?_;exact AC rfl ⟨rfl,rfl⟩
 rw[if_neg d];by_cases k:op=10
 ·rw[if_pos k];refine go ?_;exact AC rfl ⟨rfl,rfl⟩
 rw[if_neg k];by_cases K:op=16
 ·rw[if_pos K];refine go ?_;exact AC rfl ⟨rfl,rfl⟩
 rw[if_neg K];by_cases i:op=17
 ·rw[if_pos i];refine go ?_;exact AC rfl ⟨rfl,rfl⟩
 rw[if_neg i];exact FW
structure Form where
 least:Int
 most:Int
 val:Int
 bound:Int
 named:Bool
 past:Bool
 future:Bool
 loose:Bool
def formsL:List Form:=[⟨0,0,0,0,false,false,false,false⟩,⟨0,0,0,0,false,false,false,true⟩,⟨0,0,0,0,false,false,false,true⟩,⟨0,0,3,0,true,false,false,true⟩,⟨1,1,0,0,false,false,false,true⟩,
 ⟨2,1099511627776,0,0,false,false,false,true⟩,⟨2,1099511627776,0,0,false,false,false,true⟩,⟨2,2,0,0,false,false,false,false⟩,⟨1,1,0,0,false,false,true,true⟩,⟨2,2,0,0,false,false,true,true⟩,
 ⟨2,2,0,0,false,false,true,true⟩,⟨1,1,0,0,false,false,true,false⟩,⟨1,1,0,0,false,false,true,false⟩,⟨1,1,0,9,false,false,true,false⟩,⟨1,1,0,9,false,false,true,false⟩,
 ⟨1,1,1,0,false,true,false,true⟩,⟨2,2,1,0,false,true,false,true⟩,⟨2,2,1,0,false,true,false,true⟩,⟨1,1,0,0,false,true,false,false⟩,⟨1,1,0,0,false,true,false,false⟩]
def CJ(x:Form):LV:=[iV x.least,iV x.most,iV x.val,iV x.bound,.bool x.named,.bool x.past,.bool x.future,.bool x.loose]
def formC:LV:=formsL.flatMap CJ
def GF(w:World):Prop:=Cells w 2 0 formC
theorem GF.E{X:List Nat}{w w':World}(h:GF w)(k:Keep X w w')(b:∀x∈X,10<=x):GF w':=Cells.E h k (fun V=>by have:=b _ V;revert this;decide)
theorem GF.ext{w w':World}(h:GF w)(k:Ext w w'):GF w':=h.E k fun x V=>by cases V
def zeroForm:Form:=⟨0,0,0,0,false,false,false,false⟩
def isOpB(n:Int):Bool:=decide (1<=n)&&decide (n<20)
def Bd(n:Int):Form:=if isOpB n then formsL.getD n.toNat zeroForm else zeroForm
theorem formC_at:∀(l:List Form)(k i:Nat)(x:Form)(u:Value),l[k]?=some x->(CJ x)[i]?=some u->(l.flatMap CJ)[k*8+i]?=some u
 | [],_,_,_,_,h,_=>by simp at h
 |y::l,0,i,x,u,h,hu=>by
  obtain rfl:y=x:=by simpa using h
  rw[List.flatMap_cons,Nat.zero_mul,Nat.zero_add,List.getElem?_append_left (List.getElem?_eq_some_iff.1 hu).1,hu]
 |y::l,k+1,i,x,u,h,hu=>by
  have:=formC_at l k i x u Ed hu;rw[List.flatMap_cons,List.getElem?_append_right (by simp[CJ];omega),show(k+1)*8+i-(CJ y).length=k*8+i by simp[CJ];omega,this]
theorem formC_one(x:Form):oneC (CJ x):=by
 intro u g;simp[CJ]at g;rcases g with rfl|rfl|rfl|rfl|rfl|rfl|rfl|rfl<;>rfl
theorem formOf_ok(w:World)(n:Int)(X:GF w):Fn Zp 147 [iV n] w fun v w'=>v=.tuple #[.agg (CJ (Bd n)).toArray,.bool (isOpB n)]/\Ext w w':=by
 refine AN Tryz.func147 rfl Tryz.ntmps147 (go ?_);refine AY (fun Q A=>?_);have a:Blk Q w.heap.size 221 (CJ zeroForm):=A.D;have Z:=A.E;refine AO (AE rfl ?_);repeat refine nx rfl ?_
 by_cases I:1<=n/\n<20
 ·have S:isOpB n=true:=by simp[isOpB,I]
  obtain⟨k,rfl⟩:∃k:Nat,n=(k:Int):=⟨n.toNat,by omega⟩;obtain⟨x,V⟩:∃x,formsL[k]?=some x:=⟨_,List.getElem?_eq_getElem (by show k<20;omega)⟩;have s:Bd (k:Int)=x:=by unfold Bd;rw[if_pos S];simp[List.getD_eq_getElem?_getD,V]
  have t:Cells Q 2 (0+(k:Int).toNat*8) (CJ x):=by
   intro i u g;have:=(X.ext Z) (k*8+i) u (formC_at formsL k i x u V g);rw[Nat.add_assoc];exact this
  rw[S,s];(refine AJ (AS rfl ?_)<;>(refine C6 rfl rfl (fun T=>?_) (fun T=>?_)<;>try omega)<;>refine AE rfl (AK rfl (AS rfl ?_))<;>(refine AK rfl ?_;(refine W_geq rfl rfl (fun T=>?_) (fun T=>?_)<;>try omega))<;>refine Ad rfl (AE rfl ?_))
  repeat first|refine nx rfl ?_|refine nf rfl ?_
  refine AJ (AS rfl ?_);refine EH rfl rfl U U ?_;refine AQ (L:=CJ x) rfl rfl t ?_;refine AI (cs:=CJ x) rfl rfl rfl (formC_one x) a (by simp[CJ]) (fun N c=>?_);refine AO (AE rfl ?_);repeat refine nx rfl ?_
  exact BB (L:=CJ x) rfl rfl rfl c.D.cells ⟨rfl,Z.E c.E O⟩
 ·have S:isOpB n=false:=by simp[isOpB];omega
  have s:Bd n=zeroForm:=by unfold Bd;rw[if_neg (by simp[S])]
  rw[S,s];(refine AJ (AS rfl ?_)<;>(refine C6 rfl rfl (fun T=>?_) (fun T=>?_)<;>try omega)<;>refine AE rfl ?_<;>(first|refine Ah rfl ?_|(refine AK rfl ?_;refine AS rfl ?_))<;>(first|refine Ah rfl ?_|(refine AK rfl ?_;(refine W_geq rfl rfl (fun T=>?_) (fun T=>?_)<;>try omega)))<;>((first|refine Ae rfl ?_|refine Ad rfl ?_);refine AE rfl ?_)<;>refine AA ?_)
  all_goals
   repeat refine nx rfl ?_
   refine AJ (BO EQ EQ ?_);refine AI (cs:=CJ zeroForm) rfl rfl rfl (formC_one _) a (by simp[CJ]) (fun N c=>?_);refine AO (AE rfl ?_);repeat refine nx rfl ?_
   exact BB (L:=CJ zeroForm) rfl rfl rfl c.D.cells ⟨rfl,Z.E c.E O⟩
end
mutual
def szF:Fml->Nat
 | .mk _ _ _ _ args=>szL args+1
def szL:LF->Nat
 | []=>0
 |a::l=>szF a+szL l
end
theorem BL(f:Fml):szF f=szL f.args+1:=by cases f;simp[szF,Fml.args]
theorem C1(f:Fml):1<=szF f:=by rw[BL];omega
theorem CE:∀l:LF,l.length<=szL l
 | []=>by simp
 |a::l=>by have:=C1 a;have:=CE l;simp only[szL,List.length_cons];omega
theorem Bb:∀{l:LF}{a:Fml},a∈l->szF a<=szL l
 |c::l,a,h=>by
  simp only[szL];rcases List.mem_cons.1 h with rfl|h
  ·omega
  ·have:=Bb h;omega
mutual
def dpF:Fml->Nat
 | .mk _ _ _ _ args=>dpL args+1
def dpL:LF->Nat
 | []=>0
 |f::l=>max (dpF f) (dpL l)
end
theorem CX(f:Fml):dpF f=dpL f.args+1:=by cases f;simp[dpF,Fml.args]
theorem Ce:∀{l:LF}{a:Fml},a∈l->dpF a<=dpL l
 |c::l,a,h=>by
  simp only[dpL];rcases List.mem_cons.1 h with rfl|h
  ·omega
  ·have:=Ce h;omega
section
variable {mk:Prop}[MK mk]
abbrev Nd:=Fml×Bool
mutual
def Dp(i:Bool):Fml->List Nd
 | .mk op nm v b args=>(.mk op nm v b args,i)::DE (i||(Bd op).past) args
def DE(i:Bool):LF->List Nd
 | []=>[]
 |f::l=>Dp i f++DE i l
end
theorem preF_eq(i:Bool)(f:Fml):Dp i f=(f,i)::DE (i||(Bd f.op).past) f.args:=by cases f;simp[Dp,Fml.args,Fml.op]
theorem preL_app(i:Bool):∀l m:LF,DE i (l++m)=DE i l++DE i m
 | [],m=>rfl
 |f::l,m=>by simp[DE,preL_app i l m]
theorem preL_take(i:Bool){l:LF}{k:Nat}{x:Fml}(h:l[k]?=some x):DE i (l.take (k+1))=DE i (l.take k)++Dp i x:=by
 rw[List.take_add_one,h,Option.toList_some,preL_app];simp[DE]
structure NodesR(yv:Value)(X:List Nat)(B:Nat)(P:List Nd)(J D:List Nd->World->Prop):Prop where
 fn:∃y,yv=.func (.yield y) #[] #[]
 glob:∀x∈X,10<=x
 E:∀{L:List Nd}{W W':World}{Y:List Nat},J L W->Keep Y W W'->(∀y∈Y,B<=y)->J L W'
 step:∀{L:List Nd}{W:World}{b o:Nat}{f:Fml}{i:Bool},J L W->PF (fun b=>b∉X/\b<B) W b o f->L++[(f,i)]<+:P->YldP Zp yv [.pointer (some ⟨b,o,none⟩),.bool i] W (fun v W'=>Keep X W W'/\((v=.bool true/\J (L++[(f,i)]) W')\/(v=.bool false/\D (L++[(f,i)]) W'))) fun _ _=>False
theorem PF.opc{ok:Nat->Prop}{w:World}{b o:Nat}{f:Fml}(h:PF ok w b o f):w.cell? ⟨b,o+0,none⟩=some (iV f.op):=by
 obtain⟨_,a,c,L,T,_⟩:=h.form;exact T 0 _ rfl
theorem PF.arg{ok:Nat->Prop}{w:World}{b o:Nat}{f:Fml}(h:PF ok w b o f):∃a c,f.args.length<=9223372036854775807/\w.cell? ⟨b,o+4,none⟩=some (.slice a f.args.length c)/\∀(k:Nat)(x:Fml),f.args[k]?=some x->∃v e,a=some ⟨v,e,none⟩/\PF ok w v (e+k*5) x:=by
 obtain⟨_,a,c,L,T,l,Z,W,R⟩:=h.form;refine⟨a,c,by obtain⟨_,_,p,Q,j,_⟩:=id l;cases p;omega,T 4 _ rfl,fun k x V=>?_⟩;have i:k<f.args.length:=(List.getElem?_eq_some_iff.1 V).1;obtain⟨d,C⟩:∃d,L[k]?=some d:=⟨_,List.getElem?_eq_getElem U⟩;obtain⟨v,e,rfl,S,g⟩:=l.fml W C i;exact⟨v,e,rfl,S,d,W d (List.mem_of_getElem? C),g,R k d x C V⟩
theorem NodesR.ext{K:Value}{X:List Nat}{B:Nat}{P:List Nd}{a D:List Nd->World->Prop}(H:NodesR K X B P a D){L:List Nd}{W Z:World}(h:a L W)(k:Ext W Z):a L Z:=H.E h k fun _ h=>by cases h
theorem visit_ok{yv:Value}{X:List Nat}{B:Nat}{P:List Nd}{C D:List Nd->World->Prop}(H:NodesR yv X B P C D)(S m F:Nat)(h4:m∉X)(I:F∉X):∀(n:Nat)(w:World)(b o:Nat)(f:Fml)(i:Bool)(d:Nat)(L:List Nd),dpF f<=n->d+n<=5000->PF (fun b=>b∉X/\b<B) w b o f->GF w->
  Blk w m 253 [yv]->Blk w F 257 [.func (.func 206) #[] #[pt S,pt m,pt F]]->C L w->L++Dp i f<+:P->
  Fn Zp 206 [.pointer (some ⟨b,o,none⟩),.bool i,iV d,pt S,pt m,pt F] w fun v w'=>Keep X w w'/\((v=.bool true/\C (L++Dp i f) w')\/(v=.bool false/\∃M,M<+:Dp i f/\M≠[]/\D (L++M) w')):=by
 intro n
 induction n with
 |zero=>intro w b o f i d L hn;rw[CX]at hn;omega
 |succ n ih=>
 intro w b o f i d L hn hd hf hG b4 b5 hJ hP;rw[CX]at hn;have c4:d<5000:=by omega
 obtain⟨y,rfl⟩:=H.fn;refine AN Tryz.func206 rfl Tryz.ntmps206 (go ?_);refine W_yield rfl rfl (H.step hJ hf (((List.prefix_append_right_inj L).2 (by rw[preF_eq];exact⟨_,rfl⟩)).trans hP)) ?_;rintro _ w1⟨Z,G⟩;rcases G with⟨rfl,b9⟩|⟨rfl,K⟩
 case inr=>
  refine go ?_;exact AC rfl ⟨Z,.inr ⟨rfl,[(f,i)],by rw[preF_eq];exact⟨_,rfl⟩,by simp,K⟩⟩
 have hf1:=hf.E Z (fun _ h=>h.1);have b2:=hG.E Z H.glob;have b7:=b4.E Z h4;have b8:=b5.E Z I;refine go ?_;have c5:=hf1.opc;refine go ?_;refine AF (formOf_ok w1 f.op b2) rfl ?_;rintro _ w2⟨rfl,k2⟩;refine go ?_;refine A2 (cs:=CJ (Bd f.op)) rfl rfl EQ (formC_one _) (fun z n3=>go ?_);have A:=k2.trans n3.E;have b3:=n3.D;have a7:=hf1.E A (fun _ _=>by simp);have hG3:=b2.ext A;have b0:=b7.E A O;have b1:=b8.E A O;have b6:Keep X w z:=Z.ext A;have hJ3:=H.ext b9 A;have c6:z.cell? ⟨w2.heap.size,0+5,none⟩=some (.bool (Bd f.op).past):=b3.cell rfl;obtain⟨a3,c1,c2,c3,_⟩:=a7.arg;cases i with
 |true=>
  refine go ?_;refine Ar (α:=Nat) (fun k=>[(0,.pointer (some ⟨b,o,none⟩)),(1,.bool true),(2,iV (d:Int)),(5,pt F),(43,iV (f.args.length:Int)),(44,iV (k:Int))]) (fun k W=>k<=f.args.length/\Keep X w W/\Ext z z/\C (L++((f,true)::DE true (f.args.take k))) W/\GF W/\PF (fun b=>b∉X/\b<B) W b o f/\Blk W m 253 [.func (.yield y) #[] #[]]/\Blk W F 257 [.func (.func 206) #[] #[pt S,pt m,pt F]]) (fun k=>f.args.length-k) 0 ag ⟨by omega,b6,Ext.refl _,by simpa[DE]using hJ3,hG3,a7,b0,b1⟩ ?_;rintro k W fr⟨hk,q,_,j,Q,t,E,s⟩;refine go ?_;by_cases R:k<f.args.length
  ·refine go ?_;obtain⟨x,l⟩:∃x,f.args[k]?=some x:=⟨_,List.getElem?_eq_getElem R⟩;obtain⟨aa,cc,_,a4,a6⟩:=t.arg;obtain⟨p,u,rfl,a9⟩:=a6 k x l
   have a8:f.args=f.args.take k++x::f.args.drop (k+1):=by
    exact Ga
   have T:DE true f.args=DE true (f.args.take k)++(Dp true x++DE true (f.args.drop (k+1))):=by
    conv=>lhs;rw[a8,preL_app]
    simp[DE]
   have hPx:(L++((f,true)::DE true (f.args.take k)))++Dp true x<+:P:=by
    refine List.IsPrefix.trans ?_ hP;rw[preF_eq true f,List.append_assoc,List.prefix_append_right_inj];show _<+:(f,true)::DE true f.args;rw[T,List.cons_append,List.prefix_cons_inj,List.prefix_append_right_inj];exact List.prefix_append _ _
   have a5:dpF x<=n:=by have:=Ce (List.mem_of_getElem? l);omega
   refine Ac (rd 0 10 (.alt 10 (.read 11 .done) .stop)) Ap EO (fun N a ed=>⟨Keep X N,?_,?_⟩)
   ·exact Ff
   have r:∀V,Keep X N V->V.cell? ⟨F,0,none⟩=some (.func (.func 206) #[] #[pt S,pt m,pt F]):=fun V e=>((s.E a O).E e I).cell rfl;have cb:∀V,Keep X N V->V.cell? ⟨b,o+4,none⟩=some (.slice (some ⟨p,u,none⟩) f.args.length cc):=fun V e=>e.cell (a.cell a4 O) t.1.1;((refine D_R rfl rfl (fun W g=>AH rfl (r W g) dz) ?_)<;>(refine D_R rfl rfl (fun W g=>AX rfl dz) ?_)<;>(refine D_R rfl rfl (fun W g=>AG rfl dz) ?_)<;>(refine D_R rfl rfl (fun W g=>AB rfl dz) ?_)<;>(refine D_R rfl rfl (fun W g=>AH rfl (cb W g) dz) ?_)<;>(refine D_R rfl rfl (fun W g=>AS rfl dz) ?_)<;>(apply D_R rfl rfl;(intro W g;refine CG rfl rfl rfl U ?_;exact AA ⟨rfl,rfl,rfl⟩))<;>(refine D_R rfl rfl (fun W g=>AE rfl dz) ?_)<;>(refine D_R rfl rfl (fun W g=>AS rfl dz) ?_)<;>(apply D_R rfl rfl;(intro W g;refine W_add rfl rfl Ea ?_;exact AA ⟨rfl,rfl,rfl⟩)))
   refine D_E rfl ?_;refine A9 (v1:=[]) (v2:=[pt S,pt m,pt F]) (vs:=[.pointer (some ⟨p,u+k*5,none⟩),.bool true,iV ((d:Int)+1)]) rfl (ih N p (u+k*5) x true (d+1) _ a5 U (a9.E a (fun _ _=>by simp)) (Q.ext a) (E.E a O) (s.E a O) (H.ext j a) hPx) rfl ?_;rintro _ w4⟨c,G⟩;refine AA ⟨Keep X N,fun _ e=>e,c,?_⟩;have a0:Keep X w w4:=(q.ext a).trans c (fun _ l _=>l);rcases G with⟨rfl,a1⟩|⟨rfl,M,a2,c0,K⟩
   ·refine go ?_;refine⟨k+1,⟨rfl,⟨rfl,rfl,rfl,rfl,rfl,?_,trivial⟩,⟨by omega,a0,Ext.refl _,?_,(Q.ext a).E c H.glob,(t.E a (fun _ _=>by simp)).E c (fun _ h=>h.1),(E.E a O).E c h4,(s.E a O).E c I⟩⟩,by omega⟩
    ·show iV ((k:Int)+1)=_;rw[Int.natCast_add];rfl
    ·rw[preL_take _ l];simpa using a1
   ·refine go ?_;refine AC rfl ⟨a0,.inr ⟨rfl,(f,true)::DE true (f.args.take k)++M,?_,by simp,by simpa using K⟩⟩;rw[preF_eq];show _<+:(f,true)::DE true f.args;exact Gl
  ·refine go ?_;rw[List.take_of_length_le U]at j;refine AC rfl ⟨q,.inl ⟨rfl,by rw[preF_eq];exact j⟩⟩
 |false=>
  refine go ?_;refine Ar (α:=Nat) (fun k=>[(0,.pointer (some ⟨b,o,none⟩)),(1,.bool (Bd f.op).past),(2,iV (d:Int)),(5,pt F),(43,iV (f.args.length:Int)),(44,iV (k:Int))]) (fun k W=>k<=f.args.length/\Keep X w W/\Ext z z/\C (L++((f,false)::DE (Bd f.op).past (f.args.take k))) W/\GF W/\PF (fun b=>b∉X/\b<B) W b o f/\Blk W m 253 [.func (.yield y) #[] #[]]/\Blk W F 257 [.func (.func 206) #[] #[pt S,pt m,pt F]]) (fun k=>f.args.length-k) 0 ag ⟨by omega,b6,Ext.refl _,by simpa[DE]using hJ3,hG3,a7,b0,b1⟩ ?_;rintro k W fr⟨hk,q,_,j,Q,t,E,s⟩;refine go ?_;by_cases R:k<f.args.length
  ·refine go ?_;obtain⟨x,l⟩:∃x,f.args[k]?=some x:=⟨_,List.getElem?_eq_getElem R⟩;obtain⟨aa,cc,_,a4,a6⟩:=t.arg;obtain⟨p,u,rfl,a9⟩:=a6 k x l
   have a8:f.args=f.args.take k++x::f.args.drop (k+1):=by
    exact Ga
   have T:DE (Bd f.op).past f.args=DE (Bd f.op).past (f.args.take k)++(Dp (Bd f.op).past x++DE (Bd f.op).past (f.args.drop (k+1))):=by
    conv=>lhs;rw[a8,preL_app]
    simp[DE]
   have hPx:(L++((f,false)::DE (Bd f.op).past (f.args.take k)))++Dp (Bd f.op).past x<+:P:=by
    refine List.IsPrefix.trans ?_ hP;rw[preF_eq false f,List.append_assoc,List.prefix_append_right_inj];show _<+:(f,false)::DE (Bd f.op).past f.args;rw[T,List.cons_append,List.prefix_cons_inj,List.prefix_append_right_inj];exact List.prefix_append _ _
   have a5:dpF x<=n:=by have:=Ce (List.mem_of_getElem? l);omega
   refine Ac (rd 0 10 (.alt 10 (.read 11 .done) .stop)) Ap EO (fun N a ed=>⟨Keep X N,?_,?_⟩)
   ·exact Ff
   have r:∀V,Keep X N V->V.cell? ⟨F,0,none⟩=some (.func (.func 206) #[] #[pt S,pt m,pt F]):=fun V e=>((s.E a O).E e I).cell rfl;have cb:∀V,Keep X N V->V.cell? ⟨b,o+4,none⟩=some (.slice (some ⟨p,u,none⟩) f.args.length cc):=fun V e=>e.cell (a.cell a4 O) t.1.1;((refine D_R rfl rfl (fun W g=>AH rfl (r W g) dz) ?_)<;>(refine D_R rfl rfl (fun W g=>AX rfl dz) ?_)<;>(refine D_R rfl rfl (fun W g=>AG rfl dz) ?_)<;>(refine D_R rfl rfl (fun W g=>AB rfl dz) ?_)<;>(refine D_R rfl rfl (fun W g=>AH rfl (cb W g) dz) ?_)<;>(refine D_R rfl rfl (fun W g=>AS rfl dz) ?_)<;>(apply D_R rfl rfl;(intro W g;refine CG rfl rfl rfl U ?_;exact AA ⟨rfl,rfl,rfl⟩))<;>(refine D_R rfl rfl (fun W g=>AE rfl dz) ?_)<;>(refine D_R rfl rfl (fun W g=>AS rfl dz) ?_)<;>(apply D_R rfl rfl;(intro W g;refine W_add rfl rfl Ea ?_;exact AA ⟨rfl,rfl,rfl⟩)))
   refine D_E rfl ?_;refine A9 (v1:=[]) (v2:=[pt S,pt m,pt F]) (vs:=[.pointer (some ⟨p,u+k*5,none⟩),.bool (Bd f.op).past,iV ((d:Int)+1)]) rfl (ih N p (u+k*5) x (Bd f.op).past (d+1) _ a5 U (a9.E a (fun _ _=>by simp)) (Q.ext a) (E.E a O) (s.E a O) (H.ext j a) hPx) rfl ?_;rintro _ w4⟨c,G⟩;refine AA ⟨Keep X N,fun _ e=>e,c,?_⟩;have a0:Keep X w w4:=(q.ext a).trans c (fun _ l _=>l);rcases G with⟨rfl,a1⟩|⟨rfl,M,a2,c0,K⟩
   ·refine go ?_;refine⟨k+1,⟨rfl,⟨rfl,rfl,rfl,rfl,rfl,?_,trivial⟩,⟨by omega,a0,Ext.refl _,?_,(Q.ext a).E c H.glob,(t.E a (fun _ _=>by simp)).E c (fun _ h=>h.1),(E.E a O).E c h4,(s.E a O).E c I⟩⟩,by omega⟩
    ·show iV ((k:Int)+1)=_;rw[Int.natCast_add];rfl
    ·rw[preL_take _ l];simpa using a1
   ·refine go ?_;refine AC rfl ⟨a0,.inr ⟨rfl,(f,false)::DE (Bd f.op).past (f.args.take k)++M,?_,by simp,by simpa using K⟩⟩;rw[preF_eq];show _<+:(f,false)::DE (Bd f.op).past f.args;exact Gl
  ·refine go ?_;rw[List.take_of_length_le U]at j;refine AC rfl ⟨q,.inl ⟨rfl,by rw[preF_eq];exact j⟩⟩
end
end Go.Proofs.YtjbocjodncbogaaGreatDoor
