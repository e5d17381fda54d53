/- TopOwedOnce, part 5 of 14: rules, lemmas, walks. Conditions: none. -/
import Derived.Test.YtohodbnnhlddpaaGreatDoorVO4
namespace Go.Proofs.YtohodbnnhlddpaaGreatDoor
open Go.RowKit
set_option linter.unusedVariables false
section
variable {mk:Prop}[MK mk]
theorem recRet_S(w:World)(D S f:Nat):CallsDIn Fence.wide 0 Zp 102 ([]++[pt D,pt S,pt f]:LV).toArray .returning w (fun e o w'=>match e with| .returned _=>o=.returning/\Ext w w'|_=>False):=by
 refine callsD_rec (u1:=.returning) (v0:=.nilIface) (G:=fun _ w'=>Ext w w') (args:=[pt D,pt S,pt f]) Tryz.func102 rfl Tryz.ntmps102 O D7 Dv Dv (.inl ⟨rfl,rfl,rfl⟩) ?_;refine W_assert_nil (z:=.agg #[iV 0,iV 0]) rfl Dv (go ?_);refine Au (cs:=[iV 0,iV 0]) rfl rfl Dx (AW rfl) (fun L N=>go ?_);exact BF rfl N.E
theorem recPan_S(w:World)(D S f:Nat)(P:LV)(b a:Value)(e q:Int)(V:Blk w D 54 P)(l:P.length=([.slice none 0 0,.slice none 0 0]:LV).length)(T:Blk w S 43 [b])(c:Blk w f 3 [a])(r:D≠S)(Q:D≠f)(C:S≠f):
  CallsDIn Fence.wide 0 Zp 102 ([]++[pt D,pt S,pt f]:LV).toArray (.panicking [{v:=.iface 163 (.agg #[iV e,iV q]),recovered:=false}]) w
   (fun s o w'=>match s with| .returned _=>o=.panicking [{v:=.iface 163 (.agg #[.int .i64 e,.int .i64 q]),recovered:=true}]/\(Keep [D,S,f] w w'/\Blk w' D 54 [.slice none 0 0,.slice none 0 0]/\Blk w' S 43 [.int .i64 e]/\Blk w' f 3 [.int .i64 q])|_=>False):=by
 have E:=V.lt;have K:=T.lt;have M:=c.lt
 refine callsD_rec (u1:=.panicking [{v:=.iface 163 (.agg #[iV e,iV q]),recovered:=true}]) (v0:=.iface 163 (.agg #[iV e,iV q]))
  (G:=fun _ w'=>Keep [D,S,f] w w'/\Blk w' D 54 [.slice none 0 0,.slice none 0 0]/\Blk w' S 43 [iV e]/\Blk w' f 3 [iV q]) (args:=[pt D,pt S,pt f]) Tryz.func102 rfl Tryz.ntmps102 O D7 Dv Dv (.inr ⟨_,rfl,rfl,rfl⟩) ?_
 refine W_assert_yes rfl ?_;refine M_tuple rfl (Du rfl rfl (Du rfl rfl ?_));refine Au (cs:=[iV e,iV q]) rfl rfl Dx (AW rfl) (fun L N=>?_);have d:=N.D;have X:=N.size;refine go ?_;refine AS (fun n Z=>?_);have A:=Z.size;have y:Blk n L.heap.size 54 [.slice none 0 0,.slice none 0 0]:=Z.D;replace d:=d.E Z.E O;have g:Ext w n:=N.E.trans Z.E;replace V:=V.E g O;replace T:=T.E g O;replace c:=c.E g O;refine go ?_;refine AX (rd 0 5 (.alt 5 (.alt 6 (.alt 7 .done .stop) .stop) .stop)) An Dv (fun H I B=>⟨fun W=>W.cell? ⟨w.heap.size,0,none⟩=some (iV e)/\W.cell? ⟨w.heap.size,1,none⟩=some (iV q)/\Cells W L.heap.size 0 [.slice none 0 0,.slice none 0 0],?_,?_⟩)
 ·exact⟨(d.E I O).cell rfl,(d.E I O).cell rfl,(y.E I O).cells⟩
 have z:∀W:World,(W.cell? ⟨w.heap.size,0,none⟩=some (iV e)/\W.cell? ⟨w.heap.size,1,none⟩=some (iV q)/\Cells W L.heap.size 0 [.slice none 0 0,.slice none 0 0])->W.cell? ⟨w.heap.size,0,none⟩=some (iV e):=fun W h=>h.1;have t:∀W:World,(W.cell? ⟨w.heap.size,0,none⟩=some (iV e)/\W.cell? ⟨w.heap.size,1,none⟩=some (iV q)/\Cells W L.heap.size 0 [.slice none 0 0,.slice none 0 0])->W.cell? ⟨w.heap.size,1,none⟩=some (iV q):=fun W h=>h.2.1;have m:∀W:World,(W.cell? ⟨w.heap.size,0,none⟩=some (iV e)/\W.cell? ⟨w.heap.size,1,none⟩=some (iV q)/\Cells W L.heap.size 0 [.slice none 0 0,.slice none 0 0])->Cells W L.heap.size 0 [.slice none 0 0,.slice none 0 0]:=fun W h=>h.2.2;replace d:=d.E I O;replace y:=y.E I O;replace V:=V.E I O;replace T:=T.E I O;replace c:=c.E I O;have k:Keep [D,S,f] w H:=(g.trans I).any;((apply D_R rfl rfl;(intro W i;refine AQ rfl Dx (m W i) ?_;exact AA ⟨rfl,rfl,rfl⟩))<;>(apply D_R rfl rfl;(intro W i;refine AD rfl ?_;exact AA ⟨rfl,rfl,rfl⟩))<;>(apply D_R rfl rfl;(intro W i;refine AL rfl (z W i) ?_;exact AA ⟨rfl,rfl,rfl⟩))<;>(apply D_R rfl rfl;(intro W i;refine AD rfl ?_;exact AA ⟨rfl,rfl,rfl⟩))<;>(apply D_R rfl rfl;(intro W i;refine AL rfl (t W i) ?_;exact AA ⟨rfl,rfl,rfl⟩)))
 refine D_E rfl ?_;refine AH (cs:=[.slice none 0 0,.slice none 0 0]) rfl rfl rfl (AW rfl) V (by rw[l];simp) (fun W p=>?_);have R:=p.D;rw[BV P [.slice none 0 0,.slice none 0 0] (by rw[l])]at R;replace T:=T.E p.E Dw;replace c:=c.E p.E Dw;replace d:=d.E p.E Dw;replace y:=y.E p.E Dw;replace k:=k.trans p.E O;clear V p;have V:=R;refine wNl (⟨d.cell rfl,d.cell rfl,y.cells⟩) ?_;refine D_E rfl ?_;refine AR rfl rfl rfl T O (fun u p=>?_);have j:=p.D;replace V:=V.E p.E Dw;replace c:=c.E p.E Dw;replace d:=d.E p.E Dw;replace y:=y.E p.E Dw;replace k:=k.trans p.E O;clear T p;refine wNl (⟨d.cell rfl,d.cell rfl,y.cells⟩) ?_;refine D_E rfl ?_;refine AR rfl rfl rfl c O (fun x p=>?_);have F:=p.D;replace V:=V.E p.E Dw;replace j:=j.E p.E Dw;replace d:=d.E p.E Dw;replace y:=y.E p.E Dw;replace k:=k.trans p.E O;refine wNl (⟨d.cell rfl,d.cell rfl,y.cells⟩) ?_;refine go ?_;exact BF rfl ⟨k,V,j,F⟩
def errOf{α:Type}(n:Nat):Ans α->Except (Int×Nat) α
 | .ok y=>.ok y.1
 | .error []=>.error (51,n)
 | .error (x::_)=>.error (50,x.loc)
def PRes(s:NT)(t:LU)(r:Except (Int×Nat) s.T):Prop:=
 match lexM t with
 | .error e=>r=.error e
 | .ok ts=>∃a:Ans s.T,Run (whole s) ts a/\r=errOf t.length a
theorem PRes.det{s:NT}{t:LU}{r V:Except (Int×Nat) s.T}(h:PRes s t r)(w:PRes s t V):r=V:=by
 unfold PRes at h w;cases hm:lexM t with
 |error e=>rw[hm]at h w;rw[h,w]
 |ok ts=>
  rw[hm]at h w;obtain⟨a,X,rfl⟩:=h;obtain⟨b,W,rfl⟩:=w;rw[X.det W]
def RunAns{α:Type}(R:Rp α)(M:LV->Value)(zero:LV)(P:Except (Int×Nat) α->Prop)(w w':World)(v:Value):Prop:=
 ∃c e q,v=.tuple #[M c,iV e,iV q]/\Ext w w'/\((∃a,P (.ok a)/\e=0/\q= -1/\R.fits (fresh w) w' c a)\/∃p:Nat,P (.error (e,p))/\e≠0/\q=(p:Int)/\c=zero)
theorem errV_ne{α:Type}(n:Nat)(l:List Tok):∃e p,errV n l=failP e p/\(errOf n (.error l:Ans α))=.error (e,p)/\e≠0:=by
 cases l with
 |nil=>exact⟨51,n,rfl,rfl,by decide⟩
 |cons x l=>exact⟨50,x.loc,rfl,rfl,by decide⟩
theorem lexF(w:World)(t:LU)(C:GV w):Fn Zp 101 [AK t] w fun v w'=>∃a c e q d,v=.tuple #[.slice a d.length c,iV e,iV q]/\Ext w w'/\Sl (fun b=>w.heap.size<=b/\b<w'.heap.size) w' (.slice a d.length c) d.length (toksC d)/\
  ((lexM t=.ok d/\e=0/\q= -1)\/∃p:Nat,lexM t=.error (e,p)/\e≠0/\q=(p:Int)/\d=[]):=by
 refine(lex_ok w t C).mono ?_;rintro v w'⟨tv,e,q,rfl,k,h⟩;unfold LexAns at h;cases hm:lexM t with
 |ok d=>
  rw[hm]at h;obtain⟨rfl,rfl,R⟩:=h;have D:=Aa (ok:=fun b=>w.heap.size<=b/\b<w'.heap.size) R fun g f=>Ad R f;obtain⟨a,c,rfl,x⟩:=id D;exact⟨a,c,0, -1,d,rfl,k,D,.inl ⟨rfl,rfl,rfl⟩⟩
 |error r=>
  obtain⟨i,p⟩:=r;rw[hm]at h;obtain⟨rfl,rfl,rfl⟩:=h;exact⟨none,0,e,p,[],rfl,k,⟨_,_,rfl,by simp,by omega,fun _=>rfl,.inl rfl⟩,.inr ⟨p,rfl,lexM_err hm,rfl,rfl⟩⟩
theorem res_cellA{P:Program}{f:Fr}{w:World}{T n b t:Nat}{L:LV}{l:List ResultVar}{k:LV->Prop}[hT:AggT P T n](I:f t=.pointer (sm b))(M:L.length=n)(V:Cells w b 0 L)(h:DG P l f w fun r=>k (.agg L.toArray::r)):DG P (.cell t T::l) f w k:=
 ⟨_,_,I,Dk hT M V,h⟩
theorem run_S(w:World)(t:LU)(hG:GK w)(hI:∀E N,ItemR spcR aggV E N 64 (body .spec)):Fn Zp 63 [AK t,.func (.func 64) #[] #[]] w (fun v w'=>RunAns spcR aggV [.slice none 0 0,.slice none 0 0] (PRes .spec t) w w' v):=by
 have e9:=hG.gv.size;refine DB Tryz.func63 rfl Tryz.ntmps63 nlr Dv (go ?_);refine AS (fun g n1=>?_);refine AS (fun d n2=>?_);refine AS (fun o Z=>?_);have z1:=n1.size;have z2:=n2.size;have z3:=Z.size;have b1:Blk o w.heap.size 54 [.slice none 0 0,.slice none 0 0]:=(n1.D.E n2.E O).E Z.E O;have b2:Blk o g.heap.size 43 [iV 0]:=n2.D.E Z.E O;have b3:Blk o d.heap.size 3 [iV 0]:=Z.D;have k3:Ext w o:=(n1.E.trans n2.E).trans Z.E;refine go ?_;refine AE (lexF o t (hG.gv.ext k3)) rfl ?_;rintro v w4⟨ta,tc,e,q,k,rfl,k4,hT,y⟩;have z4:=k4.size;have c1:=b1.E k4 O;have c2:=b2.E k4 O;have c3:=b3.E k4 O;refine go ?_;refine AR rfl rfl rfl c2 O (fun w5 s=>?_);refine AR rfl rfl rfl (c3.E s.E Dw) O (fun w6 P=>?_);have z5:=s.size;have z6:=P.size;have Q:Blk w6 w.heap.size 54 [.slice none 0 0,.slice none 0 0]:=(c1.E s.E Dw).E P.E Dw;have V:Blk w6 g.heap.size 43 [iV e]:=s.D.E P.E Dw;have d3:Blk w6 d.heap.size 3 [iV q]:=P.D;have k6:Ext w w6:=((k3.trans k4).E s.E Dw).E P.E Dw;refine go ?_;rcases y with⟨y,rfl,rfl⟩|⟨p,y,he,rfl,rfl⟩
 ·obtain⟨ht6,d9,e0⟩:=lexM_toks y;refine go ?_;refine W_defer (v1:=[]) (v2:=[pt w.heap.size,pt g.heap.size,pt d.heap.size]) (vs:=[]) rfl rfl (go ?_);refine AE (prefixes_ok w6) rfl ?_;rintro v w7⟨F,rfl,hmp,G,b7⟩;refine AE (infixes_ok w7) rfl ?_;rintro v n⟨j,rfl,f0,D,b4⟩;have hpl:=b7.lt;have d2:=b4.lt;have g0:=G.size;have zk8:=D.size;refine go ?_;refine Ai (L:=[.slice ta k.length tc,iV (t.length:Int),.map (some F),.map (some j)]) rfl (fun X A=>?_);have z9:=A.size;have k9:Ext w X:=((k6.trans G).trans D).trans A.E;refine go ?_;have c6:=((((hT.E s.E (fun b S=>by simp;omega)).E P.E (fun b S=>by simp;omega)).ext G).ext D).ext A.E;have f1:=(((Q.E G O).E D O).E A.E O);have f2:=(((V.E G O).E D O).E A.E O);have f3:=(((d3.E G O).E D O).E A.E O);have hP:PSt X ⟨o.heap.size,n.heap.size,t.length,F,j⟩ k:=⟨⟨ta,tc,A.D,c6.mono fun b S=>by have:=S.1;have:=S.2;exact⟨by show o.heap.size<=b;omega,by show b<n.heap.size;omega⟩⟩,(b7.E D O).E A.E O,b4.E A.E O,⟨by show F<n.heap.size;omega,d2⟩,e0,d9⟩;have C:PW X ⟨o.heap.size,n.heap.size,t.length,F,j⟩ k:=⟨hP,hG.ext k9,by show 10<=n.heap.size;omega⟩;have b6:∀{r:Ans (NT.T .spec)},Run (whole .spec) k r->PRes .spec t (errOf t.length r):=fun{r}hr=>by unfold PRes;rw[y];exact⟨r,hr,rfl⟩
  have b5:∀(f:Fr)(K:World)(l:List Tok),Run (whole .spec) k (.error l)->Keep [n.heap.size,w.heap.size] X K->(∃L1,Blk K w.heap.size 54 L1/\L1.length=2)->f 4=pt w.heap.size->f 5=pt g.heap.size->f 6=pt d.heap.size->
    DV Zp Tryz.f63 (fun v w'=>RunAns spcR aggV [.slice none 0 0,.slice none 0 0] (PRes .spec t) w w' v) (fun _ _=>False) (.panic (errV t.length l)) f [{target:=.fn (.func 102) #[pt w.heap.size,pt g.heap.size,pt d.heap.size],args:=#[]}] K:=by
   rintro f K l hr hk⟨L1,g1,c5⟩e4 e5 e6;obtain⟨e,p,d0,d1,c9⟩:=errV_ne (α:=NT.T .spec) t.length l;rw[d0];refine finD_pan_def (a:=[]) (c:=[pt w.heap.size,pt g.heap.size,pt d.heap.size]) (recPan_S K _ _ _ L1 _ _ e (p:Int) g1 c5 (f2.E hk Dw) (f3.E hk Dw) U U U) fun w11 c4=>?_;obtain⟨e1,u,a4,a5⟩:=c4;refine res_cellA e4 rfl u.cells (A9 e5 (a4.cell rfl) (A9 e6 (a5.cell rfl) ?_));have hp:=b6 hr;rw[d1]at hp;exact⟨[.slice none 0 0,.slice none 0 0],e,p,rfl,(k9.E hk Dw).E e1 Dw,.inr ⟨p,hp,c9,rfl,rfl⟩⟩
  refine go ?_;refine C0 (v1:=[]) (v2:=[]) (vs:=[pt n.heap.size]) rfl (hI ⟨o.heap.size,n.heap.size,t.length,F,j⟩ k.length X k C (Nat.le_refl _)) rfl ?_ ?_;rotate_left
  ·rintro ch K⟨B,l,r10,rfl⟩;refine go ?_;exact b5 _ K l (Run.callE r10) (B.mono O) ⟨_,f1.E B Dw,rfl⟩ rfl rfl rfl
  rintro v K⟨B,a,e7,r10,e3,c,rfl,fit⟩;have m:c.length=2:=Rp.len spcR fit;have hco:=Rp.one spcR fit;have g1:=f1.E B Dw;have g2:=f2.E B Dw;have g3:=f3.E B Dw;have f6:=B.size;refine AH (cs:=c) rfl rfl m hco g1 O (fun w11 z=>?_)
  have u:Blk w11 w.heap.size 54 c:=by
   have:=z.D;rw[BV [.slice none 0 0,.slice none 0 0] c (by rw[m];rfl)]at this;exact this
  have a4:=g2.E z.E Dw;have a5:=g3.E z.E Dw;have fit':=Rp.E spcR fit z.E (fun b S=>by simp[fresh]at S⊢;omega);have b8:Keep [n.heap.size,w.heap.size] X w11:=(B.mono O).trans (z.E.mono (Y:=[n.heap.size,w.heap.size]) O) O;have f7:=z.size;have hE:w.heap.size<n.heap.size:=by omega
  obtain⟨⟨ta',tc',c7,d8⟩,hq3,d4,d5,d6,d7⟩:=id e3;have c8:=c7.E z.E Dw;refine go ?_;cases e7 with
  |cons x l=>
   have hl:(x::l).length=l.length+1:=rfl;refine go ?_;have q11:PSt w11 ⟨o.heap.size,n.heap.size,t.length,F,j⟩ (x::l):=⟨⟨ta',tc',c8,d8.E z.E (fun b S=>by have:o.heap.size<=b:=S.1;simp;omega)⟩,hq3.E z.E Dw,d4.E z.E Dw,d5,d6,d7⟩;refine At (wrong_ok ⟨o.heap.size,n.heap.size,t.length,F,j⟩ w11 (x::l) q11) rfl (R:=fun _ _=>False) ?_ ?_
   ·rintro v d hh;exact hh.elim
   ·rintro ch d⟨rfl,rfl⟩;refine go ?_;exact b5 _ d (x::l) (Run.call r10 (Run.look (Run.fail _))) b8 ⟨_,u,m⟩ rfl rfl rfl
  |nil=>
   have hl:([]:List Tok).length=0:=rfl;refine go ?_;refine Bp rfl u m ?_;refine AH (cs:=c) rfl rfl m hco u U (fun e8 H=>?_)
   have i1:Blk e8 w.heap.size 54 c:=by
    have:=H.D;rw[BV c c rfl]at this;exact this
   refine AR rfl rfl rfl (a4.E H.E Dw) O (fun f4 M=>?_);refine AR rfl rfl rfl ((a5.E H.E Dw).E M.E Dw) O (fun a6 i=>?_);have f8:=H.size;have f9:=M.size;have j1:=(i1.E M.E Dw).E i.E Dw;have j2:Blk a6 g.heap.size 43 [iV 0]:=M.D.E i.E Dw;have j3:Blk a6 d.heap.size 3 [iV (-1)]:=i.D;have e2:Ext w a6:=(((k9.E b8 Dw).E H.E O).E M.E Dw).E i.E Dw;have fit14:=Rp.E spcR (Rp.E spcR (Rp.E spcR fit' H.E (fun b S=>by simp[fresh]at S⊢;omega)) M.E (fun b S=>by simp[fresh]at S⊢;omega)) i.E (fun b S=>by simp[fresh]at S⊢;omega);refine go ?_;refine finD_ret_def (a:=[]) (c:=[pt w.heap.size,pt g.heap.size,pt d.heap.size]) (recRet_S _ _ _ _) fun f5 a0=>?_;refine res_cellA rfl m (j1.E a0 O).cells (A9 rfl ((j2.E a0 O).cell rfl) (A9 rfl ((j3.E a0 O).cell rfl) ?_));have hp:=b6 (Run.call r10 (Run.look (Run.ret _ _)));exact⟨c,0, -1,rfl,e2.trans a0,.inl ⟨a,hp,rfl,rfl,Rp.mono spcR (Rp.ext spcR fit14 a0) fun b S=>by simp only[fresh]at S⊢;omega⟩⟩
 ·refine go ?_;refine AX (rd 0 3 (.alt 3 (.alt 4 (.alt 5 .done .stop) .stop) .stop)) An Dv (fun wd I ed=>⟨fun W=>Cells W w.heap.size 0 [.slice none 0 0,.slice none 0 0]/\W.cell? ⟨g.heap.size,0,none⟩=some (iV e)/\W.cell? ⟨d.heap.size,0,none⟩=some (iV (p:Int)),?_,?_⟩)
  ·exact⟨(Q.E I O).cells,(V.E I O).cell rfl,(d3.E I O).cell rfl⟩
  have b9:∀W:World,(Cells W w.heap.size 0 [.slice none 0 0,.slice none 0 0]/\W.cell? ⟨g.heap.size,0,none⟩=some (iV e)/\W.cell? ⟨d.heap.size,0,none⟩=some (iV (p:Int)))->Cells W w.heap.size 0 [.slice none 0 0,.slice none 0 0]:=fun W h=>h.1;have c0:∀W:World,(Cells W w.heap.size 0 [.slice none 0 0,.slice none 0 0]/\W.cell? ⟨g.heap.size,0,none⟩=some (iV e)/\W.cell? ⟨d.heap.size,0,none⟩=some (iV (p:Int)))->W.cell? ⟨g.heap.size,0,none⟩=some (iV e):=fun W h=>h.2.1;have fc2:∀W:World,(Cells W w.heap.size 0 [.slice none 0 0,.slice none 0 0]/\W.cell? ⟨g.heap.size,0,none⟩=some (iV e)/\W.cell? ⟨d.heap.size,0,none⟩=some (iV (p:Int)))->W.cell? ⟨d.heap.size,0,none⟩=some (iV (p:Int)):=fun W h=>h.2.2;replace Q:=Q.E I O;replace V:=V.E I O;replace d3:=d3.E I O;((apply D_R rfl rfl;(intro W C;refine AQ rfl Dx (b9 W C) ?_;exact AA ⟨rfl,rfl,rfl⟩))<;>(apply D_R rfl rfl;(intro W C;refine AL rfl (c0 W C) ?_;exact AA ⟨rfl,rfl,rfl⟩))<;>(apply D_R rfl rfl;(intro W C;refine AL rfl (fc2 W C) ?_;exact AA ⟨rfl,rfl,rfl⟩)))
  refine D_E rfl ?_;refine AH (cs:=[.slice none 0 0,.slice none 0 0]) rfl rfl rfl (AW rfl) Q O (fun wa pa=>?_);have a1:Blk wa w.heap.size 54 [.slice none 0 0,.slice none 0 0]:=pa.D;have a2:=V.E pa.E Dw;have a3:=d3.E pa.E Dw;refine wNl (⟨a1.cells,a2.cell rfl,a3.cell rfl⟩) ?_;refine D_E rfl ?_;refine AR rfl rfl rfl a2 O (fun wb pb=>?_);have a7:=a1.E pb.E Dw;have a8:Blk wb g.heap.size 43 [iV e]:=pb.D;have a9:=a3.E pb.E Dw;refine wNl (⟨a7.cells,a8.cell rfl,a9.cell rfl⟩) ?_;refine D_E rfl ?_;refine AR rfl rfl rfl a9 O (fun wc pc=>?_);have b0:=a7.E pc.E Dw;have c2':=a8.E pc.E Dw;have c3':Blk wc d.heap.size 3 [iV (p:Int)]:=pc.D;refine wNl (⟨b0.cells,c2'.cell rfl,c3'.cell rfl⟩) ?_;refine go ?_;refine BB (res_cellA rfl rfl b0.cells (A9 rfl (c2'.cell rfl) (A9 rfl (c3'.cell rfl) ?_)));refine⟨[.slice none 0 0,.slice none 0 0],e,p,rfl,(((k6.trans I).E pa.E O).E pb.E Dw).E pc.E Dw,.inr ⟨p,?_,he,rfl,rfl⟩⟩;unfold PRes;rw[y]
theorem parse_S(w:World)(t:LU)(C:GK w):Fn Zp 23 [AK t] w (fun v w'=>RunAns spcR aggV [.slice none 0 0,.slice none 0 0] (PRes .spec t) w w' v):=by
 refine AG Tryz.func23 rfl Tryz.ntmps23 (go ?_);refine AS (fun R E=>?_);have m:Blk R w.heap.size 54 [.slice none 0 0,.slice none 0 0]:=E.D;have i:=E.size;refine go ?_;refine AE (run_S R t (C.ext E.E) spec_ok) rfl ?_;rintro v L⟨c,e,q,rfl,l,x⟩
 have V:c.length=2/\oneC c:=by
  rcases x with⟨a,_,_,_,f⟩|⟨p,_,_,_,rfl⟩
  ·exact⟨Rp.len spcR f,Rp.one spcR f⟩
  ·exact⟨rfl,AW rfl⟩
 have d:=m.E l O;refine go ?_;refine AH (cs:=c) rfl rfl V.1 V.2 d O (fun g K=>?_)
 have y:Blk g w.heap.size 54 c:=by
  have:=K.D;rw[BV [.slice none 0 0,.slice none 0 0] c (by rw[V.1];rfl)]at this;exact this
 refine go ?_;refine fin_retA2 rfl rfl V.1 y.cells ⟨c,e,q,rfl,(E.E.trans l).E K.E O,?_⟩;rcases x with⟨a,X,W,Q,f⟩|h
 ·exact .inl ⟨a,X,W,Q,Rp.mono spcR (Rp.E spcR f K.E (fun b S=>by simp[fresh]at S⊢;omega)) (fun b S=>by simp only[fresh]at S⊢;omega)⟩
 ·exact .inr h
def parseE(s:NT)(t:LU)(n:Nat):Option (Except (Int×Nat) s.T):=match lexM t with
 | .error e=>some (.error e)
 | .ok ts=>(evG (evN n) (whole s) ts).map (errOf t.length)
theorem PRes.ofE{s:NT}{t:LU}{n:Nat}{r:Except (Int×Nat) s.T}(h:parseE s t n=some r):PRes s t r:=by
 unfold parseE at h;unfold PRes;cases hm:lexM t with
 |error e=>rw[hm]at h;exact(Option.some.inj h).symm
 |ok ts=>
  rw[hm]at h;obtain⟨a,X,W⟩:=Option.map_eq_some_iff.1 h;exact⟨a,⟨n,X⟩,W.symm⟩
theorem parseS_is(w:World)(t:LU)(a:Spc)(C:GK w)(h:PRes .spec t (.ok a)):Fn Zp 23 [AK t] w (fun v w'=>∃c,v=.tuple #[.agg c.toArray,iV 0,iV (-1)]/\Ext w w'/\spcR.fits AV w' c a):=by
 refine(parse_S w t C).mono ?_;rintro v w'⟨c,e,q,rfl,k,x|x⟩
 ·obtain⟨b,X,rfl,rfl,f⟩:=x;obtain rfl:b=a:=by have:=X.det h;cases this;rfl
  exact⟨c,rfl,k,Rp.mono spcR f fun _ _=>trivial⟩
 ·obtain⟨p,X,_⟩:=x;have:=X.det h;cases this
def reqW:Rqm:=⟨[112],[97],2,⟨12,[],0,0,[⟨7,[],0,0,[isF [114] 1,⟨11,[],0,0,[isF [103] 1]⟩]⟩]⟩⟩
def spcW:Spc:=⟨[⟨[114],true,2⟩,⟨[103],false,2⟩],[reqW]⟩
theorem parse_W:PRes .spec [105,110,112,117,116,32,114,59,32,111,117,116,112,117,116,32,103,59,32,112,97,114,116,32,112,32,123,32,103,117,97,114,97,110,116,101,101,32,97,58,32,71,32,40,114,32,45,62,32,70,32,103,41,59,32,125] (.ok spcW):=PRes.ofE (n:=60) Dv
abbrev Wd:=Nat->LU->Int
def yestS(v:Int)(p:Nat->Prop):Nat->Prop
 |0=>v=1
 |t+1=>p t
def BP(v:Int)(p q:Nat->Prop):Nat->Prop
 |0=>q 0\/p 0/\v=1
 |t+1=>q (t+1)\/p (t+1)/\BP v p q t
def DR(v:Int)(p q:Nat->Prop):Nat->Prop
 |0=>q 0/\(p 0\/v=1)
 |t+1=>q (t+1)/\(p (t+1)\/DR v p q t)
def CX(p q:Nat->Prop)(t:Nat):Prop:=∃k,t<=k/\q k/\∀j,t<=j->j<k->p j
def relS(p q:Nat->Prop)(t:Nat):Prop:=∀k,t<=k->q k\/∃j,t<=j/\j<k/\p j
def opP(s:Wd)(N:Int)(nm:LU)(v b:Int)(ps:List (Nat->Prop))(p q:Nat->Prop):Nat->Prop:=
 if N=1 then fun _=>True
 else if N=3 then fun t=>s t nm=v
 else if N=4 then fun t=>¬p t
 else if N=5 then fun t=>∀a∈ps,a t
 else if N=6 then fun t=>∃a∈ps,a t
 else if N=7 then fun t=>p t->q t
 else if N=8 then fun t=>p (t+1)
 else if N=9 then CX p q
 else if N=10 then relS p q
 else if N=11 then CX (fun _=>True) p
 else if N=12 then relS (fun _=>False) p
 else if N=13 then fun t=>∃k:Nat,(k:Int)<=b/\p (t+k)
 else if N=14 then fun t=>∀k:Nat,(k:Int)<=b->p (t+k)
 else if N=15 then yestS v p
 else if N=16 then BP v p q
 else if N=17 then DR v p q
 else if N=18 then BP 0 (fun _=>True) p
 else if N=19 then DR 1 (fun _=>False) p
 else fun _=>False
def opS(s:Wd)(N:Int)(nm:LU)(v b:Int)(ps:List (Nat->Prop)):Nat->Prop:=opP s N nm v b ps (ps.getD 0 fun _=>False) (ps.getD 1 fun _=>False)
mutual
def sem(s:Wd):Fml->Nat->Prop
 | .mk op nm v b args=>opS s op nm v b (semL s args)
def semL(s:Wd):LF->List (Nat->Prop)
 | []=>[]
 |a::l=>sem s a::semL s l
end
theorem Ct(s:Wd):∀l:LF,semL s l=l.map (sem s)
 | []=>rfl
 |a::l=>by rw[semL,Ct s l];rfl
theorem sem_eq(s:Wd)(f:Fml):sem s f=opS s f.op f.name f.val f.bound (f.args.map (sem s)):=by
 obtain⟨N,p,v,b,l⟩:=f;rw[sem,Ct];rfl
def Per{α:Type}(m n:Nat)(p:Nat->α):Prop:=∀t,m<=t->p (t+n)=p t
theorem Per.mono{α:Type}{m d n:Nat}{p:Nat->α}(h:Per m n p)(y:m<=d):Per d n p:=fun t P=>h t U
theorem Per.mul{α:Type}{m n:Nat}{p:Nat->α}(h:Per m n p):∀k t,m<=t->p (t+k*n)=p t
 |0,t,_=>by simp
 |k+1,t,ht=>by rw[Nat.succ_mul,<-Nat.add_assoc,h _ U,h.mul k t ht]
theorem until_step(p q:Nat->Prop)(t:Nat):CX p q t↔q t\/p t/\CX p q (t+1):=by
 constructor
 ·rintro⟨k,X,W,Q⟩;by_cases e:k=t
  ·subst e;exact .inl W
  ·exact .inr ⟨Q t (Nat.le_refl _) U,k,by omega,W,fun j a b=>Q j U b⟩
 ·rintro(h|⟨h,k,X,W,Q⟩)
  ·exact⟨t,Nat.le_refl _,h,fun j a b=>by omega⟩
  ·refine⟨k,by omega,W,fun j a b=>?_⟩;by_cases e:j=t
   ·subst e;exact h
   ·exact Q j U b
theorem rel_not(p q:Nat->Prop)(t:Nat):relS p q t↔¬CX (fun i=>¬p i) (fun i=>¬q i) t:=by
 unfold relS CX;constructor
 ·rintro h⟨k,X,W,Q⟩;rcases h k X with h|⟨j,a,b,c⟩
  ·exact W h
  ·exact Q j a b c
 ·intro h k P;refine Classical.byContradiction fun G=>h ⟨k,P,fun T=>G (.inl T),fun j a b v=>G (.inr ⟨j,a,b,v⟩)⟩
theorem rel_step(p q:Nat->Prop)(t:Nat):relS p q t↔q t/\(p t\/relS p q (t+1)):=by
 rw[rel_not,until_step,rel_not];constructor
 ·intro h;refine⟨Classical.byContradiction fun T=>h (.inl T),Classical.byContradiction fun G=>h (.inr ⟨fun v=>G (.inl v),Classical.byContradiction fun n=>G (.inr n)⟩)⟩
 ·rintro⟨T,h⟩ (X|⟨X,W⟩)
  ·exact X T
  ·rcases h with h|h
   ·exact X h
   ·exact h W
theorem until_per{p q:Nat->Prop}{m n:Nat}(v:Per m n p)(T:Per m n q):Per m n (CX p q):=by
 intro t P;refine propext ⟨?_,?_⟩
 ·rintro⟨k,X,W,Q⟩;refine⟨k-n,by omega,?_,fun j a b=>?_⟩
  ·have:=T (k-n) U;rw[<-this,show k-n+n=k by omega];exact W
  ·have:=v j U;rw[<-this];exact Q _ U U
 ·rintro⟨k,X,W,Q⟩;refine⟨k+n,by omega,?_,fun j a b=>?_⟩
  ·rw[T k U];exact W
  ·have:=v (j-n) U;rw[show j-n+n=j by omega]at this;rw[this];exact Q _ U U
theorem not_per{p:Nat->Prop}{m n:Nat}(v:Per m n p):Per m n (fun i=>¬p i):=fun t P=>by show(¬p (t+n))=_;rw[v t P]
theorem rel_per{p q:Nat->Prop}{m n:Nat}(v:Per m n p)(T:Per m n q):Per m n (relS p q):=by
 intro t P;have:=until_per (not_per v) (not_per T) t P;refine propext ?_;rw[rel_not,rel_not,this]
theorem yest_per{p:Nat->Prop}{m n:Nat}(v:Int)(G:1<=n)(a:Per m n p):Per (m+n) n (yestS v p):=by
 intro t P;obtain⟨u,rfl⟩:∃u,t=u+1:=⟨t-1,by omega⟩;rw[show u+1+n=(u+n)+1 by omega];show p (u+n)=p u;exact a u U
theorem since_run(v:Int)(p q:Nat->Prop)(t:Nat):∀n,∃a b:Prop,BP v p q (t+n)↔a\/b/\BP v p q t
 |0=>⟨False,True,by simp⟩
 |n+1=>by
  obtain⟨a,b,h⟩:=since_run v p q t n;refine⟨q (t+n+1)\/p (t+n+1)/\a,p (t+n+1)/\b,?_⟩;show(q (t+n+1)\/p (t+n+1)/\BP v p q (t+n))↔_;rw[h];constructor
  ·rintro(h|⟨h,W|⟨W,Q⟩⟩)
   ·exact .inl (.inl h)
   ·exact .inl (.inr ⟨h,W⟩)
   ·exact .inr ⟨⟨h,W⟩,Q⟩
  ·rintro((h|⟨h,W⟩)|⟨⟨h,W⟩,Q⟩)
   ·exact .inl h
   ·exact .inr ⟨h,.inl W⟩
   ·exact .inr ⟨h,.inr ⟨W,Q⟩⟩
theorem since_from(v:Int){p q:Nat->Prop}{m n:Nat}(c:Per m n p)(T:Per m n q){t u:Nat}(P:m<=t)(f:∃k,u=t+k*n):
  ∀d,∃a b:Prop,(BP v p q (t+d)↔a\/b/\BP v p q t)/\(BP v p q (u+d)↔a\/b/\BP v p q u)
 |0=>⟨False,True,by simp,by simp⟩
 |d+1=>by
  obtain⟨a,b,h,w⟩:=since_from v c T P f d;obtain⟨k,rfl⟩:=f
  have e:q (t+k*n+d+1)=q (t+d+1):=by
   have:=T.mul k (t+d+1) U;rw[<-this];congr 1;omega
  have g:p (t+k*n+d+1)=p (t+d+1):=by
   have:=c.mul k (t+d+1) U;rw[<-this];congr 1;omega
  refine⟨q (t+d+1)\/p (t+d+1)/\a,p (t+d+1)/\b,?_,?_⟩
  ·show(q (t+d+1)\/p (t+d+1)/\BP v p q (t+d))↔_;rw[h];constructor
   ·rintro(h|⟨h,W|⟨W,Q⟩⟩)
    ·exact .inl (.inl h)
    ·exact .inl (.inr ⟨h,W⟩)
    ·exact .inr ⟨⟨h,W⟩,Q⟩
   ·rintro((h|⟨h,W⟩)|⟨⟨h,W⟩,Q⟩)
    ·exact .inl h
    ·exact .inr ⟨h,.inl W⟩
    ·exact .inr ⟨h,.inr ⟨W,Q⟩⟩
  ·show(q (t+k*n+d+1)\/p (t+k*n+d+1)/\BP v p q (t+k*n+d))↔_;rw[w,e,g];constructor
   ·rintro(h|⟨h,W|⟨W,Q⟩⟩)
    ·exact .inl (.inl h)
    ·exact .inl (.inr ⟨h,W⟩)
    ·exact .inr ⟨⟨h,W⟩,Q⟩
   ·rintro((h|⟨h,W⟩)|⟨⟨h,W⟩,Q⟩)
    ·exact .inl h
    ·exact .inr ⟨h,.inl W⟩
    ·exact .inr ⟨h,.inr ⟨W,Q⟩⟩
theorem since_per{p q:Nat->Prop}{m n:Nat}(v:Int)(c:Per m n p)(T:Per m n q):Per (m+n) n (BP v p q):=by
 have e:BP v p q (m+n+n)↔BP v p q (m+n):=by
  obtain⟨a,b,X,W⟩:=since_from v c T (t:=m) (u:=m+n) (Nat.le_refl _) ⟨1,by omega⟩ n;rw[W,X];constructor
  ·rintro(h|⟨h,Q|⟨Q,z⟩⟩)
   ·exact .inl h
   ·exact .inl Q
   ·exact .inr ⟨Q,z⟩
  ·rintro(h|⟨h,Q⟩)
   ·exact .inl h
   ·exact .inr ⟨h,.inr ⟨h,Q⟩⟩
 intro t P;obtain⟨d,rfl⟩:∃d,t=m+n+d:=⟨t-(m+n),by omega⟩;obtain⟨a,b,X,W⟩:=since_from v c T (t:=m+n) (u:=m+n+n) U ⟨1,by omega⟩ d;rw[show m+n+d+n=m+n+n+d by omega];exact propext (by rw[W,X,e])
theorem trig_not(v:Int)(p q:Nat->Prop):∀t,DR v p q t↔¬BP (if v=1 then 0 else 1) (fun i=>¬p i) (fun i=>¬q i) t
 |0=>by
  show(q 0/\(p 0\/v=1))↔¬(¬q 0\/¬p 0/\(if v=1 then(0:Int)else 1)=1);have e:((if v=1 then(0:Int)else 1)=1)↔¬v=1:=by split<;>simp_all
  rw[e];constructor
  ·rintro⟨h,W⟩ (Q|⟨Q,z⟩)
   ·exact Q h
   ·exact W.elim Q z
  ·intro h;exact⟨Classical.byContradiction fun T=>h (.inl T),Classical.byContradiction fun G=>h (.inr ⟨fun a=>G (.inl a),fun b=>G (.inr b)⟩)⟩
 |t+1=>by
  have k:=trig_not v p q t;show(q (t+1)/\(p (t+1)\/DR v p q t))↔¬(¬q (t+1)\/¬p (t+1)/\BP _ _ _ t);rw[k];constructor
  ·rintro⟨h,W⟩ (Q|⟨Q,z⟩)
   ·exact Q h
   ·rcases W with W|W
    ·exact Q W
    ·exact W z
  ·intro h;exact⟨Classical.byContradiction fun T=>h (.inl T),Classical.byContradiction fun G=>h (.inr ⟨fun a=>G (.inl a),Classical.byContradiction fun D=>G (.inr D)⟩)⟩
theorem trig_per{p q:Nat->Prop}{m n:Nat}(v:Int)(a:Per m n p)(T:Per m n q):Per (m+n) n (DR v p q):=by
 intro t P;have:=since_per (if v=1 then 0 else 1) (not_per a) (not_per T) t P;refine propext ?_;rw[trig_not,trig_not,this]
mutual
def DU:Fml->Nat
 | .mk op _ _ _ args=>nestL args+if op=15\/op=16\/op=17\/op=18\/op=19 then 1 else 0
def nestL:LF->Nat
 | []=>0
 |a::l=>max (DU a) (nestL l)
end
theorem nestL_mem:∀{l:LF}{a:Fml},a∈l->DU a<=nestL l
 | [],_,h=>by cases h
 |c::l,a,h=>by
  rw[nestL];rcases List.mem_cons.1 h with rfl|h
  ·omega
  ·have:=nestL_mem h;omega
theorem getD_per{ps:List (Nat->Prop)}{m n:Nat}(h:∀a∈ps,Per m n a)(i:Nat):Per m n (ps.getD i fun _=>False):=by
 by_cases H:i<ps.length
 ·rw[List.getD_eq_getElem?_getD,List.getElem?_eq_getElem H];exact h _ (List.getElem_mem H)
 ·rw[List.getD_eq_getElem?_getD,List.getElem?_eq_none U];exact fun t _=>rfl
theorem Ca{c:Prop}[Decidable c]{m n:Nat}{p q:Nat->Prop}(X:c->Per m n p)(W:¬c->Per m n q):Per m n (if c then p else q):=by
 by_cases h:c
 ·rw[if_pos h];exact X h
 ·rw[if_neg h];exact W h
theorem sem_per{s:Wd}{m n:Nat}(G:1<=n)(D:Per m n s):∀f:Fml,Per (m+DU f*n) n (sem s f)
 | .mk op nm v b args=>by
  have E:∀a∈semL s args,Per (m+nestL args*n) n a:=by
   intro a I;rw[Ct]at I;obtain⟨f,K,rfl⟩:=List.mem_map.1 I;exact(sem_per G D f).mono (by have:=Nat.mul_le_mul_right n (nestL_mem K);omega)
  rw[sem];generalize N:nestL args=k at E;have d:=getD_per E 0;have i:=getD_per E 1
  have g:m+k*n<=m+DU (.mk op nm v b args)*n:=by
   rw[DU,N];have:=Nat.mul_le_mul_right n (Nat.le_add_right k (if op=15\/op=16\/op=17\/op=18\/op=19 then 1 else 0));omega
  have u:∀c:Prop,Per (m+k*n) n fun _=>c:=fun c t _=>rfl
  have j:(op=15\/op=16\/op=17\/op=18\/op=19)->m+DU (.mk op nm v b args)*n=m+k*n+n:=by
   intro h;rw[DU,N,if_pos h,Nat.succ_mul];omega
  unfold opS opP;generalize Q:(semL s args).getD 0 (fun _=>False)=p at d;generalize l:(semL s args).getD 1 (fun _=>False)=q at i;refine Ca (fun e=>?_) (fun _=>?_)
  ·exact fun _ _=>rfl
  refine Ca (fun e=>?_) (fun _=>?_)
  ·exact fun t P=>by show(s (t+n) nm=v)=_;rw[D t U]
  refine Ca (fun e=>?_) (fun _=>?_)
  ·exact(not_per d).mono g
  refine Ca (fun e=>?_) (fun _=>?_)
  ·refine Per.mono (fun t P=>?_) g;refine propext ⟨fun h a I=>?_,fun h a I=>?_⟩
   ·rw[<-E a I t P];exact h a I
   ·rw[E a I t P];exact h a I
  refine Ca (fun e=>?_) (fun _=>?_)
  ·refine Per.mono (fun t P=>?_) g;refine propext ⟨fun⟨a,I,h⟩=>⟨a,I,?_⟩,fun⟨a,I,h⟩=>⟨a,I,?_⟩⟩
   ·rw[<-E a I t P];exact h
   ·rw[E a I t P];exact h
  refine Ca (fun e=>?_) (fun _=>?_)
  ·exact Per.mono (fun t P=>by show(_->_)=(_->_);rw[d t P,i t P]) g
  refine Ca (fun e=>?_) (fun _=>?_)
  ·refine Per.mono (fun t P=>?_) g;show p (t+n+1)=p (t+1);rw[show t+n+1=t+1+n by omega];exact d (t+1) U
  refine Ca (fun e=>?_) (fun _=>?_)
  ·exact(until_per d i).mono g
  refine Ca (fun e=>?_) (fun _=>?_)
  ·exact(rel_per d i).mono g
  refine Ca (fun e=>?_) (fun _=>?_)
  ·exact(until_per (u True) d).mono g
  refine Ca (fun e=>?_) (fun _=>?_)
  ·exact(rel_per (u False) d).mono g
  refine Ca (fun e=>?_) (fun _=>?_)
  ·refine Per.mono (fun t P=>?_) g;refine propext ⟨fun⟨k,X,h2⟩=>⟨k,X,?_⟩,fun⟨k,X,h2⟩=>⟨k,X,?_⟩⟩
   ·rw[<-d (t+k) U,show t+k+n=t+n+k by omega];exact h2
   ·rw[show t+n+k=t+k+n by omega,d (t+k) U];exact h2
  refine Ca (fun e=>?_) (fun _=>?_)
  ·refine Per.mono (fun t P=>?_) g;refine propext ⟨fun h k X=>?_,fun h k X=>?_⟩
   ·rw[<-d (t+k) U,show t+k+n=t+n+k by omega];exact h k X
   ·rw[show t+n+k=t+k+n by omega,d (t+k) U];exact h k X
  refine Ca (fun e=>?_) (fun _=>?_)
  ·rw[j (by simp[e])];exact yest_per v G d
  refine Ca (fun e=>?_) (fun _=>?_)
  ·rw[j (by simp[e])];exact since_per v d i
  refine Ca (fun e=>?_) (fun _=>?_)
  ·rw[j (by simp[e])];exact trig_per v d i
  refine Ca (fun e=>?_) (fun _=>?_)
  ·rw[j (by simp[e])];exact since_per 0 (u True) d
  refine Ca (fun e=>?_) (fun _=>?_)
  ·rw[j (by simp[e])];exact trig_per 1 (u False) d
  ·exact fun _ _=>rfl
abbrev Vl:=LU->Int
def tailW(s:Wd):Wd:=fun t=>s (t+1)
def futB(N:Int):Bool:=decide (8<=N)&&decide (N<=14)
def pstB(N:Int):Bool:=decide (15<=N)&&decide (N<=19)
def DC(N:Int):Bool:=(decide (1<=N)&&decide (N<=6))||(decide (8<=N)&&decide (N<=10))||(decide (15<=N)&&decide (N<=17))
def Aq(N:Int)(n:Nat):Bool:=
 if N=1\/N=2\/N=3 then decide (n=0)
 else if N=5\/N=6 then decide (2<=n)
 else if N=7\/N=9\/N=10\/N=16\/N=17 then decide (n=2)
 else decide (n=1)
def BX(N:Int)(nm:LU)(v b:Int)(n:Nat):Bool:=
 decide (1<=N)&&decide (N<=19)&&Aq N n&&decide (0<=v)&&decide (v<=if N=3 then 3 else if N=15\/N=16\/N=17 then 1 else 0)&&
 decide (0<=b)&&decide (b<=if N=13\/N=14 then 9 else 0)&&(if N=3 then CH nm else nm.isEmpty)
mutual
def BC:Bool->Fml->Bool
 |i,.mk op nm v b args=>DC op&&BX op nm v b args.length&& !(i&&futB op)&&(if op=4 then(match args with|a::_=>decide (a.op=3)| []=>false)else true)&&bareL (i||pstB op) args
def bareL:Bool->LF->Bool
 |_,[]=>true
 |i,a::l=>BC i a&&bareL i l
end
mutual
def CC:Fml->Bool
 | .mk op _ _ _ args=> !(decide (op=8)||decide (op=9)||decide (op=10))&&pastL args
def pastL:LF->Bool
 | []=>true
 |a::l=>CC a&&pastL l
end
theorem Da:∀{l:LF}{i:Bool}{a:Fml},bareL i l=true->a∈l->BC i a=true
 | [],_,_,_,h=>by cases h
 |c::l,i,a,h,I=>by
  simp only[bareL,Bool.and_eq_true]at h;rcases List.mem_cons.1 I with rfl|I
  ·exact h.1
  ·exact Da h.2 I
theorem pastL_mem:∀{l:LF}{a:Fml},pastL l=true->a∈l->CC a=true
 | [],_,_,h=>by cases h
 |c::l,a,h,I=>by
  simp only[pastL,Bool.and_eq_true]at h;rcases List.mem_cons.1 I with rfl|I
  ·exact h.1
  ·exact pastL_mem h.2 I
theorem pastL_of:∀{l:LF},(∀a∈l,CC a=true)->pastL l=true
 | [],_=>rfl
 |c::l,h=>by
  simp only[pastL,Bool.and_eq_true];exact⟨h c O,pastL_of fun a I=>h a (by simp[I])⟩
theorem DX:∀f:Fml,BC true f=true->CC f=true
 | .mk op nm v b args,h=>by
  simp only[BC,Bool.and_eq_true,Bool.true_and,Bool.true_or,Bool.not_eq_true']at h;have M:=h.2;have K:=h.1.1.2;simp only[CC,Bool.and_eq_true,Bool.not_eq_true',Bool.or_eq_false_iff,decide_eq_false_iff_not];refine⟨?_,pastL_of fun a I=>DX a (Da M I)⟩;simp only[futB,Bool.and_eq_false_iff,decide_eq_false_iff_not]at K;omega
theorem Bg{N:Int}(h:DC N=true):N=1\/N=2\/N=3\/N=4\/N=5\/N=6\/N=8\/N=9\/N=10\/N=15\/N=16\/N=17:=by
 simp only[DC,Bool.or_eq_true,Bool.and_eq_true,decide_eq_true_eq]at h;omega
def nowOp(x:Vl)(N:Int)(nm:LU)(v:Int)(m:Bool)(ps:List Bool):Bool:=
 if N=1 then true
 else if N=3 then decide (x nm=v)
 else if N=4 then !(ps.getD 0 false)
 else if N=5 then ps.all id
 else if N=6 then ps.any id
 else if N=15 then m
 else if N=16 then ps.getD 1 false||(m&&ps.getD 0 false)
 else if N=17 then ps.getD 1 false&&(m||ps.getD 0 false)
 else false
mutual
def nowG(x:Vl)(says:Fml->Bool):Fml->Bool
 | .mk op nm v b args=>nowOp x op nm v (says (.mk op nm v b args)) (nowGL x says args)
def nowGL(x:Vl)(says:Fml->Bool):LF->List Bool
 | []=>[]
 |a::l=>nowG x says a::nowGL x says l
end
theorem nowGL_eq(x:Vl)(b:Fml->Bool):∀l,nowGL x b l=l.map (nowG x b)
 | []=>rfl
 |a::l=>by rw[nowGL,nowGL_eq x b l];rfl
def saysV(f:Fml):Bool:=decide (f.val=1)
def Bw(x:Vl):Fml->Bool:=nowG x saysV
theorem nowM_eq(x:Vl)(N:Int)(nm:LU)(v b:Int)(args:LF):Bw x (.mk N nm v b args)=nowOp x N nm v (decide (v=1)) (args.map (Bw x)):=by
 unfold Bw;rw[nowG,nowGL_eq];rfl
theorem Cj{l:LF}(h:l.length=2):∃a c,l=[a,c]:=by
 match l,h with
 | [a,c],_=>exact⟨a,c,rfl⟩
theorem Cv{l:LF}(h:l.length=1):∃a,l=[a]:=by
 match l,h with
 | [a],_=>exact⟨a,rfl⟩
theorem BR{N v b:Int}{nm:LU}{n:Nat}(h:BX N nm v b n=true):Aq N n=true:=by
 simp only[BX,Bool.and_eq_true]at h;exact h.1.1.1.1.1.2
theorem now_sem(s:Wd):∀(f:Fml)(i:Bool),BC i f=true->CC f=true->(Bw (s 0) f=true↔sem s f 0)
 | .mk op nm v b args,i,hb,hp=>by
  simp only[BC,Bool.and_eq_true]at hb;simp only[CC,Bool.and_eq_true]at hp;obtain⟨⟨⟨⟨X,W⟩,Q⟩,z⟩,S⟩:=hb;have k:∀a∈args,(Bw (s 0) a=true↔sem s a 0):=fun a I=>now_sem s a _ (Da S I) (pastL_mem hp.2 I)
  have G:op≠8/\op≠9/\op≠10:=by
   have:=hp.1;simp only[Bool.not_eq_true',Bool.or_eq_false_iff,decide_eq_false_iff_not]at this;omega
  have I:=BR W;rw[nowM_eq,sem,Ct];rcases Bg X with rfl|rfl|rfl|rfl|rfl|rfl|rfl|rfl|rfl|rfl|rfl|rfl
  ·simp[nowOp,opS,opP]
  ·simp[nowOp,opS,opP]
  ·simp[nowOp,opS,opP]
  ·obtain⟨a,rfl⟩:=Cv D6;have:=k a O;simp[nowOp,opS,opP,<-this]
  ·show(args.map (Bw (s 0))).all id=true↔∀a∈args.map (sem s),a 0;simp only[List.all_eq_true,List.mem_map,forall_exists_index,and_imp,forall_apply_eq_imp_iff₂,id];exact⟨fun h a I=>(k a I).1 (h a I),fun h a I=>(k a I).2 (h a I)⟩
  ·show(args.map (Bw (s 0))).any id=true↔∃a∈args.map (sem s),a 0;simp only[List.any_eq_true,List.mem_map,id];constructor
   ·rintro⟨_,⟨a,I,rfl⟩,h⟩;exact⟨_,⟨a,I,rfl⟩,(k a I).1 h⟩
   ·rintro⟨_,⟨a,I,rfl⟩,h⟩;exact⟨_,⟨a,I,rfl⟩,(k a I).2 h⟩
  ·exact absurd rfl G.1
  ·exact absurd rfl G.2.1
  ·exact absurd rfl G.2.2
  ·simp[nowOp,opS,opP,yestS]
  ·obtain⟨a,c,rfl⟩:=Cj D6;have d:=k a O;have X:=k c O;simp[nowOp,opS,opP,BP,<-d,<-X,and_comm]
  ·obtain⟨a,c,rfl⟩:=Cj D6;have d:=k a O;have X:=k c O;simp[nowOp,opS,opP,DR,<-d,<-X,or_comm]
def bitI(b:Bool):Int:=if b then 1 else 0
theorem bit_one(b:Bool):(bitI b=1)↔b=true:=by cases b<;>simp[bitI]
def agedV(x:Vl)(N:Int)(v:Int)(first P:Bool):Int:=if N=15 then bitI first else if N=16\/N=17 then bitI P else v
mutual
def Dn(x:Vl):Fml->Fml
 | .mk op nm v b args=>.mk op nm (agedV x op v ((args.map (Bw x)).getD 0 false) (Bw x (.mk op nm v b args))) 0 (agedL x args)
def agedL(x:Vl):LF->LF
 | []=>[]
 |a::l=>Dn x a::agedL x l
end
theorem agedL_eq(x:Vl):∀l,agedL x l=l.map (Dn x)
 | []=>rfl
 |a::l=>by rw[agedL,agedL_eq x l];rfl
theorem until_tail(p q:Nat->Prop)(t:Nat):CX (fun i=>p (i+1)) (fun i=>q (i+1)) t↔CX p q (t+1):=by
 constructor
 ·rintro⟨k,X,W,Q⟩;refine⟨k+1,by omega,W,fun j a b=>?_⟩;have:p (j-1+1):=Q (j-1) U U
  rwa [show j-1+1=j by omega]at this
 ·rintro⟨k,X,W,Q⟩;refine⟨k-1,by omega,by show q (k-1+1);rw[show k-1+1=k by omega];exact W,fun j a b=>Q (j+1) U U⟩
theorem rel_tail(p q:Nat->Prop)(t:Nat):relS (fun i=>p (i+1)) (fun i=>q (i+1)) t↔relS p q (t+1):=by
 rw[rel_not,rel_not];exact not_congr (until_tail (fun i=>¬p i) (fun i=>¬q i) t)
theorem since_tail{v o:Int}{p q M g:Nat->Prop}(a:∀t,M t↔p (t+1))(T:∀t,g t↔q (t+1))(b:o=1↔BP v p q 0):∀t,BP o M g t↔BP v p q (t+1)
 |0=>by
  show(g 0\/M 0/\o=1)↔(q (0+1)\/p (0+1)/\BP v p q 0);rw[a,T,b]
 |t+1=>by
  show(g (t+1)\/M (t+1)/\BP o M g t)↔(q (t+1+1)\/p (t+1+1)/\BP v p q (t+1));rw[a,T,since_tail a T b t]
theorem trig_tail{v o:Int}{p q M g:Nat->Prop}(a:∀t,M t↔p (t+1))(T:∀t,g t↔q (t+1))(b:o=1↔DR v p q 0):∀t,DR o M g t↔DR v p q (t+1)
 |0=>by
  show(g 0/\(M 0\/o=1))↔(q (0+1)/\(p (0+1)\/DR v p q 0));rw[a,T,b]
 |t+1=>by
  show(g (t+1)/\(M (t+1)\/DR o M g t))↔(q (t+1+1)/\(p (t+1+1)\/DR v p q (t+1)));rw[a,T,trig_tail a T b t]
theorem until_congr{p q M g:Nat->Prop}(v:∀t,M t↔p t)(T:∀t,g t↔q t)(t:Nat):CX M g t↔CX p q t:=by
 have b:M=p:=funext fun t=>propext (v t);have A:g=q:=funext fun t=>propext (T t);rw[b,A]
theorem rel_congr{p q M g:Nat->Prop}(v:∀t,M t↔p t)(T:∀t,g t↔q t)(t:Nat):relS M g t↔relS p q t:=by
 have b:M=p:=funext fun t=>propext (v t);have A:g=q:=funext fun t=>propext (T t);rw[b,A]
theorem aged_sem(s:Wd):∀(f:Fml)(i:Bool),BC i f=true->∀t,(sem (tailW s) (Dn (s 0) f) t↔sem s f (t+1))
 | .mk op nm v b args,i,hb=>by
  have P:=hb;simp only[BC,Bool.and_eq_true]at hb;obtain⟨⟨⟨⟨X,W⟩,Q⟩,z⟩,S⟩:=hb;have k:∀a∈args,∀t,(sem (tailW s) (Dn (s 0) a) t↔sem s a (t+1)):=fun a I=>aged_sem s a _ (Da S I);have I:=BR W;intro t;rw[Dn,agedL_eq,sem,Ct,sem,Ct];rcases Bg X with rfl|rfl|rfl|rfl|rfl|rfl|rfl|rfl|rfl|rfl|rfl|rfl
  ·simp[opS,opP]
  ·simp[opS,opP]
  ·simp[opS,opP,agedV,tailW]
  ·obtain⟨a,rfl⟩:=Cv D6;have:=k a O t;simp[opS,opP,this]
  ·simp only[opS,opP,List.map_map];simp only[List.mem_map,forall_exists_index,and_imp,forall_apply_eq_imp_iff₂,Function.comp];exact⟨fun h a I=>(k a I t).1 (h a I),fun h a I=>(k a I t).2 (h a I)⟩
  ·simp only[opS,opP,List.map_map];simp only[List.mem_map,Function.comp];constructor
   ·rintro⟨_,⟨a,I,rfl⟩,h⟩;exact⟨_,⟨a,I,rfl⟩,(k a I t).1 h⟩
   ·rintro⟨_,⟨a,I,rfl⟩,h⟩;exact⟨_,⟨a,I,rfl⟩,(k a I t).2 h⟩
  ·obtain⟨a,rfl⟩:=Cv D6;exact k a O (t+1)
  ·obtain⟨a,c,rfl⟩:=Cj D6;refine(until_congr (p:=fun i=>sem s a (i+1)) (q:=fun i=>sem s c (i+1)) (k a O) (k c O) t).trans ?_;exact until_tail _ _ t
  ·obtain⟨a,c,rfl⟩:=Cj D6;refine(rel_congr (p:=fun i=>sem s a (i+1)) (q:=fun i=>sem s c (i+1)) (k a O) (k c O) t).trans ?_;exact rel_tail _ _ t
  ·obtain⟨a,rfl⟩:=Cv D6;have d:=DX a (by simpa[bareL,pstB]using S);have G:=now_sem s a _ (by simpa[bareL,pstB]using S) d;cases t with
   |zero=>
    show agedV (s 0) 15 v (Bw (s 0) a) _=1↔sem s a 0;rw[<-G];exact bit_one _
   |succ t=>exact k a O t
  ·obtain⟨a,c,rfl⟩:=Cj D6;have M:BC true a=true/\BC true c=true:=by simpa[bareL,pstB]using S
   have d:CC (.mk 16 nm v b [a,c])=true:=by simp[CC,pastL,DX a M.1,DX c M.2]
   have G:=now_sem s _ i P d;rw[sem,Ct]at G;refine since_tail (k a O) (k c O) ?_ t;exact(bit_one _).trans G
  ·obtain⟨a,c,rfl⟩:=Cj D6;have M:BC true a=true/\BC true c=true:=by simpa[bareL,pstB]using S
   have d:CC (.mk 17 nm v b [a,c])=true:=by simp[CC,pastL,DX a M.1,DX c M.2]
   have G:=now_sem s _ i P d;rw[sem,Ct]at G;refine trig_tail (k a O) (k c O) ?_ t;exact(bit_one _).trans G
def trueF:Fml:=⟨1,[],0,0,[]⟩
def falseF:Fml:=⟨2,[],0,0,[]⟩
def constF(b:Bool):Fml:=if b then trueF else falseF
def opF(N:Int)(l:LF):Fml:=⟨N,[],0,0,l⟩
def rawOp(N:Int)(P:Fml)(c b:LF):Fml:=
 if N=5\/N=6 then opF N c
 else if N=8 then b.getD 0 Ag
 else if N=9 then opF 6 [c.getD 1 Ag,opF 5 [c.getD 0 Ag,P]]
 else if N=10 then opF 5 [c.getD 1 Ag,opF 6 [c.getD 0 Ag,P]]
 else Ag
mutual
def rawF(x:Vl):Fml->Fml
 | .mk op nm v b args=>if CC (.mk op nm v b args)then constF (Bw x (.mk op nm v b args))else rawOp op (Dn x (.mk op nm v b args)) (rawL x args) (agedL x args)
def rawL(x:Vl):LF->LF
 | []=>[]
 |a::l=>rawF x a::rawL x l
end
theorem rawL_eq(x:Vl):∀l,rawL x l=l.map (rawF x)
 | []=>rfl
 |a::l=>by rw[rawL,rawL_eq x l];rfl
theorem sem_const(s:Wd)(b:Bool)(t:Nat):sem s (constF b) t↔b=true:=by
 cases b<;>simp[constF,trueF,falseF,sem,semL,opS,opP]
theorem sem_or2(s:Wd)(a c:Fml)(t:Nat):sem s (opF 6 [a,c]) t↔sem s a t\/sem s c t:=by simp[opF,sem,semL,opS,opP]
theorem sem_and2(s:Wd)(a c:Fml)(t:Nat):sem s (opF 5 [a,c]) t↔sem s a t/\sem s c t:=by simp[opF,sem,semL,opS,opP]
theorem raw_sem(s:Wd):∀(f:Fml),BC false f=true->(sem (tailW s) (rawF (s 0) f) 0↔sem s f 0)
 | .mk op nm v b args,hb=>by
  have P:=hb;rw[rawF];by_cases g:CC (.mk op nm v b args)=true
  ·rw[if_pos g,sem_const];exact now_sem s _ _ hb g
  ·rw[if_neg g];simp only[BC,Bool.and_eq_true]at hb;obtain⟨⟨⟨⟨X,W⟩,Q⟩,z⟩,S⟩:=hb;have I:=BR W;have A:∀k:Int,op=k->Aq k 0=true->args=[]->False:=fun k e _ j=>g (by subst j;subst e;rcases Bg X with e|e|e|e|e|e|e|e|e|e|e|e<;>subst e<;>simp_all [CC,pastL,Aq]);have E:pstB op=false->∀a∈args,BC false a=true:=fun h a I=>by rw[h]at S;exact Da S I
   have d:pstB op=false->∀a∈args,(sem (tailW s) (rawF (s 0) a) 0↔sem s a 0):=fun h a I=>raw_sem s a (E h a I)
   have i:pstB op=true->False:=fun h=>by
    rw[h]at S;refine g ?_;simp only[CC,Bool.and_eq_true,Bool.not_eq_true',Bool.or_eq_false_iff,decide_eq_false_iff_not];simp only[pstB,Bool.and_eq_true,decide_eq_true_eq]at h;exact⟨by omega,pastL_of fun a I=>DX a (Da (by simpa using S) I)⟩
   rw[rawL_eq,agedL_eq];rcases Bg X with rfl|rfl|rfl|rfl|rfl|rfl|rfl|rfl|rfl|rfl|rfl|rfl
   ·exact(A 1 rfl rfl (List.eq_nil_of_length_eq_zero D6)).elim
   ·exact(A 2 rfl rfl (List.eq_nil_of_length_eq_zero D6)).elim
   ·exact(A 3 rfl rfl (List.eq_nil_of_length_eq_zero D6)).elim
   ·obtain⟨a,rfl⟩:=Cv D6;have V:a.op=3:=by simpa using z
    have x:=E rfl a O;obtain⟨o,m,p,n,l⟩:=a;obtain rfl:o=3:=V;simp only[BC,Bool.and_eq_true]at x;have:=List.eq_nil_of_length_eq_zero (by simpa[Aq]using BR x.1.1.1.2:l.length=0);subst this;exact absurd (by simp[CC,pastL]) g
   ·show sem _ (opF 5 _) 0↔_;rw[sem,Ct];simp only[opF,sem,Ct,opS,opP,List.map_map];simp only[List.mem_map,forall_exists_index,and_imp,forall_apply_eq_imp_iff₂,Function.comp];exact⟨fun h a I=>(d rfl a I).1 (h a I),fun h a I=>(d rfl a I).2 (h a I)⟩
   ·show sem _ (opF 6 _) 0↔_;rw[sem,Ct];simp only[opF,sem,Ct,opS,opP,List.map_map];simp only[List.mem_map,Function.comp];constructor
    ·rintro⟨_,⟨a,I,rfl⟩,h⟩;exact⟨_,⟨a,I,rfl⟩,(d rfl a I).1 h⟩
    ·rintro⟨_,⟨a,I,rfl⟩,h⟩;exact⟨_,⟨a,I,rfl⟩,(d rfl a I).2 h⟩
   ·obtain⟨a,rfl⟩:=Cv D6;exact aged_sem s a _ (E rfl a O) 0
   ·obtain⟨a,c,rfl⟩:=Cj D6;have e:=aged_sem s _ _ P 0;show sem (tailW s) (opF 6 [rawF (s 0) c,opF 5 [rawF (s 0) a,Dn (s 0) (.mk 9 nm v b [a,c])]]) 0↔_;rw[sem_or2,sem_and2,d rfl a O,d rfl c O,e];have:∀t,sem s (.mk 9 nm v b [a,c]) t↔CX (sem s a) (sem s c) t:=fun t=>by rw[sem,Ct];exact Iff.rfl
    rw[this,this,until_step _ _ 0]
   ·obtain⟨a,c,rfl⟩:=Cj D6;have e:=aged_sem s _ _ P 0;show sem (tailW s) (opF 5 [rawF (s 0) c,opF 6 [rawF (s 0) a,Dn (s 0) (.mk 10 nm v b [a,c])]]) 0↔_;rw[sem_and2,sem_or2,d rfl a O,d rfl c O,e];have:∀t,sem s (.mk 10 nm v b [a,c]) t↔relS (sem s a) (sem s c) t:=fun t=>by rw[sem,Ct];exact Iff.rfl
    rw[this,this,rel_step _ _ 0]
   ·exact(i rfl).elim
   ·exact(i rfl).elim
   ·exact(i rfl).elim
def cmpI(a b:Int):Int:=if a<b then -1 else if b<a then 1 else 0
def Dq:LU->LU->Int
 | [],[]=>0
 | [],_::_=> -1
 |_::_,[]=>1
 |a::s,b::t=>if a.toNat<b.toNat then -1 else if b.toNat<a.toNat then 1 else Dq s t
def Bu(a b:Int):Int:=if a=0 then b else a
mutual
def BY:Fml->Fml->Int
 | .mk o n v b l,.mk o' n' v' b' l'=>Bu (cmpI o o') (Bu (Dq n n') (Bu (cmpI v v') (Bu (cmpI b b') (Bu (cmpI l.length l'.length) (cmpL l l')))))
def cmpL:LF->LF->Int
 |a::l,c::m=>Bu (BY a c) (cmpL l m)
 | [],_=>0
 |_::_,[]=>0
end
theorem thenI_zero{a b:Int}:Bu a b=0↔a=0/\b=0:=by
 unfold Bu;split<;>simp_all
theorem cmpI_zero{a b:Int}:cmpI a b=0↔a=b:=by unfold cmpI;split<;>(try split)<;>omega
theorem cmpI_flip(a b:Int):cmpI b a= -cmpI a b:=by unfold cmpI;split<;>(try split)<;>(try split)<;>omega
theorem cmpI_trans{a b c:Int}(h:cmpI a b<0)(w:cmpI b c<0):cmpI a c<0:=by
 unfold cmpI at*;split at h<;>(try split at h)<;>split at w<;>(try split at w)<;>split<;>(try split)<;>omega
theorem cmpS_zero:∀{s t:LU},Dq s t=0↔s=t
 | [],[]=>by simp[Dq]
 | [],_::_=>by simp[Dq]
 |_::_,[]=>by simp[Dq]
 |a::s,b::t=>by
  rw[Dq]
  split
  ·rename_i h;refine⟨fun h=>by omega,fun W=>?_⟩;cases W;omega
  split
  ·rename_i h;refine⟨fun h=>by omega,fun W=>?_⟩;cases W;omega
  ·rename_i h1 W;have:a=b:=UInt8.toNat_inj.1 U;rw[cmpS_zero,this];simp
theorem cmpS_flip:∀(s t:LU),Dq t s= -Dq s t
 | [],[]=>rfl
 | [],_::_=>rfl
 |_::_,[]=>rfl
 |a::s,b::t=>by
  rw[Dq,Dq,cmpS_flip s t];by_cases h:a.toNat<b.toNat
  ·rw[if_neg U,if_pos h,if_pos h];rfl
  ·by_cases W:b.toNat<a.toNat
   ·rw[if_pos W,if_neg h,if_pos W]
   ·rw[if_neg W,if_neg h,if_neg h,if_neg W]
theorem cmpS_trans:∀{s t u:LU},Dq s t<0->Dq t u<0->Dq s u<0
 | [],[],u,h,_=>by simp[Dq]at h
 | [],_::_,[],_,h=>by simp[Dq]at h
 | [],_::_,_::_,_,_=>by simp[Dq]
 |_::_,[],u,h,_=>by simp[Dq]at h
 |_::_,_::_,[],_,h=>by simp[Dq]at h
 |a::s,b::t,c::u,h,h'=>by
  rw[Dq]at h h'⊢;by_cases X:a.toNat<b.toNat
  ·by_cases W:c.toNat<b.toNat
   ·rw[if_neg U,if_pos W]at h';omega
   ·rw[if_pos U];omega
  ·rw[if_neg X]at h;by_cases W:b.toNat<a.toNat
   ·rw[if_pos W]at h;omega
   ·rw[if_neg W]at h;by_cases Q:b.toNat<c.toNat
    ·rw[if_pos U];omega
    ·rw[if_neg Q]at h';by_cases z:c.toNat<b.toNat
     ·rw[if_pos z]at h';omega
     ·rw[if_neg z]at h';rw[if_neg U,if_neg U];exact cmpS_trans h h'
theorem then_flip{a b X n:Int}(h:X= -a)(w:a=0->n= -b):Bu X n= -Bu a b:=by
 unfold Bu;by_cases s:a=0
 ·rw[if_pos U,if_pos s];exact w s
 ·rw[if_neg U,if_neg s];exact h
theorem then_lt{a b:Int}:Bu a b<0↔a<0\/a=0/\b<0:=by
 unfold Bu;split<;>omega
theorem then_trans{u t T m d y:Int}(e:u<0->t<0->T<0)(k:u=0->T=t)(N:t=0->T=u)(S:u=0->t=0->m<0->d<0->y<0)(X:Bu u m<0)(W:Bu t d<0):Bu T y<0:=by
 rw[then_lt]at*
 rcases X with X|⟨X,Z⟩<;>rcases W with W|⟨W,a⟩
 ·exact .inl (e X W)
 ·exact .inl (by have:=N W;omega)
 ·exact .inl (by have:=k X;omega)
 ·refine .inr ⟨by have:=k X;omega,S X W Z a⟩
mutual
theorem Bs:∀(f g:Fml),BY f g=0↔f=g
 | .mk o n v b l,.mk o' n' v' b' l'=>by
  rw[BY];simp only[thenI_zero,cmpI_zero,cmpS_zero,Fml.mk.injEq];constructor
  ·rintro⟨rfl,rfl,rfl,rfl,h,h'⟩;exact⟨rfl,rfl,rfl,rfl,(cmpL_zero l l' U).1 h'⟩
  ·rintro⟨rfl,rfl,rfl,rfl,rfl⟩;exact⟨rfl,rfl,rfl,rfl,rfl,(cmpL_zero l l rfl).2 rfl⟩
theorem cmpL_zero:∀(l m:LF),l.length=m.length->(cmpL l m=0↔l=m)
 |a::l,c::m,h=>by
  rw[cmpL,thenI_zero,Bs a c,cmpL_zero l m EC];simp
 | [],[],_=>by simp[cmpL]
 | [],_::_,h=>by simp at h
 |_::_,[],h=>by simp at h
end
mutual
theorem cmpF_flip:∀(f g:Fml),BY g f= -BY f g
 | .mk o n v b l,.mk o' n' v' b' l'=>by
  rw[BY,BY];refine then_flip (cmpI_flip _ _) fun _=>then_flip (cmpS_flip _ _) fun _=>then_flip (cmpI_flip _ _) fun _=>then_flip (cmpI_flip _ _) fun _=>then_flip (cmpI_flip _ _) fun _=>cmpL_flip l l'
theorem cmpL_flip:∀(l m:LF),cmpL m l= -cmpL l m
 |a::l,c::m=>by rw[cmpL,cmpL];exact then_flip (cmpF_flip a c) fun _=>cmpL_flip l m
 | [],[]=>rfl
 | [],_::_=>rfl
 |_::_,[]=>rfl
end
theorem cmpI_left{a b c:Int}(h:cmpI a b=0):cmpI a c=cmpI b c:=by rw[cmpI_zero.1 h]
theorem cmpI_right{a b c:Int}(h:cmpI b c=0):cmpI a c=cmpI a b:=by rw[cmpI_zero.1 h]
theorem cmpS_left{a b c:LU}(h:Dq a b=0):Dq a c=Dq b c:=by rw[cmpS_zero.1 h]
theorem cmpS_right{a b c:LU}(h:Dq b c=0):Dq a c=Dq a b:=by rw[cmpS_zero.1 h]
mutual
theorem DQ:∀(f g k:Fml),BY f g<0->BY g k<0->BY f k<0
 | .mk o n v b l,.mk o' n' v' b' l',.mk o'' n'' v'' b'' l''=>by
  rw[BY,BY,BY]
  refine then_trans cmpI_trans cmpI_left cmpI_right fun _ _=>then_trans cmpS_trans cmpS_left cmpS_right fun _ _=>then_trans cmpI_trans cmpI_left cmpI_right fun _ _=>then_trans cmpI_trans cmpI_left cmpI_right fun _ _=>
   then_trans cmpI_trans cmpI_left cmpI_right fun h1 h2=>cmpL_trans l l' l'' (by have:=cmpI_zero.1 h1;omega) (by have:=cmpI_zero.1 h2;omega)
theorem cmpL_trans:∀(l m k:LF),l.length=m.length->m.length=k.length->cmpL l m<0->cmpL m k<0->cmpL l k<0
 |a::l,c::m,d::k,h,h'=>by
  rw[cmpL,cmpL,cmpL];exact then_trans (DQ a c d) (fun e=>by rw[(Bs a c).1 e]) (fun e=>by rw[(Bs c d).1 e]) fun _ _=>cmpL_trans l m k EC (by simpa using h')
 | [],[],_,_,_=>fun h=>by simp[cmpL]at h
 | [],_::_,_,h,_=>by simp at h
 |_::_,[],_,h,_=>by simp at h
 |_::_,_::_,[],_,h=>by simp at h
end
def insF(a:Fml):LF->LF
 | []=>[a]
 |c::l=>if BY a c<0 then a::c::l else if BY a c=0 then c::l else c::insF a l
def dist(l:LF):LF:=l.foldr insF []
def Inc:LF->Prop
 | []=>True
 |a::l=>(∀c∈l,BY a c<0)/\Inc l
theorem mem_insF{a x:Fml}:∀{l:LF},x∈insF a l↔x=a\/x∈l
 | []=>by simp[insF]
 |c::l=>by
  rw[insF]
  split
  ·simp
  split
  ·rename_i h;have:=(Bs a c).1 h;subst this;simp
  ·simp only[List.mem_cons,mem_insF (l:=l)];constructor
   ·rintro(h|h|h)
    ·exact .inr (.inl h)
    ·exact .inl h
    ·exact .inr (.inr h)
   ·rintro(h|h|h)
    ·exact .inr (.inl h)
    ·exact .inl h
    ·exact .inr (.inr h)
theorem mem_dist{x:Fml}:∀{l:LF},x∈dist l↔x∈l
 | []=>Iff.rfl
 |c::l=>by
  show x∈insF c (dist l)↔_;rw[mem_insF,mem_dist (l:=l)];simp
theorem inc_insF{a:Fml}:∀{l:LF},Inc l->Inc (insF a l)
 | [],_=>by simp[insF,Inc]
 |c::l,h=>by
  rw[insF]
  split
  ·rename_i hlt;refine⟨fun d C=>?_,h⟩;rcases List.mem_cons.1 C with rfl|C
   ·exact hlt
   ·exact DQ _ _ _ hlt (h.1 d C)
  split
  ·exact h
  ·rename_i h1 h2;refine⟨fun d C=>?_,inc_insF h.2⟩;rcases mem_insF.1 C with rfl|C
   ·have:=cmpF_flip d c;omega
   ·exact h.1 d C
theorem inc_dist:∀l:LF,Inc (dist l)
 | []=>trivial
 |c::l=>inc_insF (inc_dist l)
theorem cmp_irr(a:Fml):¬BY a a<0:=by rw[(Bs a a).2 rfl];omega
theorem inc_ext:∀{l m:LF},Inc l->Inc m->(∀x,x∈l↔x∈m)->l=m
 | [],[],_,_,_=>rfl
 | [],c::m,_,_,h=>by have:=(h c).2 O;cases this
 |a::l,[],_,_,h=>by have:=(h a).1 O;cases this
 |a::l,c::m,hl,hm,h=>by
  have e:a=c:=by
   have X:=(h a).1 O;have W:=(h c).2 O;rcases List.mem_cons.1 X with rfl|X
   ·rfl
   ·rcases List.mem_cons.1 W with rfl|W
    ·rfl
    ·exact absurd (DQ _ _ _ (hl.1 c W) (hm.1 a X)) (cmp_irr a)
  subst e
  have:l=m:=inc_ext hl.2 hm.2 fun x=>by
   constructor
   ·intro T;rcases List.mem_cons.1 ((h x).1 (List.mem_cons_of_mem _ T))with rfl|q
    ·exact absurd (hl.1 x T) (cmp_irr x)
    ·exact q
   ·intro T;rcases List.mem_cons.1 ((h x).2 (List.mem_cons_of_mem _ T))with rfl|q
    ·exact absurd (hm.1 x T) (cmp_irr x)
    ·exact q
  rw[this]
theorem dist_id{l:LF}(h:Inc l):dist l=l:=inc_ext (inc_dist l) h fun _=>mem_dist
def C6(N:Int):Int:=if N=6 then 2 else 1
def Cc(N:Int):Int:=if N=6 then 1 else 2
def gath(N:Int):LF->Option (LF)
 | []=>some []
 |f::l=>if f.op=N then(gath N l).map (f.args++ ·)else if f.op=Cc N then none else if f.op=C6 N then gath N l else(gath N l).map (f:: ·)
def oppB(l:LF):Bool:=l.any fun x=>decide (x.op=4)&&l.any fun y=>decide (BY y (x.args.getD 0 Ag)=0)
def joinD(N:Int)(d:LF):Fml:=if oppB d then⟨Cc N,[],0,0,[]⟩else match d with
 | []=>⟨C6 N,[],0,0,[]⟩
 | [a]=>a
 |d=>opF N d
def Dr(N:Int)(l:LF):Fml:=match gath N l with
 |none=>⟨Cc N,[],0,0,[]⟩
 |some g=>joinD N (dist g)
def CY(f:Fml):Bool:=decide (f.op=1)||decide (f.op=2)
def Bh(N:Int)(nm:LU)(v:Int)(ps:LF):Fml:=
 if N=5\/N=6 then Dr N ps
 else if N=8/\CY (ps.getD 0 Ag)=true then ps.getD 0 Ag
 else if N=9/\(CY (ps.getD 1 Ag)=true\/(ps.getD 0 Ag).op=2)then ps.getD 1 Ag
 else if N=10/\(CY (ps.getD 1 Ag)=true\/(ps.getD 0 Ag).op=1)then ps.getD 1 Ag
 else⟨N,nm,v,0,ps⟩
mutual
def As:Fml->Fml
 | .mk op nm v _ args=>Bh op nm v (canonL args)
def canonL:LF->LF
 | []=>[]
 |a::l=>As a::canonL l
end
theorem canonL_eq:∀l,canonL l=l.map As
 | []=>rfl
 |a::l=>by rw[canonL,canonL_eq l];rfl
def Fl(N:Int)(c:Fml):LF:=if c.op=N then c.args else if c.op=C6 N then[]else[c]
def zAny(N:Int)(l:LF):Bool:=l.any fun c=>decide (c.op=Cc N)
def conO(N:Int):Fml:=⟨N,[],0,0,[]⟩
theorem joinD_eq(N:Int)(d:LF):joinD N d=if oppB d then conO (Cc N)else match d with| []=>conO (C6 N)| [a]=>a|d=>opF N d:=rfl
theorem uz_ne{N:Int}(h:N=5\/N=6):Cc N≠N/\C6 N≠N/\Cc N≠C6 N/\(Cc N=1\/Cc N=2)/\(C6 N=1\/C6 N=2):=by
 unfold Cc C6;rcases h with rfl|rfl<;>decide
theorem gath_eq{N:Int}(h:N=5\/N=6):∀l:LF,gath N l=if zAny N l then none else some (l.flatMap (Fl N))
 | []=>rfl
 |f::l=>by
  obtain⟨X,W,Q,_,_⟩:=uz_ne h;have k:=gath_eq h l;rw[gath,k];have M:zAny N (f::l)=(decide (f.op=Cc N)||zAny N l):=rfl;rw[M,List.flatMap_cons];by_cases R:f.op=N
  ·rw[if_pos R,decide_eq_false (by rw[R];exact fun e=>X e.symm),Bool.false_or];have:Fl N f=f.args:=by unfold Fl;rw[if_pos R]
   rw[this];cases zAny N l<;>rfl
  ·rw[if_neg R];by_cases o:f.op=Cc N
   ·rw[if_pos o,decide_eq_true o];rfl
   ·rw[if_neg o,decide_eq_false o,Bool.false_or];by_cases n:f.op=C6 N
    ·rw[if_pos n];have:Fl N f=[]:=by unfold Fl;rw[if_neg R,if_pos n]
     rw[this];rfl
    ·rw[if_neg n];have:Fl N f=[f]:=by unfold Fl;rw[if_neg R,if_neg n]
     rw[this];cases zAny N l<;>rfl
theorem joinM_eq{N:Int}(h:N=5\/N=6)(l:LF):Dr N l=if zAny N l then conO (Cc N)else joinD N (dist (l.flatMap (Fl N))):=by
 unfold Dr;rw[gath_eq h];cases zAny N l<;>rfl
theorem opp_iff{l:LF}:oppB l=true↔∃x∈l,x.op=4/\x.args.getD 0 Ag∈l:=by
 unfold oppB;rw[List.any_eq_true];constructor
 ·rintro⟨x,T,h⟩;rw[Bool.and_eq_true,List.any_eq_true]at h;obtain⟨X,y,F,W⟩:=h;have e:=(Bs _ _).1 (of_decide_eq_true W);exact⟨x,T,of_decide_eq_true X,e▸F⟩
 ·rintro⟨x,T,X,W⟩;refine⟨x,T,?_⟩;rw[Bool.and_eq_true,List.any_eq_true];exact⟨decide_eq_true X,_,W,decide_eq_true ((Bs _ _).2 rfl)⟩
def shO(N:Int)(nm:LU)(v:Int)(args:LF):Prop:=
 DC N=true/\Aq N args.length=true/\(N≠3->nm=[])/\(N≠3->N≠15->N≠16->N≠17->v=0)/\(N=4->∀a∈args,a.op=3)
mutual
def Sh:Fml->Prop
 | .mk op nm v b args=>b=0/\shO op nm v args/\ShL args
def ShL:LF->Prop
 | []=>True
 |a::l=>Sh a/\ShL l
end
theorem shL_iff:∀{l:LF},ShL l↔∀a∈l,Sh a
 | []=>by simp[ShL]
 |a::l=>by rw[ShL,shL_iff];simp
theorem sh_iff{N v b:Int}{nm:LU}{args:LF}:Sh (.mk N nm v b args)↔b=0/\shO N nm v args/\∀a∈args,Sh a:=by rw[Sh,shL_iff]
theorem sh_eq{f:Fml}(h:Sh f):f.bound=0/\shO f.op f.name f.val f.args/\∀a∈f.args,Sh a:=by
 obtain⟨N,p,v,b,args⟩:=f;exact sh_iff.1 h
theorem Cy:∀{f:Fml}{i:Bool},BC i f=true->Sh f
 | .mk op nm v b args,i,h=>by
  simp only[BC,Bool.and_eq_true]at h;obtain⟨⟨⟨⟨X,W⟩,Q⟩,z⟩,S⟩:=h;have I:=BR W;simp only[BX,Bool.and_eq_true,decide_eq_true_eq]at W;obtain⟨⟨⟨⟨⟨⟨⟨g,j⟩,r⟩,k⟩,Z⟩,l⟩,u⟩,d⟩:=W;have N:=Bg X;refine sh_iff.2 ⟨?_,⟨X,I,fun G=>?_,fun e A E V=>?_,fun F a y=>?_⟩,fun a y=>Cy (Da S y)⟩
  ·rw[if_neg U]at u;omega
  ·rw[if_neg G]at d;simpa using d
  ·rw[if_neg e,if_neg U]at Z;omega
  ·rw[if_pos F]at z;subst F;have P:args.length=1:=by simpa[Aq]using I
   obtain⟨c,rfl⟩:=Cv P;have:a=c:=by simpa using y
   subst this;simpa using z
def cfO(N:Int)(args:LF):Prop:=
 (N=5\/N=6->Inc args/\oppB args=false/\∀a∈args,a.op≠N/\a.op≠Cc N/\a.op≠C6 N)/\
 (N=8->CY (args.getD 0 Ag)=false)/\(N=9->CY (args.getD 1 Ag)=false/\(args.getD 0 Ag).op≠2)/\(N=10->CY (args.getD 1 Ag)=false/\(args.getD 0 Ag).op≠1)
mutual
def CF:Fml->Prop
 | .mk op nm v b args=>b=0/\shO op nm v args/\cfO op args/\CFL args
def CFL:LF->Prop
 | []=>True
 |a::l=>CF a/\CFL l
end
theorem cfL_iff:∀{l:LF},CFL l↔∀a∈l,CF a
 | []=>by simp[CFL]
 |a::l=>by rw[CFL,cfL_iff];simp
theorem cf_iff{N v b:Int}{nm:LU}{args:LF}:CF (.mk N nm v b args)↔b=0/\shO N nm v args/\cfO N args/\∀a∈args,CF a:=by rw[CF,cfL_iff]
theorem cf_eq{f:Fml}(h:CF f):f.bound=0/\shO f.op f.name f.val f.args/\cfO f.op f.args/\∀a∈f.args,CF a:=by
 obtain⟨N,p,v,b,args⟩:=f;exact cf_iff.1 h
theorem cf_sh:∀{f:Fml},CF f->Sh f
 | .mk op nm v b args,h=>by
  obtain⟨X,W,_,z⟩:=cf_iff.1 h;exact sh_iff.2 ⟨X,W,fun a I=>cf_sh (z a I)⟩
theorem sh_con{f:Fml}(h:Sh f)(R:f.op=1\/f.op=2):f=conO f.op:=by
 obtain⟨N,p,v,b,i⟩:=f;obtain⟨X,⟨_,Q,z,S,_⟩,_⟩:=sh_iff.1 h;have W:N=1\/N=2:=R
 have a:i.length=0:=by
  have:=Q;unfold Aq at this;rw[if_pos U]at this;exact of_decide_eq_true this
 rw[X,z U,S U U U U,List.eq_nil_of_length_eq_zero a];rfl
theorem cf_con{N:Int}(h:N=1\/N=2):CF (conO N):=by
 refine cf_iff.2 ⟨rfl,⟨?_,?_,fun _=>rfl,fun _ _ _ _=>rfl,fun z=>by omega⟩,⟨fun S=>by omega,fun S=>by omega,fun S=>by omega,fun S=>by omega⟩,fun a I=>by cases I⟩
 ·rcases h with rfl|rfl<;>rfl
 ·rcases h with rfl|rfl<;>rfl
theorem fl_cf{N:Int}(h:N=5\/N=6){c:Fml}(V:CF c)(o:c.op≠Cc N):∀a∈Fl N c,CF a/\a.op≠N/\a.op≠Cc N/\a.op≠C6 N:=by
 obtain⟨_,_,Q,z⟩:=cf_eq V;intro a I;unfold Fl at I;by_cases R:c.op=N
 ·rw[if_pos R]at I;have:=(Q.1 (by rw[R];exact h)).2.2 a I;rw[R]at this;exact⟨z a I,this⟩
 ·rw[if_neg R]at I;by_cases n:c.op=C6 N
  ·rw[if_pos n]at I;cases I
  ·rw[if_neg n]at I;have:a=c:=by simpa using I
   subst this;exact⟨V,R,o,n⟩
theorem fl_self{N:Int}{a:Fml}(X:a.op≠N)(W:a.op≠C6 N):Fl N a=[a]:=by unfold Fl;rw[if_neg X,if_neg W]
theorem zAny_false{N:Int}{l:LF}:zAny N l=false↔∀c∈l,c.op≠Cc N:=by
 unfold zAny;rw[List.any_eq_false];simp
theorem zAny_true{N:Int}{l:LF}:zAny N l=true↔∃c∈l,c.op=Cc N:=by
 unfold zAny;rw[List.any_eq_true];simp
theorem flat_self{N:Int}:∀{d:LF},(∀a∈d,a.op≠N/\a.op≠C6 N)->d.flatMap (Fl N)=d
 | [],_=>rfl
 |a::d,h=>by
  rw[List.flatMap_cons,fl_self (h a O).1 (h a O).2,flat_self fun c V=>h c D9];rfl
theorem joinD_cf{N:Int}(h:N=5\/N=6){d:LF}(H:Inc d)(C:∀a∈d,CF a/\a.op≠N/\a.op≠Cc N/\a.op≠C6 N):CF (joinD N d):=by
 obtain⟨_,_,_,o,n⟩:=uz_ne h;rw[joinD_eq];cases ho:oppB d with
 |true=>exact cf_con o
 |false=>
  match d,H,C,ho with
  | [],_,_,_=>exact cf_con n
  | [a],_,C,_=>exact(C a O).1
  |a::c::d,H,C,ho=>
   refine cf_iff.2 ⟨rfl,⟨?_,?_,fun _=>rfl,fun _ _ _ _=>rfl,fun z=>by omega⟩,⟨fun _=>⟨H,ho,fun x T=>(C x T).2⟩,fun B=>by omega,fun B=>by omega,fun B=>by omega⟩,fun x T=>(C x T).1⟩
   ·rcases h with rfl|rfl<;>rfl
   ·unfold Aq;rw[if_neg U,if_pos h];exact decide_eq_true O
theorem dist_parts{N:Int}(h:N=5\/N=6){l:LF}(M:∀c∈l,CF c)(o:zAny N l=false):∀a∈dist (l.flatMap (Fl N)),CF a/\a.op≠N/\a.op≠Cc N/\a.op≠C6 N:=by
 intro a I;rw[mem_dist,List.mem_flatMap]at I;obtain⟨c,V,I⟩:=I;exact fl_cf h (M c V) (zAny_false.1 o c V) a I
theorem joinM_cf{N:Int}(h:N=5\/N=6){l:LF}(M:∀c∈l,CF c):CF (Dr N l):=by
 rw[joinM_eq h];cases hz:zAny N l with
 |true=>exact cf_con (uz_ne h).2.2.2.1
 |false=>exact joinD_cf h (inc_dist _) (dist_parts h M hz)
theorem canon_eq(N v b:Int)(nm:LU)(args:LF):As (.mk N nm v b args)=Bh N nm v (args.map As):=by rw[As,canonL_eq]
theorem canonOp_cf{N v:Int}{nm:LU}{args:LF}(h:shO N nm v args)(I:∀a∈args,CF a):CF (Bh N nm v args):=by
 obtain⟨c,W,Q,z,S⟩:=h;have f:=Bg c;unfold Bh;by_cases R:N=5\/N=6
 ·rw[if_pos R];exact joinM_cf R I
 rw[if_neg R]
 have d:∀i,i<args.length->CF (args.getD i Ag):=fun i H=>by
  rw[List.getD_eq_getElem?_getD,List.getElem?_eq_getElem H];exact I _ (List.getElem_mem H)
 have x:N=8->args.length=1:=fun e=>by subst e;simpa[Aq]using W
 have b:N=9\/N=10->args.length=2:=fun e=>by
  unfold Aq at W;rw[if_neg U,if_neg R,if_pos U]at W;exact of_decide_eq_true W
 by_cases M:N=8/\CY (args.getD 0 Ag)=true
 ·rw[if_pos M];exact d 0 (by have:=x M.1;omega)
 rw[if_neg M];by_cases X:N=9/\(CY (args.getD 1 Ag)=true\/(args.getD 0 Ag).op=2)
 ·rw[if_pos X];exact d 1 (by have:=b (.inl X.1);omega)
 rw[if_neg X];by_cases Z:N=10/\(CY (args.getD 1 Ag)=true\/(args.getD 0 Ag).op=1)
 ·rw[if_pos Z];exact d 1 (by have:=b (.inr Z.1);omega)
 rw[if_neg Z];refine cf_iff.2 ⟨rfl,⟨c,W,Q,z,S⟩,⟨fun e=>absurd e R,fun e=>?_,fun e=>?_,fun e=>?_⟩,I⟩
 ·cases hb:CY (args.getD 0 Ag)with
  |false=>rfl
  |true=>exact absurd ⟨e,hb⟩ M
 ·refine⟨?_,fun w=>X ⟨e,.inr w⟩⟩;cases hb:CY (args.getD 1 Ag)with
  |false=>rfl
  |true=>exact absurd ⟨e,.inl hb⟩ X
 ·refine⟨?_,fun w=>Z ⟨e,.inr w⟩⟩;cases hb:CY (args.getD 1 Ag)with
  |false=>rfl
  |true=>exact absurd ⟨e,.inl hb⟩ Z
theorem canon_op3{f:Fml}(h:f.op=3):(As f).op=3:=by
 obtain⟨N,p,v,b,i⟩:=f;obtain rfl:N=3:=h;rw[canon_eq];rfl
theorem shO_map{N v:Int}{nm:LU}{args:LF}(h:shO N nm v args)(g:Fml->Fml)(t:∀a,a.op=3->(g a).op=3):shO N nm v (args.map g):=by
 obtain⟨X,W,Q,z,S⟩:=h;refine⟨X,by rw[List.length_map];exact W,Q,z,fun e a I=>?_⟩;obtain⟨c,V,rfl⟩:=List.mem_map.1 I;exact t c (S e c V)
theorem canon_cf:∀{f:Fml},Sh f->CF (As f)
 | .mk op nm v b args,h=>by
  obtain⟨_,W,Q⟩:=sh_iff.1 h;rw[canon_eq];refine canonOp_cf (shO_map W As fun a=>canon_op3) fun a I=>?_;obtain⟨c,V,rfl⟩:=List.mem_map.1 I;exact canon_cf (Q c V)
theorem canon_fix:∀{f:Fml},CF f->As f=f
 | .mk op nm v b args,h=>by
  obtain⟨X,W,Q,z⟩:=cf_iff.1 h
  have e:args.map As=args:=by
   have:∀l:LF,(∀a∈l,As a=a)->l.map As=l:=by
    intro l
    induction l with
    |nil=>intro _;rfl
    |cons a l ih=>intro M;rw[List.map_cons,M a O,ih fun c V=>M c D9]
   exact this args fun a I=>canon_fix (z a I)
  rw[canon_eq,e];unfold Bh;by_cases R:op=5\/op=6
  ·rw[if_pos R,joinM_eq R];obtain⟨i,j,r⟩:=Q.1 R;have o:zAny op args=false:=zAny_false.2 fun c V=>(r c V).2.1;rw[o,flat_self fun a I=>⟨(r a I).1,(r a I).2.2⟩,dist_id i,joinD_eq,j]
   have M:2<=args.length:=by
    have:=W.2.1;unfold Aq at this;rw[if_neg U,if_pos R]at this;exact of_decide_eq_true this
   have g:nm=[]:=W.2.2.1 U;have A:v=0:=W.2.2.2.1 U U U U;subst X;subst g;subst A
   match args,M with
   |a::c::d,_=>rfl
  rw[if_neg R];rw[if_neg (by rintro⟨e,w⟩;rw[Q.2.1 e]at w;cases w)]
  rw[if_neg (by
   rintro⟨e,w|w⟩
   ·rw[(Q.2.2.1 e).1]at w;cases w
   ·exact(Q.2.2.1 e).2 w)]
  rw[if_neg (by
   rintro⟨e,w|w⟩
   ·rw[(Q.2.2.2 e).1]at w;cases w
   ·exact(Q.2.2.2 e).2 w)]
  rw[X]
theorem aged_eq(x:Vl)(N:Int)(nm:LU)(v b:Int)(args:LF):Dn x (.mk N nm v b args)=.mk N nm (agedV x N v ((args.map (Bw x)).getD 0 false) (Bw x (.mk N nm v b args))) 0 (args.map (Dn x)):=by rw[Dn,agedL_eq]
theorem agedV_keep(x:Vl){N:Int}(v:Int)(a b:Bool)(h:¬(N=15\/N=16\/N=17)):agedV x N v a b=v:=by
 unfold agedV;rw[if_neg U,if_neg U]
theorem getD_map{α β:Type}(g:α->β)(l:List α)(i:Nat)(a:α)(b:β)(H:i<l.length):(l.map g).getD i b=g (l.getD i a):=by
 simp[List.getD_eq_getElem?_getD,List.getElem?_eq_getElem H]
theorem isCon_iff{f:Fml}:CY f=true↔f.op=1\/f.op=2:=by simp[CY]
theorem canonOp_8(nm:LU)(v:Int)(l:LF):Bh 8 nm v l=if CY (l.getD 0 Ag)=true then l.getD 0 Ag else⟨8,nm,v,0,l⟩:=by
 unfold Bh;rw[if_neg U,if_neg (show¬((8:Int)=9/\_)from fun q=>absurd q.1 U),if_neg (show¬((8:Int)=10/\_)from fun q=>absurd q.1 U)];simp
theorem canonOp_9(nm:LU)(v:Int)(l:LF):Bh 9 nm v l=if CY (l.getD 1 Ag)=true\/(l.getD 0 Ag).op=2 then l.getD 1 Ag else⟨9,nm,v,0,l⟩:=by
 unfold Bh;rw[if_neg U,if_neg (show¬((9:Int)=8/\_)from fun q=>absurd q.1 U),if_neg (show¬((9:Int)=10/\_)from fun q=>absurd q.1 U)];simp
theorem canonOp_10(nm:LU)(v:Int)(l:LF):Bh 10 nm v l=if CY (l.getD 1 Ag)=true\/(l.getD 0 Ag).op=1 then l.getD 1 Ag else⟨10,nm,v,0,l⟩:=by
 unfold Bh;rw[if_neg U,if_neg (show¬((10:Int)=8/\_)from fun q=>absurd q.1 U),if_neg (show¬((10:Int)=9/\_)from fun q=>absurd q.1 U)];simp
theorem canonOp_E{N:Int}(h:¬(N=5\/N=6))(B:N≠8)(f:N≠9)(k:N≠10)(nm:LU)(v:Int)(l:LF):Bh N nm v l=⟨N,nm,v,0,l⟩:=by
 unfold Bh;rw[if_neg h,if_neg (fun q=>B q.1),if_neg (fun q=>f q.1),if_neg (fun q=>k q.1)]
theorem raw_eq(x:Vl)(N:Int)(nm:LU)(v b:Int)(args:LF):rawF x (.mk N nm v b args)=if CC (.mk N nm v b args)then constF (Bw x (.mk N nm v b args))else rawOp N (Dn x (.mk N nm v b args)) (args.map (rawF x)) (args.map (Dn x)):=by rw[rawF,rawL_eq,agedL_eq]
end
mutual
def szF:Fml->Nat
 | .mk _ _ _ _ args=>szL args+1
def szL:LF->Nat
 | []=>0
 |a::l=>szF a+szL l
end
theorem BJ(f:Fml):szF f=szL f.args+1:=by cases f;simp[szF,Fml.args]
theorem szF_pos(f:Fml):1<=szF f:=by rw[BJ];omega
theorem Bz:∀l:LF,l.length<=szL l
 | []=>by simp
 |a::l=>by have:=szF_pos a;have:=Bz l;simp only[szL,List.length_cons];omega
theorem BO:∀{l:LF}{a:Fml},a∈l->szF a<=szL l
 |c::l,a,h=>by
  simp only[szL];rcases List.mem_cons.1 h with rfl|h
  ·omega
  ·have:=BO h;omega
mutual
def dpF:Fml->Nat
 | .mk _ _ _ _ args=>dpL args+1
def dpL:LF->Nat
 | []=>0
 |f::l=>max (dpF f) (dpL l)
end
theorem BQ(f:Fml):dpF f=dpL f.args+1:=by cases f;simp[dpF,Fml.args]
theorem Bi:∀{l:LF}{a:Fml},a∈l->dpF a<=dpL l
 |c::l,a,h=>by
  simp only[dpL];rcases List.mem_cons.1 h with rfl|h
  ·omega
  ·have:=Bi h;omega
section
variable {mk:Prop}[MK mk]
theorem bareL_of{i:Bool}:∀{l:LF},(∀a∈l,BC i a=true)->bareL i l=true
 | [],_=>rfl
 |a::l,h=>by rw[bareL,h a O,bareL_of fun c V=>h c D9];rfl
theorem CZ{N v b:Int}{nm:LU}{args:LF}{i:Bool}(h:BC i (.mk N nm v b args)=true):
  DC N=true/\BX N nm v b args.length=true/\(i=true->futB N=false)/\∀a∈args,BC (i||pstB N) a=true:=by
 simp only[BC,Bool.and_eq_true]at h;obtain⟨⟨⟨⟨X,W⟩,Q⟩,z⟩,S⟩:=h;refine⟨X,W,fun e=>?_,fun a I=>Da S I⟩;subst e;simpa using Q
theorem bare_mk{N v b:Int}{nm:LU}{args:LF}{i:Bool}(X:DC N=true)(W:BX N nm v b args.length=true)(Q:i=true->futB N=false)(z:N=4->∀a∈args,a.op=3)(S:∀a∈args,BC (i||pstB N) a=true):
  BC i (.mk N nm v b args)=true:=by
 simp only[BC,Bool.and_eq_true];refine⟨⟨⟨⟨X,W⟩,?_⟩,?_⟩,bareL_of S⟩
 ·cases i with
  |false=>rfl
  |true=>rw[Q rfl];rfl
 ·by_cases e:N=4
  ·rw[if_pos e];subst e
   have M:args.length=1:=by
    have:=BR W;simpa[Aq]using this
   obtain⟨a,rfl⟩:=Cv M;exact decide_eq_true (z rfl a O)
  ·rw[if_neg e]
theorem bare_con{N:Int}(h:N=1\/N=2)(i:Bool):BC i (conO N)=true:=by rcases h with rfl|rfl<;>cases i<;>rfl
theorem pst_56{N:Int}(h:N=5\/N=6)(i:Bool):(i||pstB N)=i:=by rcases h with rfl|rfl<;>cases i<;>rfl
theorem fl_bare{N:Int}(h:N=5\/N=6){c:Fml}{i:Bool}(V:BC i c=true):∀a∈Fl N c,BC i a=true:=by
 intro a I;unfold Fl at I;by_cases R:c.op=N
 ·rw[if_pos R]at I;obtain⟨o,p,v,b,d⟩:=c;obtain rfl:o=N:=R;have:=(CZ V).2.2.2 a I
  rwa [pst_56 h]at this
 ·rw[if_neg R]at I
  split at I
  ·cases I
  ·have:a=c:=by simpa using I
   subst this;exact V
theorem shaped_56{N:Int}(h:N=5\/N=6){n:Nat}(G:2<=n):BX N [] 0 0 n=true:=by
 unfold BX Aq;rcases h with rfl|rfl<;>simp[G]
theorem join_bare{N:Int}(h:N=5\/N=6){i:Bool}{l:LF}(M:∀c∈l,BC i c=true):BC i (Dr N l)=true:=by
 obtain⟨b,g,z,s,F⟩:=uz_ne h;rw[joinM_eq h];cases zAny N l with
 |true=>exact bare_con s i
 |false=>
  simp only[Bool.false_eq_true,if_false];rw[joinD_eq]
  have C:∀a∈dist (l.flatMap (Fl N)),BC i a=true:=by
   intro a I;rw[mem_dist,List.mem_flatMap]at I;obtain⟨c,V,I⟩:=I;exact fl_bare h (M c V) a I
  generalize dist (l.flatMap (Fl N))=d at C;cases oppB d with
  |true=>exact bare_con s i
  |false=>
   match d,C with
   | [],_=>exact bare_con F i
   | [a],C=>exact C a O
   |a::c::d,C=>
    refine bare_mk ?_ (shaped_56 h O) ?_ (fun e=>by omega) fun x T=>by rw[pst_56 h];exact C x T
    ·rcases h with rfl|rfl<;>rfl
    ·intro _;rcases h with rfl|rfl<;>rfl
theorem shaped_zero{N v b:Int}{nm:LU}{n:Nat}(h:BX N nm v b n=true):BX N nm v 0 n=true:=by
 simp only[BX,Bool.and_eq_true,decide_eq_true_eq]at h⊢;obtain⟨⟨⟨q,f⟩,u⟩,I⟩:=h;refine⟨⟨⟨q,by omega⟩,?_⟩,I⟩
 split<;>omega
theorem bare_canon:∀{f:Fml}{i:Bool},BC i f=true->BC i (As f)=true
 | .mk op nm v b args,i,h=>by
  obtain⟨m,W,Q,z⟩:=CZ h;have N:=Bg m;have o:=sh_iff.1 (Cy h);have I:=BR W;have j:∀a∈args,BC (i||pstB op) (As a)=true:=fun a y=>bare_canon (z a y);rw[canon_eq];by_cases R:op=5\/op=6
  ·unfold Bh;rw[if_pos R];refine join_bare R fun c V=>?_;obtain⟨a,y,rfl⟩:=List.mem_map.1 V;have:=j a y
   rwa [pst_56 R]at this
  have g:BC i (.mk op nm v 0 (args.map As))=true:=by
   refine bare_mk m (by rw[List.length_map];exact shaped_zero W) Q (fun e a y=>?_) fun a y=>?_
   ·obtain⟨c,V,rfl⟩:=List.mem_map.1 y;exact canon_op3 (o.2.1.2.2.2.2 e c V)
   ·obtain⟨c,V,rfl⟩:=List.mem_map.1 y;exact j c V
  have d:∀k,k<args.length->pstB op=false->BC i ((args.map As).getD k Ag)=true:=fun k P n=>by
   rw[getD_map As args k Ag Ag P]
   have y:args.getD k Ag∈args:=by
    rw[List.getD_eq_getElem?_getD,List.getElem?_eq_getElem P];exact List.getElem_mem P
   have:=j _ y
   rwa [n,Bool.or_false]at this
  by_cases l:op=8
  ·subst l;have M:args.length=1:=by simpa[Aq]using I
   rw[canonOp_8]
   split
   ·exact d 0 U rfl
   ·exact g
  by_cases L:op=9
  ·subst L;have M:args.length=2:=by simpa[Aq]using I
   rw[canonOp_9]
   split
   ·exact d 1 U rfl
   ·exact g
  by_cases X:op=10
  ·subst X;have M:args.length=2:=by simpa[Aq]using I
   rw[canonOp_10]
   split
   ·exact d 1 U rfl
   ·exact g
  rw[canonOp_E R l L X];exact g
theorem dpL_le{n:Nat}:∀{l:LF},dpL l<=n↔∀a∈l,dpF a<=n
 | []=>by simp[dpL]
 |a::l=>by rw[dpL,Nat.max_le,dpL_le];simp
theorem szL_cat:∀l m:LF,szL (l++m)=szL l+szL m
 | [],m=>by simp[szL]
 |a::l,m=>by rw[List.cons_append,szL,szL,szL_cat l m];omega
theorem sz_ins(a:Fml):∀l:LF,szL (insF a l)<=szF a+szL l
 | []=>by simp[insF,szL]
 |c::l=>by
  have:=sz_ins a l;unfold insF
  split
  ·simp only[szL];omega
  ·split
   ·simp only[szL];omega
   ·simp only[szL];omega
theorem sz_dist:∀l:LF,szL (dist l)<=szL l
 | []=>Nat.le_refl _
 |a::l=>by
  have X:=sz_ins a (dist l);have W:=sz_dist l;show szL (insF a (dist l))<=szF a+szL l;omega
theorem sz_flat(N:Int):∀l:LF,szL (l.flatMap (Fl N))<=szL l
 | []=>Nat.le_refl _
 |a::l=>by
  have W:=sz_flat N l;rw[List.flatMap_cons,szL_cat]
  have X:szL (Fl N a)<=szF a:=by
   unfold Fl
   split
   ·rw[BJ];omega
   ·split
    ·simp[szL]
    ·simp[szL]
  simp only[szL];omega
theorem sz_join{N:Int}(h:N=5\/N=6)(l:LF):szF (Dr N l)<=szL l+1:=by
 rw[joinM_eq h];have X:=sz_dist (l.flatMap (Fl N));have W:=sz_flat N l;cases zAny N l with
 |true=>simp[conO,szF,szL]
 |false=>
  simp only[Bool.false_eq_true,if_false];rw[joinD_eq];generalize dist (l.flatMap (Fl N))=d at X;cases oppB d with
  |true=>simp[conO,szF,szL]
  |false=>
   match d,X with
   | [],_=>simp[conO,szF,szL]
   | [a],X=>simp only[szL]at X;simp only[Bool.false_eq_true,if_false];omega
   |a::c::d,X=>show szL (a::c::d)+1<=_;omega
theorem sz_getD{l:LF}{k:Nat}(h:k<l.length):szF (l.getD k Ag)<=szL l:=by
 rw[List.getD_eq_getElem?_getD,List.getElem?_eq_getElem h];exact BO (List.getElem_mem h)
theorem canonOp_sz{N v:Int}{nm:LU}{l:LF}(I:Aq N l.length=true):szF (Bh N nm v l)<=szL l+1:=by
 by_cases R:N=5\/N=6
 ·unfold Bh;rw[if_pos R];exact sz_join R l
 have G:szF (.mk N nm v 0 l)<=szL l+1:=Nat.le_refl _;by_cases k:N=8
 ·subst k;have M:l.length=1:=by simpa[Aq]using I
  have:=@sz_getD l 0 U;rw[canonOp_8];split
  ·omega
  ·exact G
 by_cases L:N=9
 ·subst L;have M:l.length=2:=by simpa[Aq]using I
  have:=@sz_getD l 1 U;rw[canonOp_9];split
  ·omega
  ·exact G
 by_cases X:N=10
 ·subst X;have M:l.length=2:=by simpa[Aq]using I
  have:=@sz_getD l 1 U;rw[canonOp_10];split
  ·omega
  ·exact G
 rw[canonOp_E R k L X];exact G
theorem szL_map(g:Fml->Fml):∀l:LF,(∀a∈l,szF (g a)<=szF a)->szL (l.map g)<=szL l
 | [],_=>Nat.le_refl _
 |a::l,h=>by
  have X:=h a O;have W:=szL_map g l fun c V=>h c D9;simp only[List.map_cons,szL];omega
theorem canon_sz:∀{f:Fml},Sh f->szF (As f)<=szF f
 | .mk op nm v b args,h=>by
  obtain⟨_,W,Q⟩:=sh_iff.1 h;rw[canon_eq];refine Nat.le_trans (canonOp_sz (by rw[List.length_map];exact W.2.1)) ?_;have:=szL_map As args fun a I=>canon_sz (Q a I);show _<=szL args+1;omega
theorem aged_sz(x:Vl):∀f:Fml,szF (Dn x f)=szF f
 | .mk op nm v b args=>by
  rw[aged_eq]
  have:∀l:LF,(∀a∈l,szF (Dn x a)=szF a)->szL (l.map (Dn x))=szL l:=by
   intro l
   induction l with
   |nil=>intro _;rfl
   |cons a l ih=>intro M;rw[List.map_cons,szL,szL,M a O,ih fun c V=>M c D9]
  show szL (args.map (Dn x))+1=szL args+1;rw[this args fun a _=>aged_sz x a]
theorem dp_sz:∀f:Fml,dpF f<=szF f
 | .mk op nm v b args=>by
  have:dpL args<=szL args:=dpL_le.2 fun a I=>Nat.le_trans (dp_sz a) (BO I);show dpL args+1<=szL args+1;omega
mutual
def isB(k:LU->Int->Bool):Fml->Bool
 | .mk op nm v _ args=>(if op=3 then k nm v else true)&&isL k args
def isL(k:LU->Int->Bool):LF->Bool
 | []=>true
 |a::l=>isB k a&&isL k l
end
theorem isL_iff{k:LU->Int->Bool}:∀{l:LF},isL k l=true↔∀a∈l,isB k a=true
 | []=>by simp[isL]
 |a::l=>by rw[isL,Bool.and_eq_true,isL_iff];simp
theorem is_iff{k:LU->Int->Bool}{N v b:Int}{nm:LU}{args:LF}:isB k (.mk N nm v b args)=true↔(N=3->k nm v=true)/\∀a∈args,isB k a=true:=by
 rw[isB,Bool.and_eq_true,isL_iff];by_cases h:N=3
 ·rw[if_pos h];simp[h]
 ·rw[if_neg h];simp[h]
theorem is_con(k:LU->Int->Bool){N:Int}(h:N=1\/N=2):isB k (conO N)=true:=by rcases h with rfl|rfl<;>rfl
theorem is_join{k:LU->Int->Bool}{N:Int}(h:N=5\/N=6){l:LF}(M:∀c∈l,isB k c=true):isB k (Dr N l)=true:=by
 obtain⟨f,g,z,s,F⟩:=uz_ne h;rw[joinM_eq h];cases zAny N l with
 |true=>exact is_con k s
 |false=>
  simp only[Bool.false_eq_true,if_false];rw[joinD_eq]
  have C:∀a∈dist (l.flatMap (Fl N)),isB k a=true:=by
   intro a I;rw[mem_dist,List.mem_flatMap]at I;obtain⟨c,V,I⟩:=I;have A:=M c V;unfold Fl at I
   split at I
   ·obtain⟨o,p,v,b,i⟩:=c;exact(is_iff.1 A).2 a I
   ·split at I
    ·cases I
    ·have:a=c:=by simpa using I
     subst this;exact A
  generalize dist (l.flatMap (Fl N))=d at C;cases oppB d with
  |true=>exact is_con k s
  |false=>
   match d,C with
   | [],_=>exact is_con k F
   | [a],C=>exact C a O
   |a::c::d,C=>exact is_iff.2 ⟨fun e=>by omega,C⟩
theorem is_canon{k:LU->Int->Bool}:∀{f:Fml},Sh f->isB k f=true->isB k (As f)=true
 | .mk op nm v b args,h,hk=>by
  obtain⟨_,W,Q⟩:=sh_iff.1 h;obtain⟨j,l⟩:=is_iff.1 hk
  have d:∀a∈args.map As,isB k a=true:=fun a I=>by
   obtain⟨c,V,rfl⟩:=List.mem_map.1 I;exact is_canon (Q c V) (l c V)
  rw[canon_eq];by_cases R:op=5\/op=6
  ·unfold Bh;rw[if_pos R];exact is_join R d
  have G:isB k (.mk op nm v 0 (args.map As))=true:=is_iff.2 ⟨j,d⟩
  have t:∀i,i<args.length->isB k ((args.map As).getD i Ag)=true:=fun i H=>by
   have g:i<(args.map As).length:=by rw[List.length_map];exact H
   rw[List.getD_eq_getElem?_getD,List.getElem?_eq_getElem g];exact d _ (List.getElem_mem g)
  have I:=W.2.1;by_cases e:op=8
  ·subst e;have M:args.length=1:=by simpa[Aq]using I
   rw[canonOp_8];split
   ·exact t 0 U
   ·exact G
  by_cases L:op=9
  ·subst L;have M:args.length=2:=by simpa[Aq]using I
   rw[canonOp_9];split
   ·exact t 1 U
   ·exact G
  by_cases X:op=10
  ·subst X;have M:args.length=2:=by simpa[Aq]using I
   rw[canonOp_10];split
   ·exact t 1 U
   ·exact G
  rw[canonOp_E R e L X];exact G
theorem is_aged{k:LU->Int->Bool}(x:Vl):∀{f:Fml},isB k f=true->isB k (Dn x f)=true
 | .mk op nm v b args,hk=>by
  obtain⟨d,l⟩:=is_iff.1 hk;rw[aged_eq];refine is_iff.2 ⟨fun e=>?_,fun a I=>?_⟩
  ·rw[agedV_keep x v _ _ U];exact d e
  ·obtain⟨c,V,rfl⟩:=List.mem_map.1 I;exact is_aged x (l c V)
def semJ(s:Wd)(N:Int)(l:LF)(t:Nat):Prop:=if N=5 then∀a∈l,sem s a t else∃a∈l,sem s a t
theorem sem_56{N:Int}(h:N=5\/N=6)(s:Wd)(nm:LU)(v b:Int)(l:LF)(t:Nat):sem s (.mk N nm v b l) t↔semJ s N l t:=by
 rw[sem_eq];simp only[Fml.op,Fml.name,Fml.val,Fml.bound,Fml.args];rcases h with rfl|rfl
 ·simp[opS,opP,semJ]
 ·have e:semJ s 6 l t↔∃a∈l,sem s a t:=by unfold semJ;rw[if_neg D7]
  rw[e];simp only[opS,opP];simp;exact⟨fun⟨_,⟨a,ha,e⟩,h⟩=>⟨a,ha,by rw[e];exact h⟩,fun⟨a,ha,h⟩=>⟨_,⟨a,ha,rfl⟩,h⟩⟩
theorem sem_unit{N:Int}(h:N=5\/N=6)(s:Wd)(t:Nat):sem s (conO (C6 N)) t↔N=5:=by
 rcases h with rfl|rfl<;>simp[conO,C6,sem,opS,opP]
theorem sem_zero{N:Int}(h:N=5\/N=6)(s:Wd)(t:Nat):sem s (conO (Cc N)) t↔N=6:=by
 rcases h with rfl|rfl<;>simp[conO,Cc,sem,opS,opP]
theorem semJ_nil{N:Int}(h:N=5\/N=6)(s:Wd)(t:Nat):semJ s N [] t↔N=5:=by
 rcases h with rfl|rfl<;>simp[semJ]
theorem semJ_one{N:Int}(s:Wd)(a:Fml)(t:Nat):semJ s N [a] t↔sem s a t:=by
 unfold semJ;split<;>simp
theorem semJ_ext{N:Int}(s:Wd){l m:LF}(t:Nat)(h:∀x,x∈l↔x∈m):semJ s N l t↔semJ s N m t:=by
 unfold semJ
 split
 ·exact⟨fun k a I=>k a ((h a).2 I),fun k a I=>k a ((h a).1 I)⟩
 ·exact⟨fun⟨a,I,k⟩=>⟨a,(h a).1 I,k⟩,fun⟨a,I,k⟩=>⟨a,(h a).2 I,k⟩⟩
theorem semJ_flat{N:Int}(s:Wd){l:LF}(g:Fml->LF)(t:Nat)(h:∀c∈l,(semJ s N (g c) t↔sem s c t)):semJ s N (l.flatMap g) t↔semJ s N l t:=by
 unfold semJ at*
 split
 ·rename_i h5;simp only[if_pos h5]at h
  exact⟨fun k c V=>(h c V).1 fun a I=>k a (List.mem_flatMap.2 ⟨c,V,I⟩),fun k a I=>by
   obtain⟨c,V,I⟩:=List.mem_flatMap.1 I;exact(h c V).2 (k c V) a I⟩
 ·rename_i h5;simp only[if_neg h5]at h
  exact⟨fun⟨a,I,k⟩=>by
   obtain⟨c,V,I⟩:=List.mem_flatMap.1 I;exact⟨c,V,(h c V).1 ⟨a,I,k⟩⟩,fun⟨c,V,k⟩=>by
   obtain⟨a,I,k⟩:=(h c V).2 k;exact⟨a,List.mem_flatMap.2 ⟨c,V,I⟩,k⟩⟩
theorem fl_sem{N:Int}(h:N=5\/N=6)(s:Wd)(t:Nat){c:Fml}(V:Sh c):semJ s N (Fl N c) t↔sem s c t:=by
 unfold Fl;by_cases X:c.op=N
 ·rw[if_pos X];obtain⟨o,p,v,b,l⟩:=c;have X:o=N:=X;subst X;exact(sem_56 h s p v b l t).symm
 rw[if_neg X];by_cases W:c.op=C6 N
 ·rw[if_pos W,semJ_nil h];have n:c.op=1\/c.op=2:=by rw[W];exact(uz_ne h).2.2.2.2
  rw[sh_con V n,W];exact(sem_unit h s t).symm
 rw[if_neg W];exact semJ_one s c t
theorem fl_sh{N:Int}{c:Fml}(V:Sh c):∀a∈Fl N c,Sh a:=by
 intro a I;unfold Fl at I
 split at I
 ·exact(sh_eq V).2.2 a I
 ·split at I
  ·cases I
  ·simp at I;rw[I];exact V
theorem sem_not{f:Fml}(K:Sh f)(z:f.op=4)(s:Wd)(t:Nat):sem s f t↔¬sem s (f.args.getD 0 Ag) t:=by
 obtain⟨N,p,v,b,l⟩:=f;have z:N=4:=z;subst z;obtain⟨_,⟨_,I,_⟩,_⟩:=sh_iff.1 K;have M:l.length=1:=by simpa[Aq]using I
 obtain⟨a,rfl⟩:=Cv M;simp[sem,semL,opS,opP,Fml.args]
theorem join_sem{N:Int}(h:N=5\/N=6)(s:Wd){ps:LF}(v:∀c∈ps,Sh c)(t:Nat):sem s (Dr N ps) t↔semJ s N ps t:=by
 rw[joinM_eq h];cases hz:zAny N ps with
 |true=>
  rw[if_pos rfl,sem_zero h];obtain⟨c,V,R⟩:=zAny_true.1 hz;have n:c.op=1\/c.op=2:=by rw[R];exact(uz_ne h).2.2.2.1
  have D:sem s c t↔N=6:=by rw[sh_con (v c V) n,R];exact sem_zero h s t
  unfold semJ;rcases h with rfl|rfl
  ·rw[if_pos rfl];exact⟨fun e=>absurd e D7,fun k=>D.1 (k c V)⟩
  ·rw[if_neg D7];exact⟨fun e=>⟨c,V,D.2 e⟩,fun _=>rfl⟩
 |false=>
  rw[if_neg Bool.false_ne_true,<-semJ_flat s (Fl N) t fun c V=>fl_sem h s t (v c V),<-semJ_ext s t fun x=>(mem_dist (l:=ps.flatMap (Fl N)) (x:=x))]
  have C:∀a∈dist (ps.flatMap (Fl N)),Sh a:=fun a I=>by
   obtain⟨c,V,I⟩:=List.mem_flatMap.1 (mem_dist.1 I);exact fl_sh (v c V) a I
  generalize dist (ps.flatMap (Fl N))=d at C;rw[joinD_eq];by_cases R:oppB d=true
  ·rw[if_pos R,sem_zero h];obtain⟨x,T,z,F⟩:=opp_iff.1 R;have G:=sem_not (C x T) z s t;unfold semJ;rcases h with rfl|rfl
   ·rw[if_pos rfl];exact⟨fun e=>absurd e D7,fun k=>absurd (k _ F) (G.1 (k x T))⟩
   ·rw[if_neg D7];refine⟨fun _=>?_,fun _=>rfl⟩;by_cases q:sem s (x.args.getD 0 Ag) t
    ·exact⟨_,F,q⟩
    ·exact⟨x,T,G.2 q⟩
  ·rw[if_neg R]
   match d with
   | []=>rw[semJ_nil h];exact sem_unit h s t
   | [a]=>exact(semJ_one s a t).symm
   |a::c::d=>exact sem_56 h s [] 0 0 _ t
theorem con_sem{f:Fml}(K:Sh f)(V:CY f=true)(s:Wd):(∀t,sem s f t)\/∀t,¬sem s f t:=by
 have R:=isCon_iff.1 V;rw[sh_con K R];rcases R with h|h<;>rw[h]
 ·exact .inl fun t=>by simp[conO,sem,opS,opP]
 ·exact .inr fun t=>by simp[conO,sem,opS,opP]
theorem sem_mk(s:Wd)(N v b:Int)(nm:LU)(l:LF):sem s (.mk N nm v b l)=opS s N nm v b (l.map (sem s)):=sem_eq s _
theorem canon_sem(s:Wd):∀{f:Fml},Sh f->∀t,sem s (As f) t↔sem s f t
 | .mk op nm v b args,hf,t=>by
  obtain⟨i,n,h⟩:=sh_iff.1 hf
  have y:(args.map As).map (sem s)=args.map (sem s):=by
   rw[List.map_map];refine List.map_congr_left fun a I=>?_
   funext t
   exact propext (canon_sem s (h a I) t)
  have V:∀a∈args.map As,Sh a:=fun a I=>by
   obtain⟨c,V,rfl⟩:=List.mem_map.1 I;exact cf_sh (canon_cf (h c V))
  have D:sem s (.mk op nm v b args)=sem s (.mk op nm v 0 (args.map As)):=by rw[sem_mk,sem_mk,y,i]
  rw[D,canon_eq];have j:(args.map As).length=args.length:=by simp
  obtain⟨X,I,_⟩:=n;rw[<-j]at I;generalize args.map As=l at V I;by_cases S:op=5\/op=6
  ·rw[sem_56 S];unfold Bh;rw[if_pos S];exact join_sem S s V t
  by_cases B:op=8
  ·subst B;obtain⟨c,rfl⟩:=Cv (l:=l) D6;rw[canonOp_8];by_cases P:CY c=true
   ·rw[if_pos (by simpa using P)];rw[sem_mk];simp only[List.getD_cons_zero,List.map_cons,List.map_nil];simp only[opS,opP];rcases con_sem (V c O) P s with k|k<;>simp[k]
   ·rw[if_neg (by simpa using P)]
  by_cases g:op=9
  ·subst g;obtain⟨p,q,rfl⟩:=Cj (l:=l) D6;rw[canonOp_9];simp only[List.getD_cons_zero,List.getD_cons_succ];by_cases P:CY q=true\/p.op=2
   ·rw[if_pos P,sem_mk];have e:opS s 9 nm v 0 ([p,q].map (sem s))=CX (sem s p) (sem s q):=by simp[opS,opP]
    rw[e,until_step];rcases P with P|P
    ·rcases con_sem (V q O) P s with k|k
     ·simp[k]
     ·simp only[k,false_or,false_iff];rintro⟨_,x,_,o,_⟩;exact k x o
    ·have T:¬sem s p t:=by
      rw[sh_con (V p O) (.inr P),P];simp[conO,sem,opS,opP]
     simp[T]
   ·rw[if_neg P]
  by_cases d:op=10
  ·subst d;obtain⟨p,q,rfl⟩:=Cj (l:=l) D6;rw[canonOp_10];simp only[List.getD_cons_zero,List.getD_cons_succ];by_cases P:CY q=true\/p.op=1
   ·rw[if_pos P,sem_mk];have e:opS s 10 nm v 0 ([p,q].map (sem s))=relS (sem s p) (sem s q):=by simp[opS,opP]
    rw[e,rel_step];rcases P with P|P
    ·rcases con_sem (V q O) P s with k|k
     ·simp only[k,true_and,true_iff];exact .inr fun x _=>.inl (k x)
     ·simp[k]
    ·have m:sem s p t:=by
      rw[sh_con (V p O) (.inl P),P];simp[conO,sem,opS,opP]
     simp[m]
   ·rw[if_neg P]
  rw[canonOp_E S B g d]
theorem C3{w:World}{B e size n:Nat}{v:Value}{xs:LV}(h:w.ownsRow B e size v n xs):v.oneCell'=true:=by
 rcases h.2 with⟨rfl,_⟩|⟨g,a,b,rfl,_⟩<;>rfl
structure Bld(w W:World)(c:Nat)(op:Int)(nm:LU)(val bd:Int)(l:LF)(v:Value)(L:List (LV)):Prop where
 D:Blk W c 36 [iV op,AK nm,iV val,iV bd,v]
 own:W.ownsRow w.heap.size 36 5 v l.length L.flatten
 fs:FsAt (fun b=>(w.heap.size<=b/\b≠c)/\v.ownBlock≠some b) W L l
 ne:∀g,v.ownBlock=some g->g≠c
theorem Bld.ext{w W a:World}{c:Nat}{N M m:Int}{nm:LU}{l:LF}{v:Value}{L:List (LV)}(h:Bld w W c N nm M m l v L)(k:Ext W a):Bld w a c N nm M m l v L:=
 ⟨h.D.E k O,Ae h.own k,h.fs.ext k,h.ne⟩
theorem Bld.start{w W:World}{c:Nat}{N M m:Int}{nm:LU}(h:Blk W c 36 [iV N,AK nm,iV M,iV m,.slice none 0 0]):Bld w W c N nm M m [] (.slice none 0 0) []:=
 ⟨h,⟨rfl,.inl ⟨rfl,rfl⟩⟩,FsAt.nil _ _,fun g t=>by cases t⟩
theorem Bld.fin{w W:World}{c:Nat}{N M m:Int}{nm:LU}{l:LF}{v:Value}{L:List (LV)}(h:Bld w W c N nm M m l v L):FAt (fun b=>w.heap.size<=b/\b≠c) W (.agg #[iV N,AK nm,iV M,iV m,v]) ⟨N,nm,M,m,l⟩:=
 FAt.node N nm M m (Aa h.own fun g t=>⟨(Ad h.own t).1,h.ne g t⟩) (h.fs.mono fun b S=>S.1)
theorem Bld.push{w W W1 k y:World}{c B:Nat}{N M m:Int}{nm:LU}{l:LF}{v i:Value}{L:List (LV)}{e T:TypeId}{cs:LV}{g:Fml}(h:Bld w W c N nm M m l v L)(V:w.heap.size<=c/\c<B)(f:∀g,v.ownBlock=some g->g<B)(R:w.heap.size<=B)(Q:B<=W.heap.size)
  (r:FAt (fun b=>B<=b) W (.agg cs.toArray) g)(q:cs.length=5)(n:New W W1 e cs)(a:Apd W1 k w.heap.size 36 5 v i (l.length+1) (L.flatten++cs))
  (p:Put k y c T [iV N,AK nm,iV M,iV m,i])(u:T=36):Bld w y c N nm M m (l++[g]) i (L++[cs])/\Keep (c::v.ownBlock.toList) W y:=by
 subst u;have t:=n.size
 have j:∀b,i.ownBlock=some b->v.ownBlock=some b\/b=W1.heap.size:=fun b S=>by
  rcases a.D with e|e
  ·exact .inl ET
  ·rw[e]at S;exact .inr (Option.some.inj S).symm
 have P:∀b,i.ownBlock=some b->b≠c:=fun b S=>by
  rcases j b S with e|e
  ·exact h.ne b e
  ·omega
 have K:∀{b},b∈v.ownBlock.toList->v.ownBlock=some b:=fun d=>Option.mem_toList.1 d;refine⟨⟨p.D,?_,FsAt.snoc ?_ ?_ q,P⟩,?_⟩
 ·have:=Ac a.own p.E (fun b S=>by simpa using P b S);rw[List.length_append,List.flatten_append];simpa using this
 ·refine((((h.fs.lt).ext n.E).E a.E ?_).E p.E ?_).mono ?_
  ·rintro b⟨⟨_,S⟩,_⟩d;exact S (K d)
  ·rintro b⟨⟨⟨_,S⟩,_⟩,_⟩;simpa using S
  ·rintro b⟨⟨⟨X,o⟩,S⟩,s⟩;refine⟨⟨X,o⟩,fun e=>?_⟩;rcases j b e with e|e
   ·exact S e
   ·omega
 ·refine((((r.lt).ext n.E).E a.E ?_).E p.E ?_).mono ?_
  ·rintro b⟨X,_⟩d;have:=f b (K d);omega
  ·rintro b⟨X,_⟩;simp;omega
  ·rintro b⟨X,s⟩;refine⟨⟨by omega,by omega⟩,fun e=>?_⟩;rcases j b e with e|e
   ·have:=f b e;omega
   ·omega
 ·refine((n.E.any.trans a.E ?_).trans p.E ?_)
  ·intro x d _;exact List.mem_cons_of_mem _ d
  ·intro x d _;simp at d;subst d;exact List.mem_cons_self ..
structure Form where
 least:Int
 most:Int
 val:Int
 bound:Int
 named:Bool
 past:Bool
 future:Bool
 loose:Bool
def formsL:List Form:=[⟨0,0,0,0,false,false,false,false⟩,⟨0,0,0,0,false,false,false,true⟩,⟨0,0,0,0,false,false,false,true⟩,⟨0,0,3,0,true,false,false,true⟩,⟨1,1,0,0,false,false,false,true⟩,
 ⟨2,1099511627776,0,0,false,false,false,true⟩,⟨2,1099511627776,0,0,false,false,false,true⟩,⟨2,2,0,0,false,false,false,false⟩,⟨1,1,0,0,false,false,true,true⟩,⟨2,2,0,0,false,false,true,true⟩,
 ⟨2,2,0,0,false,false,true,true⟩,⟨1,1,0,0,false,false,true,false⟩,⟨1,1,0,0,false,false,true,false⟩,⟨1,1,0,9,false,false,true,false⟩,⟨1,1,0,9,false,false,true,false⟩,
 ⟨1,1,1,0,false,true,false,true⟩,⟨2,2,1,0,false,true,false,true⟩,⟨2,2,1,0,false,true,false,true⟩,⟨1,1,0,0,false,true,false,false⟩,⟨1,1,0,0,false,true,false,false⟩]
def Br(x:Form):LV:=[iV x.least,iV x.most,iV x.val,iV x.bound,.bool x.named,.bool x.past,.bool x.future,.bool x.loose]
def formC:LV:=formsL.flatMap Br
def GF(w:World):Prop:=Cells w 2 0 formC
theorem GF.E{X:List Nat}{w w':World}(h:GF w)(k:Keep X w w')(W:∀x∈X,10<=x):GF w':=Cells.E h k (fun T=>by have:=W _ T;revert this;decide)
theorem GF.ext{w w':World}(h:GF w)(k:Ext w w'):GF w':=h.E k fun x T=>by cases T
def zeroForm:Form:=⟨0,0,0,0,false,false,false,false⟩
def isOpB(n:Int):Bool:=decide (1<=n)&&decide (n<20)
def BK(n:Int):Form:=if isOpB n then formsL.getD n.toNat zeroForm else zeroForm
theorem formC_at:∀(l:List Form)(k i:Nat)(x:Form)(u:Value),l[k]?=some x->(Br x)[i]?=some u->(l.flatMap Br)[k*8+i]?=some u
 | [],_,_,_,_,h,_=>by simp at h
 |y::l,0,i,x,u,h,hu=>by
  obtain rfl:y=x:=by simpa using h
  rw[List.flatMap_cons,Nat.zero_mul,Nat.zero_add,List.getElem?_append_left (List.getElem?_eq_some_iff.1 hu).1,hu]
 |y::l,k+1,i,x,u,h,hu=>by
  have:=formC_at l k i x u EC hu;rw[List.flatMap_cons,List.getElem?_append_right (by simp[Br];omega),show(k+1)*8+i-(Br y).length=k*8+i by simp[Br];omega,this]
theorem formC_one(x:Form):oneC (Br x):=by
 intro u n;simp[Br]at n;rcases n with rfl|rfl|rfl|rfl|rfl|rfl|rfl|rfl<;>rfl
theorem formOf_ok(w:World)(n:Int)(C:GF w):Fn Zp 132 [iV n] w fun v w'=>v=.tuple #[.agg (Br (BK n)).toArray,.bool (isOpB n)]/\Ext w w':=by
 refine AG Tryz.func132 rfl Tryz.ntmps132 (go ?_);refine AS (fun R E=>?_);have m:Blk R w.heap.size 190 (Br zeroForm):=E.D;have f:=E.E;refine AO (AI rfl ?_);repeat refine nx rfl ?_
 by_cases G:1<=n/\n<20
 ·have S:isOpB n=true:=by simp[isOpB,G]
  obtain⟨k,rfl⟩:∃k:Nat,n=(k:Int):=⟨n.toNat,by omega⟩;obtain⟨x,T⟩:∃x,formsL[k]?=some x:=⟨_,List.getElem?_eq_getElem (by show k<20;omega)⟩;have y:BK (k:Int)=x:=by unfold BK;rw[if_pos S];simp[List.getD_eq_getElem?_getD,T]
  have a:Cells R 2 (0+(k:Int).toNat*8) (Br x):=by
   intro i u b;have:=(C.ext f) (k*8+i) u (formC_at formsL k i x u T b);rw[Nat.add_assoc];exact this
  rw[S,y];(refine AJ (AY rfl ?_)<;>(refine Dh rfl rfl (fun V=>?_) (fun V=>?_)<;>try omega)<;>refine AI rfl (AN rfl (AY rfl ?_))<;>(refine AN rfl ?_;(refine W_geq rfl rfl (fun V=>?_) (fun V=>?_)<;>try omega))<;>refine Al rfl (AI rfl ?_))
  repeat first|refine nx rfl ?_|refine nf rfl ?_
  refine AJ (AY rfl ?_);refine Dp rfl rfl U U ?_;refine AQ (L:=Br x) rfl rfl a ?_;refine AH (cs:=Br x) rfl rfl rfl (formC_one x) m (by simp[Br]) (fun c e=>?_);refine AO (AI rfl ?_);repeat refine nx rfl ?_
  exact Cp (L:=Br x) rfl rfl rfl e.D.cells ⟨rfl,f.E e.E O⟩
 ·have S:isOpB n=false:=by simp[isOpB];omega
  have y:BK n=zeroForm:=by unfold BK;rw[if_neg (by simp[S])]
  rw[S,y];(refine AJ (AY rfl ?_)<;>(refine Dh rfl rfl (fun V=>?_) (fun V=>?_)<;>try omega)<;>refine AI rfl ?_<;>(first|refine Ak rfl ?_|(refine AN rfl ?_;refine AY rfl ?_))<;>(first|refine Ak rfl ?_|(refine AN rfl ?_;(refine W_geq rfl rfl (fun V=>?_) (fun V=>?_)<;>try omega)))<;>((first|refine Am rfl ?_|refine Al rfl ?_);refine AI rfl ?_)<;>refine AA ?_)
  all_goals
   repeat refine nx rfl ?_
   refine AJ (Bv Dx Dx ?_);refine AH (cs:=Br zeroForm) rfl rfl rfl (formC_one _) m (by simp[Br]) (fun c e=>?_);refine AO (AI rfl ?_);repeat refine nx rfl ?_
   exact Cp (L:=Br zeroForm) rfl rfl rfl e.D.cells ⟨rfl,f.E e.E O⟩
abbrev Nd:=Fml×Bool
mutual
def De(i:Bool):Fml->List Nd
 | .mk op nm v b args=>(.mk op nm v b args,i)::DH (i||(BK op).past) args
def DH(i:Bool):LF->List Nd
 | []=>[]
 |f::l=>De i f++DH i l
end
theorem preF_eq(i:Bool)(f:Fml):De i f=(f,i)::DH (i||(BK f.op).past) f.args:=by cases f;simp[De,Fml.args,Fml.op]
theorem preL_app(i:Bool):∀l m:LF,DH i (l++m)=DH i l++DH i m
 | [],m=>rfl
 |f::l,m=>by simp[DH,preL_app i l m]
theorem preL_take(i:Bool){l:LF}{k:Nat}{x:Fml}(h:l[k]?=some x):DH i (l.take (k+1))=DH i (l.take k)++De i x:=by
 rw[List.take_add_one,h,Option.toList_some,preL_app];simp[DH]
structure NodesR(yv:Value)(X:List Nat)(B:Nat)(P:List Nd)(J D:List Nd->World->Prop):Prop where
 fn:∃y,yv=.func (.yield y) #[] #[]
 glob:∀x∈X,10<=x
 E:∀{L:List Nd}{W W':World}{Y:List Nat},J L W->Keep Y W W'->(∀y∈Y,B<=y)->J L W'
 step:∀{L:List Nd}{W:World}{b o:Nat}{f:Fml}{i:Bool},J L W->PF (fun b=>b∉X/\b<B) W b o f->L++[(f,i)]<+:P->YldP Zp yv [.pointer (some ⟨b,o,none⟩),.bool i] W (fun v W'=>Keep X W W'/\((v=.bool true/\J (L++[(f,i)]) W')\/(v=.bool false/\D (L++[(f,i)]) W'))) fun _ _=>False
theorem PF.opc{ok:Nat->Prop}{w:World}{b o:Nat}{f:Fml}(h:PF ok w b o f):w.cell? ⟨b,o+0,none⟩=some (iV f.op):=by
 obtain⟨_,a,c,L,V,_⟩:=h.form;exact V 0 _ rfl
theorem PF.arg{ok:Nat->Prop}{w:World}{b o:Nat}{f:Fml}(h:PF ok w b o f):∃a c,f.args.length<=9223372036854775807/\w.cell? ⟨b,o+4,none⟩=some (.slice a f.args.length c)/\∀(k:Nat)(x:Fml),f.args[k]?=some x->∃n l,a=some ⟨n,l,none⟩/\PF ok w n (l+k*5) x:=by
 obtain⟨_,a,c,L,V,j,X,W,Q⟩:=h.form;refine⟨a,c,by obtain⟨_,_,q,F,v,_⟩:=id j;cases q;omega,V 4 _ rfl,fun k x T=>?_⟩;have B:k<f.args.length:=(List.getElem?_eq_some_iff.1 T).1;obtain⟨d,C⟩:∃d,L[k]?=some d:=⟨_,List.getElem?_eq_getElem U⟩;obtain⟨n,l,rfl,S,z⟩:=j.fml W C B;exact⟨n,l,rfl,S,d,W d (List.mem_of_getElem? C),z,Q k d x C T⟩
theorem NodesR.ext{b:Value}{X:List Nat}{B:Nat}{P:List Nd}{a D:List Nd->World->Prop}(H:NodesR b X B P a D){L:List Nd}{W l:World}(h:a L W)(k:Ext W l):a L l:=H.E h k fun _ h=>by cases h
theorem visit_ok{yv:Value}{X:List Nat}{B:Nat}{P:List Nd}{z D:List Nd->World->Prop}(H:NodesR yv X B P z D)(S m j:Nat)(h4:m∉X)(A:j∉X):∀(n:Nat)(w:World)(b o:Nat)(f:Fml)(i:Bool)(d:Nat)(L:List Nd),dpF f<=n->d+n<=5000->PF (fun b=>b∉X/\b<B) w b o f->GF w->
  Blk w m 231 [yv]->Blk w j 235 [.func (.func 179) #[] #[pt S,pt m,pt j]]->z L w->L++De i f<+:P->
  Fn Zp 179 [.pointer (some ⟨b,o,none⟩),.bool i,iV d,pt S,pt m,pt j] w fun v w'=>Keep X w w'/\((v=.bool true/\z (L++De i f) w')\/(v=.bool false/\∃M,M<+:De i f/\M≠[]/\D (L++M) w')):=by
 intro n
 induction n with
 |zero=>intro w b o f i d L hn;rw[BQ]at hn;omega
 |succ n ih=>
 intro w b o f i d L hn hd hf hG b4 b5 hJ hP;rw[BQ]at hn;have c3:d<5000:=by omega
 obtain⟨y,rfl⟩:=H.fn;refine AG Tryz.func179 rfl Tryz.ntmps179 (go ?_);refine W_yield rfl rfl (H.step hJ hf (((List.prefix_append_right_inj L).2 (by rw[preF_eq];exact⟨_,rfl⟩)).trans hP)) ?_;rintro _ w1⟨t,Q⟩;rcases Q with⟨rfl,b8⟩|⟨rfl,C⟩
 case inr=>
  refine go ?_;exact AB rfl ⟨t,.inr ⟨rfl,[(f,i)],by rw[preF_eq];exact⟨_,rfl⟩,by simp,C⟩⟩
 have hf1:=hf.E t (fun _ h=>h.1);have b1:=hG.E t H.glob;have b6:=b4.E t h4;have b7:=b5.E t A;refine go ?_;have c4:=hf1.opc;refine go ?_;refine AE (formOf_ok w1 f.op b1) rfl ?_;rintro _ w2⟨rfl,k2⟩;refine go ?_;refine Au (cs:=Br (BK f.op)) rfl rfl Dx (formC_one _) (fun u n3=>go ?_);have g:=k2.trans n3.E;have b3:=n3.D;have a6:=hf1.E g (fun _ _=>by simp);have b2:=b1.ext g;have a9:=b6.E g O;have b0:=b7.E g O;have k13:Keep X w u:=t.ext g;have hJ3:=H.ext b8 g;have c5:u.cell? ⟨w2.heap.size,0+5,none⟩=some (.bool (BK f.op).past):=b3.cell rfl;obtain⟨a3,c0,c1,c2,_⟩:=a6.arg;cases i with
 |true=>
  refine go ?_;refine Ah (α:=Nat) (fun k=>[(0,.pointer (some ⟨b,o,none⟩)),(1,.bool true),(2,iV (d:Int)),(5,pt j),(43,iV (f.args.length:Int)),(44,iV (k:Int))]) (fun k W=>k<=f.args.length/\Keep X w W/\Ext u u/\z (L++((f,true)::DH true (f.args.take k))) W/\GF W/\PF (fun b=>b∉X/\b<B) W b o f/\Blk W m 231 [.func (.yield y) #[] #[]]/\Blk W j 235 [.func (.func 179) #[] #[pt S,pt m,pt j]]) (fun k=>f.args.length-k) 0 ⟨rfl,rfl,rfl,rfl,rfl,rfl,trivial⟩ ⟨by omega,k13,Ext.refl _,by simpa[DH]using hJ3,b2,a6,a9,b0⟩ ?_;rintro k W fr⟨hk,R,_,r,K,s,G,F⟩;refine go ?_;by_cases N:k<f.args.length
  ·refine go ?_;obtain⟨x,T⟩:∃x,f.args[k]?=some x:=⟨_,List.getElem?_eq_getElem N⟩;obtain⟨aa,cc,_,hargs,a5⟩:=s.arg;obtain⟨q,l,rfl,a8⟩:=a5 k x T
   have a7:f.args=f.args.take k++x::f.args.drop (k+1):=by
    exact GA
   have E:DH true f.args=DH true (f.args.take k)++(De true x++DH true (f.args.drop (k+1))):=by
    conv=>lhs;rw[a7,preL_app]
    simp[DH]
   have a2:(L++((f,true)::DH true (f.args.take k)))++De true x<+:P:=by
    refine List.IsPrefix.trans ?_ hP;rw[preF_eq true f,List.append_assoc,List.prefix_append_right_inj];show _<+:(f,true)::DH true f.args;rw[E,List.cons_append,List.prefix_cons_inj,List.prefix_append_right_inj];exact List.prefix_append _ _
   have a4:dpF x<=n:=by have:=Bi (List.mem_of_getElem? T);omega
   refine AX (rd 0 10 (.alt 10 (.read 11 .done) .stop)) An Dv (fun p I ed=>⟨Keep X p,?_,?_⟩)
   ·exact FK
   have ca:∀V,Keep X p V->V.cell? ⟨j,0,none⟩=some (.func (.func 179) #[] #[pt S,pt m,pt j]):=fun V e=>((F.E I O).E e A).cell rfl;have cb:∀V,Keep X p V->V.cell? ⟨b,o+4,none⟩=some (.slice (some ⟨q,l,none⟩) f.args.length cc):=fun V e=>e.cell (I.cell hargs O) s.1.1;((apply D_R rfl rfl;(intro W c;refine AL rfl (ca W c) ?_;exact AA ⟨rfl,rfl,rfl⟩))<;>(apply D_R rfl rfl;(intro W c;refine Af rfl ?_;exact AA ⟨rfl,rfl,rfl⟩))<;>(apply D_R rfl rfl;(intro W c;refine AM rfl ?_;exact AA ⟨rfl,rfl,rfl⟩))<;>(apply D_R rfl rfl;(intro W c;refine AD rfl ?_;exact AA ⟨rfl,rfl,rfl⟩))<;>(apply D_R rfl rfl;(intro W c;refine AL rfl (cb W c) ?_;exact AA ⟨rfl,rfl,rfl⟩))<;>(apply D_R rfl rfl;(intro W c;refine AY rfl ?_;exact AA ⟨rfl,rfl,rfl⟩))<;>(apply D_R rfl rfl;(intro W c;refine Cd rfl rfl rfl U ?_;exact AA ⟨rfl,rfl,rfl⟩))<;>(apply D_R rfl rfl;(intro W c;refine AI rfl ?_;exact AA ⟨rfl,rfl,rfl⟩))<;>(apply D_R rfl rfl;(intro W c;refine AY rfl ?_;exact AA ⟨rfl,rfl,rfl⟩))<;>(apply D_R rfl rfl;(intro W c;refine W_add rfl rfl D8 ?_;exact AA ⟨rfl,rfl,rfl⟩)))
   refine D_E rfl ?_;refine Az (v1:=[]) (v2:=[pt S,pt m,pt j]) (vs:=[.pointer (some ⟨q,l+k*5,none⟩),.bool true,iV ((d:Int)+1)]) rfl (ih p q (l+k*5) x true (d+1) _ a4 U (a8.E I (fun _ _=>by simp)) (K.ext I) (G.E I O) (F.E I O) (H.ext r I) a2) rfl ?_;rintro _ w4⟨a,Q⟩;refine AA ⟨Keep X p,fun _ e=>e,a,?_⟩;have Z:Keep X w w4:=(R.ext I).trans a (fun _ T _=>T);rcases Q with⟨rfl,a0⟩|⟨rfl,M,a1,b9,C⟩
   ·refine go ?_;refine⟨k+1,⟨rfl,⟨rfl,rfl,rfl,rfl,rfl,?_,trivial⟩,⟨by omega,Z,Ext.refl _,?_,(K.ext I).E a H.glob,(s.E I (fun _ _=>by simp)).E a (fun _ h=>h.1),(G.E I O).E a h4,(F.E I O).E a A⟩⟩,by omega⟩
    ·show iV ((k:Int)+1)=_;rw[Int.natCast_add];rfl
    ·rw[preL_take _ T];simpa using a0
   ·refine go ?_;refine AB rfl ⟨Z,.inr ⟨rfl,(f,true)::DH true (f.args.take k)++M,?_,by simp,by simpa using C⟩⟩;rw[preF_eq];show _<+:(f,true)::DH true f.args;exact GH
  ·refine go ?_;rw[List.take_of_length_le U]at r;refine AB rfl ⟨R,.inl ⟨rfl,by rw[preF_eq];exact r⟩⟩
 |false=>
  refine go ?_;refine Ah (α:=Nat) (fun k=>[(0,.pointer (some ⟨b,o,none⟩)),(1,.bool (BK f.op).past),(2,iV (d:Int)),(5,pt j),(43,iV (f.args.length:Int)),(44,iV (k:Int))]) (fun k W=>k<=f.args.length/\Keep X w W/\Ext u u/\z (L++((f,false)::DH (BK f.op).past (f.args.take k))) W/\GF W/\PF (fun b=>b∉X/\b<B) W b o f/\Blk W m 231 [.func (.yield y) #[] #[]]/\Blk W j 235 [.func (.func 179) #[] #[pt S,pt m,pt j]]) (fun k=>f.args.length-k) 0 ⟨rfl,rfl,rfl,rfl,rfl,rfl,trivial⟩ ⟨by omega,k13,Ext.refl _,by simpa[DH]using hJ3,b2,a6,a9,b0⟩ ?_;rintro k W fr⟨hk,R,_,r,K,s,G,F⟩;refine go ?_;by_cases N:k<f.args.length
  ·refine go ?_;obtain⟨x,T⟩:∃x,f.args[k]?=some x:=⟨_,List.getElem?_eq_getElem N⟩;obtain⟨aa,cc,_,hargs,a5⟩:=s.arg;obtain⟨q,l,rfl,a8⟩:=a5 k x T
   have a7:f.args=f.args.take k++x::f.args.drop (k+1):=by
    exact GA
   have E:DH (BK f.op).past f.args=DH (BK f.op).past (f.args.take k)++(De (BK f.op).past x++DH (BK f.op).past (f.args.drop (k+1))):=by
    conv=>lhs;rw[a7,preL_app]
    simp[DH]
   have a2:(L++((f,false)::DH (BK f.op).past (f.args.take k)))++De (BK f.op).past x<+:P:=by
    refine List.IsPrefix.trans ?_ hP;rw[preF_eq false f,List.append_assoc,List.prefix_append_right_inj];show _<+:(f,false)::DH (BK f.op).past f.args;rw[E,List.cons_append,List.prefix_cons_inj,List.prefix_append_right_inj];exact List.prefix_append _ _
   have a4:dpF x<=n:=by have:=Bi (List.mem_of_getElem? T);omega
   refine AX (rd 0 10 (.alt 10 (.read 11 .done) .stop)) An Dv (fun p I ed=>⟨Keep X p,?_,?_⟩)
   ·exact FK
   have ca:∀V,Keep X p V->V.cell? ⟨j,0,none⟩=some (.func (.func 179) #[] #[pt S,pt m,pt j]):=fun V e=>((F.E I O).E e A).cell rfl;have cb:∀V,Keep X p V->V.cell? ⟨b,o+4,none⟩=some (.slice (some ⟨q,l,none⟩) f.args.length cc):=fun V e=>e.cell (I.cell hargs O) s.1.1;((apply D_R rfl rfl;(intro W c;refine AL rfl (ca W c) ?_;exact AA ⟨rfl,rfl,rfl⟩))<;>(apply D_R rfl rfl;(intro W c;refine Af rfl ?_;exact AA ⟨rfl,rfl,rfl⟩))<;>(apply D_R rfl rfl;(intro W c;refine AM rfl ?_;exact AA ⟨rfl,rfl,rfl⟩))<;>(apply D_R rfl rfl;(intro W c;refine AD rfl ?_;exact AA ⟨rfl,rfl,rfl⟩))<;>(apply D_R rfl rfl;(intro W c;refine AL rfl (cb W c) ?_;exact AA ⟨rfl,rfl,rfl⟩))<;>(apply D_R rfl rfl;(intro W c;refine AY rfl ?_;exact AA ⟨rfl,rfl,rfl⟩))<;>(apply D_R rfl rfl;(intro W c;refine Cd rfl rfl rfl U ?_;exact AA ⟨rfl,rfl,rfl⟩))<;>(apply D_R rfl rfl;(intro W c;refine AI rfl ?_;exact AA ⟨rfl,rfl,rfl⟩))<;>(apply D_R rfl rfl;(intro W c;refine AY rfl ?_;exact AA ⟨rfl,rfl,rfl⟩))<;>(apply D_R rfl rfl;(intro W c;refine W_add rfl rfl D8 ?_;exact AA ⟨rfl,rfl,rfl⟩)))
   refine D_E rfl ?_;refine Az (v1:=[]) (v2:=[pt S,pt m,pt j]) (vs:=[.pointer (some ⟨q,l+k*5,none⟩),.bool (BK f.op).past,iV ((d:Int)+1)]) rfl (ih p q (l+k*5) x (BK f.op).past (d+1) _ a4 U (a8.E I (fun _ _=>by simp)) (K.ext I) (G.E I O) (F.E I O) (H.ext r I) a2) rfl ?_;rintro _ w4⟨a,Q⟩;refine AA ⟨Keep X p,fun _ e=>e,a,?_⟩;have Z:Keep X w w4:=(R.ext I).trans a (fun _ T _=>T);rcases Q with⟨rfl,a0⟩|⟨rfl,M,a1,b9,C⟩
   ·refine go ?_;refine⟨k+1,⟨rfl,⟨rfl,rfl,rfl,rfl,rfl,?_,trivial⟩,⟨by omega,Z,Ext.refl _,?_,(K.ext I).E a H.glob,(s.E I (fun _ _=>by simp)).E a (fun _ h=>h.1),(G.E I O).E a h4,(F.E I O).E a A⟩⟩,by omega⟩
    ·show iV ((k:Int)+1)=_;rw[Int.natCast_add];rfl
    ·rw[preL_take _ T];simpa using a0
   ·refine go ?_;refine AB rfl ⟨Z,.inr ⟨rfl,(f,false)::DH (BK f.op).past (f.args.take k)++M,?_,by simp,by simpa using C⟩⟩;rw[preF_eq];show _<+:(f,false)::DH (BK f.op).past f.args;exact GH
  ·refine go ?_;rw[List.take_of_length_le U]at r;refine AB rfl ⟨R,.inl ⟨rfl,by rw[preF_eq];exact r⟩⟩
end
end Go.Proofs.YtohodbnnhlddpaaGreatDoor
