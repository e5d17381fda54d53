/- TopTextDuties, part 11 of 15: lemmas. Conditions: none. -/
import Derived.Test.YtjbocjodncbogaaGreatDoorDX10
namespace Go.Proofs.YtjbocjodncbogaaGreatDoor
open Go.RowKit Go.Proofs.Tryz
set_option linter.unusedVariables false
set_option linter.defProp false
section
variable {mk:Prop}[MK mk]
def tkn(b:BT):Tok:=⟨b.1,b.2,0⟩
abbrev Au(P:List BT):List Tok:=P.map tkn
def iE(P:List BT):(Au P).map bare=P:=by
 rw[Au,HF,show(bare∘tkn)=id from rfl,List.map_id]
def Ix(n:Nat)(b:BT):Bool:= !Ax [61] (some b)&& !Ax [33,61] (some b)&&(decide (4<=n)||((infixT.lookup b.2).isNone&&(decide (3<=n)||(!Ax [38] (some b)&&(decide (2<=n)||(!Ax [124] (some b)&&(decide (1<=n)|| !Ax [45,62] (some b))))))))
def StopL(n:Nat)(r:List Tok):Prop:=∀x,r.head?=some x->Ix n (bare x)=true
def StopL.nil(n:Nat):StopL n []:=fun x h=>by cases h
def StopL.cons{n:Nat}{x:Tok}{r:List Tok}(h:Ix n (bare x)=true):StopL n (x::r):=fun y I=>by cases I;exact h
def StopL.mono{n m:Nat}(X:n<=m){r:List Tok}(h:StopL n r):StopL m r:=by
 intro x V;have:=h x V;simp only[Ix,AZ,Fm,BD]at this⊢;obtain⟨a,W⟩:=this;refine⟨a,?_⟩;rcases W with W|⟨W,R⟩
 ·left;omega
 ·right;refine⟨W,?_⟩;rcases R with R|⟨R,A⟩
  ·left;omega
  ·right;refine⟨R,?_⟩;rcases A with A|⟨A,Z⟩
   ·left;omega
   ·right;refine⟨A,?_⟩;rcases Z with Z|Z
    ·left;omega
    ·right;exact Z
def Mp{s:LU}{r:List Tok}(h:∀x,r.head?=some x->Ax s (some (bare x))=false):Ax s (r.head?.map bare)=false:=by
 cases hr:r.head? with
 |none=>rfl
 |some x=>exact h x hr
section
variable {n:Nat}{r:List Tok}(h:StopL n r)
include h
def StopL.eq:Ax [61] (r.head?.map bare)=false:=Mp fun x V=>by
 have:=h x V;simp only[Ix,AZ,D7]at this;exact this.1.1
def StopL.ne:Ax [33,61] (r.head?.map bare)=false:=Mp fun x V=>by
 have:=h x V;simp only[Ix,AZ,D7]at this;exact this.1.2
def StopL.inf(H:n<=3):∀x,r.head?=some x->infixT.lookup x.text=none:=fun x V=>by
 have:=h x V;simp only[Ix,AZ,Fm,BD,Option.isNone_iff_eq_none]at this;rcases this.2 with W|⟨W,_⟩
 ·omega
 ·exact W
def StopL.and(H:n<=2):Ax [38] (r.head?.map bare)=false:=Mp fun x V=>by
 have:=h x V;simp only[Ix,AZ,Fm,BD,D7]at this;rcases this.2 with W|⟨W,R|⟨R,_⟩⟩
 ·omega
 ·omega
 ·exact R
def StopL.or(H:n<=1):Ax [124] (r.head?.map bare)=false:=Mp fun x V=>by
 have:=h x V;simp only[Ix,AZ,Fm,BD,D7]at this;rcases this.2 with W|⟨W,R|⟨R,A|⟨A,_⟩⟩⟩
 ·omega
 ·omega
 ·omega
 ·exact A
def StopL.imp(H:n=0):Ax [45,62] (r.head?.map bare)=false:=Mp fun x V=>by
 have:=h x V;simp only[Ix,AZ,Fm,BD,D7]at this;rcases this.2 with W|⟨W,R|⟨R,A|⟨A,Z|Z⟩⟩⟩
 ·omega
 ·omega
 ·omega
 ·omega
 ·exact Z
end
def LQ:Nat->List Tok->Fml->List Tok->Prop
 |0,l,f,r=>RunN .formula l (.ok (f,r))
 |1,l,f,r=>RunN .orN l (.ok (f,r))
 |2,l,f,r=>RunN .andN l (.ok (f,r))
 |3,l,f,r=>RunN .untilN l (.ok (f,r))
 |_,l,f,r=>RunN .unary l (.ok (f,r))
def pM:∀{n:Nat}{l r:List Tok}{f:Fml},n<=3->LQ (n+1) l f r->StopL n r->LQ n l f r
 |0,_,_,_,_,h,s=>qE h (s.imp rfl)
 |1,_,_,_,_,h,s=>qz h (s.or (AO _))
 |2,_,_,_,_,h,s=>qD h (s.and (AO _))
 |3,_,_,_,_,h,s=>lI h (s.inf (AO _))
 |n+4,_,_,_,hn,_,_=>by omega
def Pe:∀(d n:Nat){l r:List Tok}{f:Fml},n+d<=4->LQ (n+d) l f r->StopL n r->LQ n l f r
 |0,_,_,_,_,_,h,_=>h
 |d+1,n,l,r,f,hd,h,s=>pM U (Pe d (n+1) U (by rw[show n+1+d=n+(d+1) by omega];exact h) (s.mono U)) s
def ix0{o:Opr}(r:List Tok)(h:o.indexed=0):Run (FZ o) r (.ok (none,r)):=by
 unfold FZ;rw[AJ h];exact Run.ret _ _
def Pr{o:Opr}{r:List Tok}(h:Ax [91] (r.head?.map bare)=false):Run (FZ o) r (.ok (none,r)):=by
 unfold FZ
 split
 ·exact Run.ret _ _
 ·exact FG h (Run.ret _ _)
def Pj{o:Opr}{v:Int}{r:List Tok}(h:o.indexed≠0)(s:0<=v):Run (FZ o) (tkn (3,[91])::tkn (2,Br v)::tkn (3,[93])::r) (.ok (some v,r)):=by
 unfold FZ;rw[AG h];have e:EY (tkn (2,Br v)).text=v:=Qc s;have:=Qf (q:=fun n=>(Di [93]).bind fun _=>.ret (some n)) (x:=tkn (2,Br v)) (l:=tkn (3,[93])::r) rfl (H6 rfl (Run.ret _ _));rw[e]at this;exact Hj rfl this
def LE{l T K r:List Tok}{q:Tok}{o:Opr}{n:Option Int}{f g:Fml}(Z:RunN .unary l (.ok (f,q::T)))(P:infixT.lookup q.text=some o)(F:Run (FZ o) T (.ok (n,K)))(W:RunN .untilN K (.ok (g,r))):
  RunN .untilN l (.ok (⟨o.op,[],n.getD o.val,0,[f,g]⟩,r)):=
 Run.call Z (WS P (F.bind (Run.call W (Run.ret _ _))))
def IK{T K r:List Tok}{q:Tok}{o:Opr}{n:Option Int}{g:Fml}(P:prefixT.lookup q.text=some o)(F:Run (FZ o) T (.ok (n,K)))(W:RunN .unary K (.ok (g,r))):
  RunN .unary (q::T) (.ok (match n with|some n=>⟨o.indexed,[],o.val,n,[g]⟩|none=>⟨o.op,[],o.val,0,[g]⟩,r)):=by
 refine WS P (F.bind (Run.call W ?_));cases n<;>exact Run.ret _ _
def TZ{β:Type}{a:LU}{b:β}:∀{l:List (LU×β)},l.lookup a=some b->a∈l.map (·.1)
 | [],h=>by cases h
 |(k,v)::l,h=>by
  rw[Jo]at h;by_cases P:a=k
  ·simp[P]
  ·rw[show(a==k)=false by simpa using P]at h;have:=TZ (l:=l) h;simp only[EG,BI];exact .inr this
def jg{l:LU}(h:BP l=true):prefixT.lookup l=none:=by
 cases ho:prefixT.lookup l with
 |none=>rfl
 |some o=>
  have:=TZ ho;obtain⟨_,_,R,_⟩:=Gd h;simp only[prefixT,EG,Kp,BI,FA,FD]at this;rcases this with rfl|rfl|rfl|rfl|rfl|rfl|rfl|rfl<;>exact absurd R rI
def OE{l s:LU}(h:BP l=true)(E:s∈keysL\/Bp (s.getD 0 0)=false):Ax s (some (1,l))=false:=by
 obtain⟨_,_,R,_,Z⟩:=Gd h
 have:l≠s:=by
  rintro rfl;rcases E with E|E
  ·exact Z E
  ·rw[R]at E;cases E
 simp[Ax,this]
def WT{w:LU}{r:List Tok}{f:Fml}(C:prefixT.lookup w=none)(h:RunN .primary (tkn (1,w)::r) (.ok (f,r))):RunN .unary (tkn (1,w)::r) (.ok (f,r)):=
 Ni (fun z p=>by cases p;exact C) (Run.call h (Run.ret _ _))
def kY(r:List Tok):RunN .unary (tkn (1,[116,114,117,101])::r) (.ok (⟨1,[],0,0,[]⟩,r)):=WT rI (Hj rfl (Run.ret _ _))
def gV(r:List Tok):RunN .unary (tkn (1,[102,97,108,115,101])::r) (.ok (⟨2,[],0,0,[]⟩,r)):=WT rI (FG rfl (Hj rfl (Run.ret _ _)))
def qA{a:LU}{v:Int}{r:List Tok}(h:BP a=true)(s:0<=v)(B:StopL 4 r):RunN .unary (Au ((1,a)::if v=1 then[]else[(3,[61]),(2,Br v)])++r) (.ok (⟨3,a,v,0,[]⟩,r)):=by
 refine Ni (fun z p=>by cases p;exact jg h) (Run.call (nt:=.primary) (l':=r) (v:=(⟨3,a,v,0,[]⟩:Fml)) ?_ (Run.ret _ _));refine FG (OE h (.inl rI)) (FG (OE h (.inl rI)) (FG (OE h (.inr rI)) ?_));refine Oj (x:=tkn (1,a)) rfl h ?_;by_cases Z:v=1
 ·rw[AJ Z];subst Z;exact FG B.eq (FG B.ne (Run.ret _ _))
 ·rw[AG Z];refine Hj (x:=tkn (3,[61])) rfl ?_;have e:EY (tkn (2,Br v)).text=v:=Qc s;have:=Qf (q:=fun n=>.ret (isF a n)) (x:=tkn (2,Br v)) (l:=r) rfl (Run.ret _ _);rw[e]at this;exact this
def M5(f:Fml):Prop:=∀(n:Nat)(r:List Tok),n<=4->StopL n r->LQ n (Au (tkF n f)++r) f r
def SL:∀(m:Nat)(f:Fml)(n:Nat),SizeOf.sizeOf f<=m->okF f=true->∃x t,tkF n f=x::t/\Ax [91] (some x)=false
 |0,f,n,hm,_=>by cases f;simp at hm
 |m+1,.mk op nm v b args,n,hm,hok=>by
  simp only[okF,AZ]at hok;simp only[tkF];by_cases d:(BH op).level<n
  ·rw[BE d];exact⟨_,_,rfl,by decide⟩
  ·rw[BC d];show∃x t,tkA _ _ _ _=x::t/\_
   have C:args.length<2->∃x t,sgK op nm v b=x::t/\Ax [91] (some x)=false:=fun W=>by
    obtain⟨M,g,j,S,k,E,o,p,i,q⟩:=Lz hok.1;rcases J3 g with rfl|rfl|rfl|rfl|rfl|rfl|rfl|rfl|rfl|rfl|rfl|rfl|rfl|rfl|rfl|rfl|rfl|rfl|rfl
    case inr.inr.inl=>exact⟨_,_,rfl,OE (i rfl) (.inr rI)⟩
    case inr.inr.inr.inr.inr.inr.inr.inr.inr.inr.inr.inr.inr.inr.inl=>
     by_cases s:v=0
     ·exact⟨_,_,by simp only[sgK,AJ s];rfl,by decide⟩
     ·exact⟨_,_,by simp only[sgK,AG s];rfl,by decide⟩
    all_goals exact⟨_,_,rfl,by decide⟩
   match args,hok,C with
   | [],_,C=>exact C O
   | [a],_,C=>
    obtain⟨x,t,e,V⟩:=C O;exact⟨x,t++(tkF (BH op).first a++tkR (BH op).next (sgK op nm v b) []),by simp[tkA,e],V⟩
   |a::c::l,hok,_=>
    simp only[okL,AZ]at hok;obtain⟨x,t,e,V⟩:=SL m a (BH op).first (by simp at hm;omega) hok.2.1
    exact⟨x,t++tkR (BH op).next (sgK op nm v b) (c::l),by simp[tkA,e],V⟩
def O9{f:Fml}(a:okF f=true)(n:Nat)(r:List Tok):Ax [91] ((Au (tkF n f)++r).head?.map bare)=false:=by
 obtain⟨x,t,e,V⟩:=SL _ f n (AO _) a;rw[e];exact V
def VP:∀(l:LF),(∀a∈l,M5 a)->∀r:List Tok,StopL 2 r->RunN .andL (Au (tkR 3 [(3,[38])] l)++r) (.ok (l,r))/\StopL 3 (Au (tkR 3 [(3,[38])] l)++r)
 | [],_,r,hr=>⟨FG (hr.and (AO _)) (Run.ret _ _),hr.mono U⟩
 |a::l,hl,r,hr=>by
  obtain⟨Z,W⟩:=VP l (fun c T=>hl c rR) r hr;refine⟨?_,StopL.cons rI⟩;have:=hl a O 3 _ U W;exact uf
def Xf:∀(l:LF),(∀a∈l,M5 a)->∀r:List Tok,StopL 1 r->RunN .orL (Au (tkR 2 [(3,[124])] l)++r) (.ok (l,r))/\StopL 2 (Au (tkR 2 [(3,[124])] l)++r)
 | [],_,r,hr=>⟨FG (hr.or (AO _)) (Run.ret _ _),hr.mono U⟩
 |a::l,hl,r,hr=>by
  obtain⟨Z,W⟩:=Xf l (fun c T=>hl c rR) r hr;refine⟨?_,StopL.cons rI⟩;have:=hl a O 2 _ U W;exact uf
def IG(f n:Nat)(g:List BT)(a:Fml):tkA f n g [a]=g++tkF f a:=by simp[tkA,tkR]
def KB(f n:Nat)(g:List BT)(a c:Fml):tkA f n g [a,c]=tkF f a++(g++tkF n c):=by simp[tkA,tkR]
def Wn(f n:Nat)(g:List BT)(a c:Fml)(l:LF):tkA f n g (a::c::l)=tkF f a++tkR n g (c::l):=by simp[tkA]
def DX(x y:List BT)(r:List Tok):Au (x++y)++r=Au x++(Au y++r):=by simp[Au]
def IJ{l:LF}(Z:1<=l.length)(W:l.length<=1):∃a,l=[a]:=by
 match l,Z,W with
 | [a],_,_=>exact⟨a,rfl⟩
def M0{l:LF}(Z:2<=l.length)(W:l.length<=2):∃a c,l=[a,c]:=by
 match l,Z,W with
 | [a,c],_,_=>exact⟨a,c,rfl⟩
def Xa{l:LF}(Z:2<=l.length):∃a c k,l=a::c::k:=by
 match l,Z with
 |a::c::k,_=>exact⟨a,c,k,rfl⟩
set_option maxHeartbeats 1600000 in
def VX{op v b:Int}{k:LU}{args:LF}(h:E4 op k v b args.length=true)(g:okL args=true)(N:∀a∈args,M5 a){r:List Tok}(B:StopL (min (BH op).level 4) r):
  LQ (min (BH op).level 4) (Au (tkA (BH op).first (BH op).next (sgK op k v b) args)++r) (.mk op k v b args) r:=by
 obtain⟨M,j,f,S,m,E,p,q,t,C⟩:=Lz h;rcases J3 j with rfl|rfl|rfl|rfl|rfl|rfl|rfl|rfl|rfl|rfl|rfl|rfl|rfl|rfl|rfl|rfl|rfl|rfl|rfl<;>simp[Bh,styL,List.lookup]at j<;>subst j<;>simp only at f S E q
 ·obtain rfl:=Hz.1 (Nat.le_zero.1 S);obtain rfl:=C rI;obtain rfl:v=0:=by omega
  obtain rfl:b=0:=by omega
  exact kY r
 ·obtain rfl:=Hz.1 (Nat.le_zero.1 S);obtain rfl:=C rI;obtain rfl:v=0:=by omega
  obtain rfl:b=0:=by omega
  exact gV r
 ·obtain rfl:=Hz.1 (Nat.le_zero.1 S);obtain rfl:b=0:=by omega
  exact qA (t rfl) m B
 ·obtain rfl:v=0:=by omega
  obtain rfl:b=0:=by omega
  obtain⟨a,rfl⟩:=IJ f S;obtain rfl:=C rI;rw[IG,DX];have G:=N a O 4 r U (B.mono rI);have e:okF a=true:=EU g a O;exact IK (o:=⟨4,0,0⟩) (n:=none) rfl (ix0 _ rfl) G
 ·obtain⟨a,c,l,rfl⟩:=Xa f;obtain rfl:=C rI;obtain rfl:v=0:=by omega
  obtain rfl:b=0:=by omega
  rw[Wn,DX];obtain⟨Z,W⟩:=VP (c::l) (fun d i=>N d (by simp at i;simp[i])) r B;have G:=N a O 3 _ U W;exact Run.call G (Run.call Z (Run.ret _ _))
 ·obtain⟨a,c,l,rfl⟩:=Xa f;obtain rfl:=C rI;obtain rfl:v=0:=by omega
  obtain rfl:b=0:=by omega
  rw[Wn,DX];obtain⟨Z,W⟩:=Xf (c::l) (fun d i=>N d (by simp at i;simp[i])) r B;have G:=N a O 2 _ U W;exact Run.call G (Run.call Z (Run.ret _ _))
 ·obtain⟨a,c,rfl⟩:=M0 f S;obtain rfl:=C rI;obtain rfl:v=0:=by omega
  obtain rfl:b=0:=by omega
  have T:=N c O 0 r U B;rw[KB,DX,DX];have G:=N a O 1 (tkn (3,[45,62])::(Au (tkF 0 c)++r)) U (StopL.cons rI);exact Run.call G (Hj rfl (Run.call T (Run.ret _ _)))
 ·obtain rfl:v=0:=by omega
  obtain rfl:b=0:=by omega
  obtain⟨a,rfl⟩:=IJ f S;obtain rfl:=C rI;rw[IG,DX];have G:=N a O 4 r U (B.mono rI);have e:okF a=true:=EU g a O;exact IK (o:=⟨8,0,0⟩) (n:=none) rfl (ix0 _ rfl) G
 ·obtain⟨a,c,rfl⟩:=M0 f S;obtain rfl:=C rI;obtain rfl:v=0:=by omega
  obtain rfl:b=0:=by omega
  have T:=N c O 3 r U (B.mono rI);have e:okF c=true:=EU g c O;rw[KB,DX,DX];exact LE (N a O 4 _ U (StopL.cons (x:=tkn (1,[85])) rI)) rfl (ix0 (o:=⟨9,0,0⟩) _ rfl) T
 ·obtain⟨a,c,rfl⟩:=M0 f S;obtain rfl:=C rI;obtain rfl:v=0:=by omega
  obtain rfl:b=0:=by omega
  have T:=N c O 3 r U (B.mono rI);have e:okF c=true:=EU g c O;rw[KB,DX,DX];exact LE (N a O 4 _ U (StopL.cons (x:=tkn (1,[82])) rI)) rfl (ix0 (o:=⟨10,0,0⟩) _ rfl) T
 ·obtain rfl:v=0:=by omega
  obtain rfl:b=0:=by omega
  obtain⟨a,rfl⟩:=IJ f S;obtain rfl:=C rI;rw[IG,DX];have G:=N a O 4 r U (B.mono rI);have e:okF a=true:=EU g a O;exact IK (o:=⟨11,13,0⟩) (n:=none) rfl (Pr (O9 e 4 r)) G
 ·obtain rfl:v=0:=by omega
  obtain rfl:b=0:=by omega
  obtain⟨a,rfl⟩:=IJ f S;obtain rfl:=C rI;rw[IG,DX];have G:=N a O 4 r U (B.mono rI);have e:okF a=true:=EU g a O;exact IK (o:=⟨12,14,0⟩) (n:=none) rfl (Pr (O9 e 4 r)) G
 ·obtain rfl:v=0:=by omega
  obtain⟨a,rfl⟩:=IJ f S;obtain rfl:=C rI;rw[IG,DX];have G:=N a O 4 r U (B.mono rI);have e:okF a=true:=EU g a O;exact IK (o:=⟨11,13,0⟩) (n:=some b) rfl (Pj rI p) G
 ·obtain rfl:v=0:=by omega
  obtain⟨a,rfl⟩:=IJ f S;obtain rfl:=C rI;rw[IG,DX];have G:=N a O 4 r U (B.mono rI);have e:okF a=true:=EU g a O;exact IK (o:=⟨12,14,0⟩) (n:=some b) rfl (Pj rI p) G
 ·obtain rfl:b=0:=by omega
  rcases(show v=0\/v=1 by omega)with rfl|rfl
  ·obtain⟨a,rfl⟩:=IJ f S;obtain rfl:=C rI;rw[IG,DX];have G:=N a O 4 r U (B.mono rI);have e:okF a=true:=EU g a O;exact IK (o:=⟨15,0,0⟩) (n:=none) rfl (ix0 _ rfl) G
  ·obtain⟨a,rfl⟩:=IJ f S;obtain rfl:=C rI;rw[IG,DX];have G:=N a O 4 r U (B.mono rI);have e:okF a=true:=EU g a O;exact IK (o:=⟨15,0,1⟩) (n:=none) rfl (ix0 _ rfl) G
 ·obtain⟨a,c,rfl⟩:=M0 f S;obtain rfl:=C rI;obtain rfl:b=0:=by omega
  by_cases s:v=0
  ·subst s;have T:=N c O 3 r U (B.mono rI);have e:okF c=true:=EU g c O;rw[KB,DX,DX];exact LE (N a O 4 _ U (StopL.cons (x:=tkn (1,[83])) rI)) rfl (Pr (o:=⟨16,16,0⟩) (O9 e 3 r)) T
  ·simp only[sgK,AG s];have T:=N c O 3 r U (B.mono rI);have e:okF c=true:=EU g c O;rw[KB,DX,DX];exact LE (N a O 4 _ U (StopL.cons (x:=tkn (1,[83])) rI)) rfl (Pj (o:=⟨16,16,0⟩) rI m) T
 ·obtain⟨a,c,rfl⟩:=M0 f S;obtain rfl:=C rI;obtain rfl:b=0:=by omega
  by_cases s:v=1
  ·subst s;have T:=N c O 3 r U (B.mono rI);have e:okF c=true:=EU g c O;rw[KB,DX,DX];exact LE (N a O 4 _ U (StopL.cons (x:=tkn (1,[84])) rI)) rfl (Pr (o:=⟨17,17,1⟩) (O9 e 3 r)) T
  ·simp only[sgK,AG s];have T:=N c O 3 r U (B.mono rI);have e:okF c=true:=EU g c O;rw[KB,DX,DX];exact LE (N a O 4 _ U (StopL.cons (x:=tkn (1,[84])) rI)) rfl (Pj (o:=⟨17,17,1⟩) rI m) T
 ·obtain rfl:v=0:=by omega
  obtain rfl:b=0:=by omega
  obtain⟨a,rfl⟩:=IJ f S;obtain rfl:=C rI;rw[IG,DX];have G:=N a O 4 r U (B.mono rI);have e:okF a=true:=EU g a O;exact IK (o:=⟨18,0,0⟩) (n:=none) rfl (ix0 _ rfl) G
 ·obtain rfl:v=0:=by omega
  obtain rfl:b=0:=by omega
  obtain⟨a,rfl⟩:=IJ f S;obtain rfl:=C rI;rw[IG,DX];have G:=N a O 4 r U (B.mono rI);have e:okF a=true:=EU g a O;exact IK (o:=⟨19,0,0⟩) (n:=none) rfl (ix0 _ rfl) G
def Sw:∀(m:Nat)(f:Fml),SizeOf.sizeOf f<=m->okF f=true->M5 f
 |0,f,hm,_=>by cases f;simp at hm
 |m+1,.mk op nm v b args,hm,hok=>by
  simp only[okF,AZ]at hok;have N:∀a∈args,M5 a:=fun a G=>Sw m a (by have:=P8 G;simp at hm;omega) (EU hok.2 a G);intro n r H B;simp only[tkF];by_cases d:(BH op).level<n
  ·rw[BE d];have c:=VX hok.1 hok.2 N (StopL.nil _);have Z:=Pe (min (BH op).level 4) 0 U (by rw[Bs];exact c) (StopL.nil 0);have W:RunN .unary _ _:=qt (x:=tkn (3,[40])) (y:=tkn (3,[41])) r rfl rfl Z;have e:Au (Pp true (tkA (BH op).first (BH op).next (sgK op nm v b) args))++r=tkn (3,[40])::(Au (tkA (BH op).first (BH op).next (sgK op nm v b) args)++[]++tkn (3,[41])::r):=by simp[Au,Pp]
   rw[e];refine Pe (4-n) n U ?_ B;rw[show n+(4-n)=4 by omega];exact W
  ·rw[BC d];have c:=VX hok.1 hok.2 N (r:=r) (B.mono U);refine Pe (min (BH op).level 4-n) n U ?_ B;rw[show n+(min (BH op).level 4-n)=min (BH op).level 4 by omega];exact c
def qC{f:Fml}(h:okF f=true):RunN .formula (Au (tkF 0 f)) (.ok (f,[])):=by
 have:=Sw _ f (AO _) h 0 [] U (StopL.nil 0);rw[Ch]at this;exact this
end



def eE:∀(N:Nat)(f:Fml),szF f<=N->∀(w:World)(v:Value)(l:Nat),l<=1000000->FAt AL w v f->Fn Zp 129 [v,iV (l:Int)] w fun u w'=>u=iV ((min (szF f) (l+1):Nat):Int)/\Ext w w':=by
 intro N
 induction N with
 |zero=>intro f A;have:=Ey f;omega
 |succ N ih=>
 intro f A w v l hl K;obtain⟨G,rfl,L,i,q⟩:=K.form;obtain⟨a,c,rfl,C⟩:=id i;have X:f.args.length<=9223372036854775807:=by obtain⟨Z,j,_⟩:=C;omega
 have a2:=Bn f;refine AM func129 rfl ntmps129 (go ?_);refine Ac (L:=fcC f (.slice a f.args.length c)) rfl (fun Q D=>?_);have p:=D.D;have d:=D.E;have s:CC Q w.heap.size (0+4) (.slice a f.args.length c):=p.cell rfl;refine go ?_;refine Aj (α:=Nat) (fun k=>[(1,iV (l:Int)),(2,pt w.heap.size),(5,iV ((min (1+szL (f.args.take k)) (l+1):Nat):Int)),(6,iV (k:Int))]) (fun k W=>k<=f.args.length/\Ext Q W) (fun k=>f.args.length-k) 0 ⟨rfl,rfl,congrArg (Value.int .i64) (by simp[szL];try omega),rfl,trivial⟩ ⟨by simp,Ext.refl _⟩ ?_;rintro k o M⟨P,h⟩;have I:=h.cell s O;have y:=d.Q h
 have a3:szL (f.args.take k)<=szL f.args:=by
  have:∀l m:LF,szL (l++m)=szL l+szL m:=by
   intro l
   induction l with
   |nil=>intro m;simp[szL]
   |cons a l ih2=>intro m;simp only[Ee,szL,ih2 m];omega
  have j:=this (f.args.take k) (f.args.drop k);rw[HB]at j;omega
 refine go ?_;generalize H:min (1+szL (f.args.take k)) (l+1)=n;by_cases z:k<f.args.length
 ·by_cases a1:n<=l
  ·refine go ?_;obtain⟨x,V⟩:∃x,f.args[k]?=some x:=⟨_,AU z⟩;obtain⟨b,B⟩:∃b,L[k]?=some b:=⟨_,AU (by rw[q.1];exact z)⟩;obtain⟨r,oa,rfl,T,S⟩:=i.fml q.2.1 B z;have a4:=Ci (BA V);have E:FAt AL o (.agg b.toArray) x:=(q.2.2 k b x B V).ext y;have R:=S.E y O
   have F:szL (f.args.take (k+1))=szL (f.args.take k)+szF x:=by
    rw[CT,V]
    have:∀l:LF,szL (l++[x])=szL l+szF x:=by
     intro l
     induction l with
     |nil=>simp[szL]
     |cons a l ih2=>simp only[Ee,szL,ih2];omega
    exact this _
   refine go ?_;refine Al (L:=b) rfl (q.2.1 b (BA B)) R (go ?_);have t:(l:Int)-(n:Int)=((l-n:Nat):Int):=by omega
   rw[t];refine AD (ih x U o _ (l-n) U E) rfl ?_;rintro _ w3⟨rfl,g⟩;have a0:min (szF x) (l-n+1)<=l+1:=by omega
   refine go ?_;refine⟨k+1,⟨rfl,⟨rfl,rfl,?_,?_,trivial⟩,⟨z,h.Q g⟩⟩,by omega⟩
   ·refine congrArg (Value.int .i64) ?_;rw[F];show(n:Int)+((min (szF x) (l-n+1):Nat):Int)=_;omega
   ·show iV ((k:Int)+1)=_;rw[BB];rfl
  ·refine go ?_;refine AC rfl ⟨congrArg (Value.int .i64) ?_,y⟩;omega
 ·have e:k=f.args.length:=by omega
  subst e;rw[Co]at H;refine go ?_;refine AC rfl ⟨congrArg (Value.int .i64) ?_,y⟩;omega
def OL(w:World)(v:Value)(f:Fml)(l:Nat)(N:l<=1000000)(K:FAt AL w v f):Fn Zp 69 [v,iV (l:Int)] w fun u w'=>u=.bool (decide (szF f<=l))/\Ext w w':=by
 obtain⟨R,rfl,L,i,a⟩:=K.form;refine AM func69 rfl ntmps69 (go ?_);refine Ac (L:=fcC f R) rfl (fun Q D=>?_);have q:=D.D;have d:=D.E;refine go ?_;refine gC (eE _ f (AO _) Q _ l N (K.ext d)) ?_;rintro _ b⟨rfl,m⟩;by_cases h:szF f<=l
 ·refine gR ?_;exact⟨congrArg Value.bool (by simp[h]),d.Q m⟩
 ·refine gR ?_;exact⟨congrArg Value.bool (by simp[h]),d.Q m⟩
def R2(k:LU->Int->Bool):∀l:LF,isL k l=l.all (isB k)
 | []=>rfl
 |a::l=>by rw[isL,R2 k l];rfl
def jY(D:World)(H:Option Addr)(G:Nat)(S:List Sgn)(P:SlAt sgnR AL D (.slice H S.length G) S):∀(n:Nat)(w:World)(b o:Nat)(f:Fml),dpF f<=n->Ext D w->PF AL w b o f->Fn Zp 215 [.slice H S.length G,.pointer (sn b o)] w fun u w'=>u=.bool (isB (knS S) f)/\Ext w w':=by
 intro n
 induction n with
 |zero=>intro w b o f A;rw[Cr]at A;omega
 |succ n ih=>
 intro w b o f A c hf;rw[Cr]at A;have B:=P.ext c;obtain⟨N,cc,b1,q0,q1,q2,q3,E,qa⟩:=hf.all;obtain⟨M,l,v,bd,d⟩:=f;simp only[Fml.op,Fml.name,Fml.val,Fml.args]at*
 have a1:∀(k:Nat)(a:Fml),d[k]?=some a->∀W,Ext w W->∃q m,N=some ⟨q,m,none⟩/\Fn Zp 215 [.slice H S.length G,.pointer (sn q (m+k*5))] W fun u w'=>u=.bool (isB (knS S) a)/\Ext W w':=fun k a t W r=>by
  exact uI
 rw[isB];refine AM func215 rfl ntmps215 ?_;refine nX ?_;refine AN (AT (AH rfl ?_));refine nX ?_;refine AN (Aq rfl (A7 rfl (AV rfl (AQ rfl rG ?_))));refine K6 rfl rfl ?_;refine AB ?_;refine Fx ?_;refine CE (α:=Unit) (fun _=>[(0,.slice H S.length G),(1,.pointer (sn b o))]) (fun _ W=>Ext w W/\(if M=3 then knS S l v else true)=true) ?_ ?_
 ·by_cases R:M=3
  ·rw[BE R];refine gC (Kh w _ S l B) ?_;rintro _ w2⟨rfl,rfl⟩;simp only[AJ R];unfold EW knS;cases hj:S.findIdx? (fun y=>decide (y.name=l))with
   |none=>
    simp only;refine go ?_;refine Ab (rd 0 14 .done) AX rD (fun X g T=>⟨Ext X,?_,?_⟩)
    ·exact sY
    refine gR ?_;exact⟨rfl,g⟩
   |some j=>
    have a4:j<S.length:=(IX.1 hj).1;obtain⟨s,C⟩:∃s,S[j]?=some s:=⟨_,AU a4⟩;obtain⟨_,sb,so,rfl,_,a8⟩:=B.sig C;simp only[C];refine go ?_;refine Ab (rd 0 14 .done) AX rD (fun X g T=>⟨Ext X,?_,?_⟩)
    ·exact sY
    have s1:∀V,Ext X V->CC V b (o+2) (iV v):=fun V e=>(g.Q e).cell q2 O;have s2:∀V,Ext X V->CC V sb (so+j*3+2) (iV s.size):=fun V e=>(g.Q e).cell (a8 2 _ rfl) O;by_cases h:v<s.size
    ·refine go ?_;exact Af () ag ⟨g,BE h⟩
    ·refine go ?_;refine gR ?_;exact⟨by rw[BC h];rfl,g⟩
  ·rw[BC R];refine go ?_;exact Af () ag ⟨Ext.refl _,by rw[AG R]⟩
 rintro _ L f5⟨Q,a7⟩;rw[a7,HE,R2];have a9:=Q.cell E O;clear E;have E:=a9;have a0:∀(k:Nat)(a:Fml),d[k]?=some a->∀W,Ext L W->∃q m,N=some ⟨q,m,none⟩/\Fn Zp 215 [.slice H S.length G,.pointer (sn q (m+k*5))] W fun u w'=>u=.bool (isB (knS S) a)/\Ext W w':=fun k a t W r=>a1 k a t W (Q.Q r);refine go ?_;refine Aj (α:=Nat) (fun k=>[(0,.slice H S.length G),(1,.pointer (sn b o)),(36,iV (d.length:Int)),(37,iV (k:Int))]) (fun k W=>k<=d.length/\Ext L W/\∀(i:Nat)(y:Fml),i<k->d[i]?=some y->isB (knS S) y=true) (fun k=>d.length-k) 0 (by repeat (first|exact trivial|refine⟨rfl,?_⟩)) ⟨by omega,Ext.refl _,fun i y F=>by omega⟩ ?_;rintro k W fr⟨b0,K,Z⟩;have b2:=K.cell E O;refine go ?_;by_cases a5:k<d.length
 ·refine go ?_;obtain⟨y,I⟩:∃y,d[k]?=some y:=⟨_,AU a5⟩;obtain⟨q,m,rfl,a2⟩:=a0 k y I W K;refine go ?_;refine AD a2 rfl ?_;rintro _ w4⟨rfl,k4⟩;have x:=K.Q k4;cases h:isB (knS S) y with
  |true=>
   refine go ?_;refine⟨k+1,⟨rfl,⟨(by repeat (first|exact trivial|refine⟨rfl,?_⟩)),⟨by omega,x,fun i z F p=>?_⟩⟩⟩,by omega⟩;by_cases a3:i=k
   ·subst a3;rw[I]at p;cases p;exact h
   ·exact Z i z U p
  |false=>
   refine gR ?_;exact⟨congrArg Value.bool (OX I h).symm,(Q).Q x⟩
 ·refine gR ?_;exact⟨congrArg Value.bool (OW fun i z F p=>Z i z U p).symm,(Q).Q K⟩
def KK(S:List Sgn)(f:Fml):Bool:=Bo S&&(Mw f&&isB (knS S) f)
def js(w:World)(H:Option Addr)(G:Nat)(S:List Sgn)(b o:Nat)(f:Fml)(i:SlAt sgnR AL w (.slice H S.length G) S)(K:PF AL w b o f)(z:GF w)(a:KY w)(c:10<=w.heap.size):
  Fn Zp 171 [.slice H S.length G,.pointer (sn b o)] w fun u w'=>u=.bool (KK S f)/\Ext w w':=by
 refine AM func171 rfl ntmps171 ?_;refine gC (Lu w _ S i a) ?_;rintro _ e⟨rfl,d⟩;unfold KK;cases Bo S with
 |false=>
  exact tR
 |true=>
  refine gC (gQ e b o f (K.E d (fun _ _=>by simp)) (z.ext d) (a.E d O) (Az c d.size)) ?_;rintro _ L⟨rfl,m⟩;cases Mw f with
  |false=>
   exact uL
  |true=>
   refine go ?_;have Q:=d.Q m;refine gC (jY L H G S (i.ext Q) (dpF f) L b o f (AO _) (Ext.refl _) (K.E Q (fun _ _=>by simp))) ?_;rintro _ h⟨rfl,g⟩;cases isB (knS S) f with
   |true=>
    refine gR ?_;exact⟨rfl,Q.Q g⟩
   |false=>
    refine gR ?_;exact⟨rfl,Q.Q g⟩
def Tu{S:List Sgn}{f:Fml}(h:KK S f=true):Bo S=true/\DP f=true/\isB (knS S) f=true:=by
 simp only[KK,AZ]at h;obtain⟨Z,W,R⟩:=h;refine⟨Z,?_,R⟩;unfold Mw at W;rcases Bool.or_eq_true_iff.1 W with h|h
 ·simp only[ND,AZ,BD]at h;simp only[DP,AZ,BD];exact⟨⟨by omega,by omega⟩,h.2⟩
 ·cases hl:DP f with
  |true=>rfl
  |false=>
   unfold DV at h;rw[hl,AG CX]at h;exact absurd rfl (FO h)
def FH(S:List Sgn)(f:Fml)(x:Int):Fml:=if KK S f=true/\0<=x/\x<Ei S then ZA (vlS S x) f else Ad
def XB(w:World)(H:Option Addr)(s:Nat)(S:List Sgn)(v:Value)(f:Fml)(x:Int)(p:SlAt sgnR AL w (.slice H S.length s) S)(K:FAt AL w v f)(z:GF w)(G:KY w)(a:10<=w.heap.size):
  Fn Zp 115 [.slice H S.length s,v,iV x] w fun u w'=>Ext w w'/\FAt (fun b=>w.heap.size<=b/\Unm w' b) w' u (FH S f x):=by
 obtain⟨c,rfl,F,T⟩:=K.cells;obtain⟨V,d,X,x3,j,rfl⟩:=An F;refine AM func115 rfl ntmps115 (go ?_);refine Ac (L:=[V,d,X,x3,j]) rfl (fun w1 D=>?_);refine Ai (L:=zero5) (fun t R=>go ?_);have z1:=D.size;have z2:=R.size;have Q:=D.E.Q R.E;have b1:Blk t w.heap.size 37 [V,d,X,x3,j]:=D.D.E R.E O;have b2:=R.D;have C:PF AL t w.heap.size 0 f:=⟨trivial,_,rfl,b1.cells,K.ext Q⟩;refine gC (js t H s S w.heap.size 0 f (p.ext Q) C (z.ext Q) (G.E Q O) (Az a Q.size)) ?_;rintro _ w3⟨rfl,g⟩;have N:=Q.Q g;have i:=b2.E g O;unfold FH;cases hfit:KK S f with
 |false=>
  rw[AG (fun h=>CX h.1)];exact tr
 |true=>
  obtain⟨hv,hl,P⟩:=Tu hfit;by_cases a0:x<0
  ·rw[AG (fun h=>by omega)];exact tr
  ·refine gC (Qa w3 _ S (p.ext N) (G.E N O) (Az a N.size)) ?_;rintro _ w4⟨rfl,e⟩;have n:=N.Q e;have B:=i.E e O;by_cases W:x<Ei S
   ·rw[AJ ⟨rfl,by omega,W⟩];refine gC (bI w4 _ S x (p.ext n) hv U W (G.E n O) (Az a n.size)) ?_;rintro _ w5⟨r,rfl,m,Z⟩;have l:=n.Q m;refine AD (kI w5 r S x Z w.heap.size 0 f hl P (C.E ((g.Q e).Q m) (fun _ _=>by simp)) (z.ext l) (G.E l O) (Az a l.size)) rfl ?_;rintro u w6⟨q,M⟩;obtain⟨k,rfl,o,T⟩:=M.cells;obtain⟨y0,y1,y2,y3,y4,rfl⟩:=An o;have z4:=n.size;have z5:=m.size;have z3:=g.size;have a1:=e.size;refine Aa (cs:=[y0,y1,y2,y3,y4]) rfl rfl rfl T ((B.E m O).E q O) rK (fun A E=>go ?_);exact Ar rfl rfl rfl E.D.cells ⟨(l.Q q).E E.E rE,(M.unm E.E (fun y I hm=>by rw[Bj]at hm;omega)).mono fun y I=>⟨by omega,I.2⟩⟩
   ·rw[AG (fun h=>W h.2.2)];refine go ?_;refine Aa (cs:=zero5) rfl rfl rfl (Ak rfl) B rK (fun A E=>go ?_);exact Ar rfl rfl rfl E.D.cells ⟨n.E E.E rE,FAt.leaf _ _ 0 [] 0 0⟩

section
variable {P:Program}{all:Array Oper}{Z:Fr->DS->List PanicEntry->World->Prop}{K:Fr->DS->World->Prop}{rest:List Oper}{f:Fr}{ds:DS}{w:World}
 {d:Nat}{ty:TypeId}{pos:String}{af:Array Edge}
def lY{T e a:Nat}{z:Value}{l c:Operand}{k S:IntKind}{n:Nat}{N M:Int}[hT:SlT P T e 1 a z](p:z.cells= #[z])(q:ev f l=.int k N)(m:ev f c=.int S M)(L:N=0)(F:M=(n:Int))(t:a*n<=281474976710656)(r:n<=9223372036854775807)
  (h:∀w',New w w' e (List.replicate n z)->w'.ownsRow w.heap.size e 1 (.slice (sm w.heap.size) 0 n) 0 []->AF P all Z K rest (upd f d (.slice (sm w.heap.size) 0 n)) ds w'):
  AF P all Z K (⟨some d,.makeSlice T l c,ty,pos,af,none⟩::rest) f ds w:=by
 subst L;subst F;obtain⟨i,o,A,s,j⟩:=hT.out
 have g:(i.bytes:Int)*(n:Int)<=281474976710656:=by
  rw[j];have h:((a*n:Nat):Int)<=281474976710656:=by omega
  rwa [RG]at h
 have B:=run_make (P:=P) w T e i z hT.und o A k S 0 n U U g U
 have b:New w (w.alloc (.cells (madeCells z.cells (n*1)).toList.toArray e)) e (List.replicate n z):=by
  have:=New.mk_alloc w (madeCells z.cells (n*1)).toList e
  rwa [p,Md,UM]at this⊢
 refine At (v:=.slice (sm w.heap.size) 0 n) (w':=w.alloc (.cells (madeCells z.cells (n*1)).toList.toArray e)) rfl ?_ (h _ b ⟨by simp,.inr ⟨w.heap.size,n,(List.replicate n z).toArray,rfl,AO _,b.D,by omega,by unfold maxLen;omega,by simp,by simp⟩⟩);simp[execOp,q,m,B,s]
end
section
variable {mk:Prop}[MK mk]
open Go.ChangeMaps (setBlock)
attribute [local semireducible] WC AF CO B0 Cx B8 Cc CB
variable {P:Program}{all:Array Oper}{Z:Fr->DS->List PanicEntry->World->Prop}{K:Fr->DS->World->Prop}{rest:List Oper}{f:Fr}{ds:DS}{w:World}
 {d:Nat}{ty:TypeId}{pos:String}{af:Array Edge}
theorem IL{x y:Operand}{a b:Int}{c H:TypeId}(V:ev f x=iV a)(I:ev f y=iV b)(h:AF P all Z K rest (upd f d (iV (max a b))) ds w):
  AF P all Z K (⟨some d,.call ⟨.builtin .max,#[x,y],#[c,H]⟩,ty,pos,af,none⟩::rest) f ds w:=by
 refine At rfl ?_ h;simp[execOp,resolve,invoke,builtin,V,I,Builtin.max_,Builtin.max2]
 split<;>omega
theorem Fb{x y:Operand}{a b:Int}{c H:TypeId}(V:ev f x=iV a)(I:ev f y=iV b)(h:AF P all Z K rest (upd f d (iV (min a b))) ds w):
  AF P all Z K (⟨some d,.call ⟨.builtin .min,#[x,y],#[c,H]⟩,ty,pos,af,none⟩::rest) f ds w:=by
 refine At rfl ?_ h;simp[execOp,resolve,invoke,builtin,V,I,Builtin.min_,Builtin.min2]
 split<;>omega
end

def Ot:=@Nat.sub_self
def Re{α:Type}(A:List α)(z v:α)(n i:Nat)(t:A.length=i)(F:i<n):(A++List.replicate (n-i) z).set i v=(A++[v])++List.replicate (n-(i+1)) z:=by
 obtain⟨m,r⟩:∃m,n-i=m+1:=⟨n-i-1,by omega⟩;rw[r,List.replicate_succ,NY _ _ U,t,Ot,List.set_cons_zero,show n-(i+1)=m by omega,Cg];rfl
def qN(W:World)(B:Nat)(A:Option Nat)(vs:LV)(S:List Sgn)(xs:List Int):Prop:=vs.length=xs.length/\∀(k:Nat)(u:Value)(x:Int),vs[k]?=some u->xs[k]?=some x->∃g,u=.slice (sm g) S.length S.length/\B<=g/\some g≠A/\Blk W g 3 (IQ S x S.length)



abbrev mvT(F:FuncId)(l:LV):Value:=.func (.func F) #[] l.toArray
def TB(I i:Nat):List (Int×Value):=[(1,mvT 240 [pt i]),(2,mvT 241 [pt i]),(3,mvT 242 [pt I]),(4,mvT 245 [pt I]),(5,mvT 247 [pt I]),(6,mvT 250 [pt I]),(7,mvT 252 [pt I]),(8,mvT 254 [pt I]),(9,mvT 256 [pt I]),(10,mvT 258 [pt I]),(11,mvT 260 [pt I,pt i]),(12,mvT 261 [pt I,pt i]),(13,mvT 262 [pt I]),(14,mvT 265 [pt I]),(15,mvT 267 [pt I]),(16,mvT 269 [pt I]),(17,mvT 271 [pt I]),(18,mvT 273 [pt I,pt i]),(19,mvT 274 [pt I,pt i])]
instance:JT Zp 241 .nilFunc:=Oq underlying241 underlying3 rD

section
variable {mk:Prop}[MK mk]
end




def Vk{l:List Sgn}{s:LU}{k:Nat}{x:Sgn}(V:l[k]?=some x)(H:x.name=s)(C:∀j y,j<k->l[j]?=some y->y.name≠s):EW l s=(k:Int):=by
 have:l.findIdx? (fun x=>decide (x.name=s))=some k:=by
  rw[IX];obtain⟨Z,W⟩:=Ah.1 V;refine⟨Z,by simp[W,H],fun j i=>?_⟩;have:=C j l[j] i (AU U);simpa using this
 unfold EW;rw[this]
def eP{l:List Sgn}{s:LU}(C:∀j y,j<l.length->l[j]?=some y->y.name≠s):EW l s= -1:=by
 have:l.findIdx? (fun x=>decide (x.name=s))=none:=by
  rw[NU];intro x V;obtain⟨i,F⟩:=Cn V;simpa using C i x (Ah.1 F).1 F
 unfold EW;rw[this]
def mC{l:List Sgn}{s:LU}{k:Nat}(h:EW l s=(k:Int)):∀j y,j<k->l[j]?=some y->y.name≠s:=by
 unfold EW at h;cases hf:l.findIdx? (fun x=>decide (x.name=s))with
 |none=>rw[hf]at h;simp at h
 |some i=>
  rw[hf]at h;simp only at h;obtain rfl:i=k:=by omega
  rw[IX]at hf;obtain⟨Z,W,R⟩:=hf;intro j y C I;have:=R j C;rw[(Ah.1 I).2]at this;simpa using this
def Ra(w:World)(v:Value)(l:List Sgn)(s:LU)(h:SlAt sgnR AL w v l):Fn Zp 131 [v,AA s] w fun v w'=>v=iV (EW l s)/\w'=w:=by
 have d:=h;obtain⟨a,c,rfl,A⟩:=h.len;refine AM func131 rfl ntmps131 (go ?_);refine Aj (α:=Nat) (fun k=>[(0,.slice a l.length c),(1,AA s),(5,iV (k:Int))]) (fun k W=>k<=l.length/\W=w/\∀j y,j<k->l[j]?=some y->y.name≠s) (fun k=>l.length-k) 0 ag ⟨by omega,rfl,fun j y C=>absurd C U⟩ ?_;rintro k m n⟨P,rfl,C⟩;refine nX ?_;by_cases g:k<l.length
 ·obtain⟨y,I⟩:∃y,l[k]?=some y:=⟨_,AU g⟩;obtain⟨_,b,o,rfl,_,f⟩:=d.sig I;have e:CC m b (o+k*3+0) (AA y.name):=f 0 _ rfl;refine AN (AS rfl (BY rfl (Cj rfl (FX rfl rfl U ?_))));refine nX ?_;by_cases q:y.name=s
  ·(refine AN (BY rfl (AS rfl (DZ rfl rfl rfl U (AV rfl (AQ rfl rG ?_)))))<;>refine BL rfl ?_<;>refine CZ rfl rfl (fun T=>?_) (fun T=>?_)<;>refine AB ?_)
   case refine_2=>exact absurd q rG
   refine nX ?_;refine AN (AS rfl (AT (AS rfl ?_)));refine nX ?_;exact AC rfl ⟨by rw[Vk I q C];rfl,rfl⟩
  ·(refine AN (BY rfl (AS rfl (DZ rfl rfl rfl U (AV rfl (AQ rfl rG ?_)))))<;>refine BL rfl ?_<;>refine CZ rfl rfl (fun T=>?_) (fun T=>?_)<;>refine AB ?_)
   case refine_1=>exact absurd rG q
   refine go ?_;refine⟨k+1,⟨rfl,⟨rfl,rfl,?_,trivial⟩,⟨by omega,rfl,fun j z i p=>?_⟩⟩,by omega⟩
   ·show iV ((k:Int)+1)=_;rw[BB];rfl
   ·rcases Nat.lt_or_ge j k with h|h
    ·exact C j z h p
    ·obtain rfl:j=k:=by omega
     rw[I]at p;cases p;exact q
 ·obtain rfl:k=l.length:=by omega
  refine gR ?_;exact⟨by rw[eP C];rfl,rfl⟩
def N0(w:World)(v:Value)(l:List Sgn)(h:SlAt sgnR AL w v l):Fn Zp 70 [v] w fun u w'=>u=.bool (Bo l)/\Ext w w':=by
 have q:=h;obtain⟨a,c,rfl,a3⟩:=h.len;refine AM func70 rfl ntmps70 (go ?_);by_cases E:1<=l.length/\l.length<=6
 case neg=>
  have s:Bo l=false:=by
   simp only[Bo];rw[show(decide (1<=l.length)&&decide (l.length<=6))=false by rw[<-EK,AZ,BD,BD];exact E];rfl
  rw[s];by_cases h1:1<=l.length
  ·exact tG
  ·exact tG
 obtain⟨a1,a2⟩:=E;refine go ?_;refine Aj (α:=Nat) (fun k=>[(0,.slice a l.length c),(3,iV (BR (l.take k))),(4,iV (k:Int))]) (fun k W=>k<=l.length/\Ext w W/\∀i,i<k->okI l i=true) (fun k=>l.length-k) 0 ag ⟨by omega,Ext.refl _,fun i F=>absurd F U⟩ ?_;rintro k Q f1⟨hk,d,n⟩;refine go ?_
 have p:=OK (l:=l.take k) (fun i F=>by
  rw[DE]at F;have t:i<k:=by omega
  obtain⟨y,M⟩:∃y,l[i]?=some y:=⟨_,AU U⟩;have a0:(l.take k)[i]?=some y:=by rw[Ed,AJ t];exact M
  have:=(HP M).1 (n i t);refine(HP a0).2 ⟨this.1,this.2.1,this.2.2.1,fun j z C N=>?_⟩;rw[Ed,AJ U]at N;exact this.2.2.2 j z C N) (AO _) (by rw[DE];omega)
 rw[Co]at p;by_cases G:k<l.length
 ·refine go ?_;obtain⟨x,g⟩:∃x,l[k]?=some x:=⟨_,AU G⟩;obtain⟨_,b,o,rfl,_,D⟩:=q.sig g;have B:∀W,Ext w W->CC W b (o+k*3+0) (AA x.name):=fun W e=>e.cell (D 0 _ rfl) O;have T:∀W,Ext w W->CC W b (o+k*3+2) (iV x.size):=fun W e=>e.cell (D 2 _ rfl) O;have d0:=B Q d;have V:okI l k=true↔_:=HP g;have Z:=Nz g;have P:okI l k=false->Bo l=false:=Th G;refine gC (Qe x.name Q) ?_;rintro _ L⟨rfl,m⟩;have f:=d.Q m;have c0:=B L f;have c2:=T L f;cases hnm:BP x.name with
  |false=>
   have S:=P (by rw[<-EK,V];simp[hnm]);exact ug
  |true=>
  refine gC (Ra L _ l x.name (q.ext f)) ?_;rintro _ L⟨rfl,rfl⟩;by_cases K:EW l x.name=(k:Int)
  case neg=>
   have S:=P (by
    rw[<-EK,V];intro H;exact K (Vk g rfl H.2.2.2))
   exact ug
  rw[K];have X:=mC K;by_cases r:2<=x.size
  case neg=>
   have S:=P (by rw[<-EK,V];simp[r]);exact ug
  by_cases A:x.size<=4
  case neg=>
   have S:=P (by rw[<-EK,V];simp[A]);exact ug
  have a4:0<=BR (l.take k)*x.size/\BR (l.take k)*x.size<=4096*4:=⟨ME U U,H2 p.2 A U U⟩;refine go ?_;refine⟨k+1,⟨rfl,⟨rfl,?_,?_,trivial⟩,⟨by omega,f,fun i F=>?_⟩⟩,by omega⟩
  ·exact congrArg (Value.int .i64) Z.symm
  ·show iV ((k:Int)+1)=_;rw[BB];rfl
  ·by_cases t:i=k
   ·subst t;exact V.2 ⟨hnm,r,A,X⟩
   ·exact n i U
 ·obtain rfl:k=l.length:=by omega
  rw[Co]at p⊢;have R:(List.range l.length).all (okI l)=true:=by rw[Bu];intro i F;exact n i (HZ.1 F)
  have s:Bo l=decide (BR l<=64):=by simp only[Bo,R];simp;omega
  rw[s];refine go ?_;by_cases I:BR l<=64
  ·refine gR ?_;exact⟨congrArg Value.bool (by simp[I]),d⟩
  ·refine gR ?_;exact⟨congrArg Value.bool (by simp[I]),d⟩
def DC(b:Bool):List Sgn->Int
 | []=>1
 |x::l=>if x.input=b then DC b l*x.size else DC b l
def UD(b:Bool):∀(l:List Sgn)(x:Sgn),DC b (l++[x])=if x.input=b then DC b l*x.size else DC b l
 | [],x=>by simp[DC]
 |y::l,x=>by
  rw[Ee,DC,UD b l x,DC];by_cases Z:y.input=b<;>by_cases W:x.input=b<;>simp[Z,W,Int.mul_right_comm]
def dg{b:Bool}{l:List Sgn}{k:Nat}{x:Sgn}(h:l[k]?=some x):DC b (l.take (k+1))=if x.input=b then DC b (l.take k)*x.size else DC b (l.take k):=by
 rw[CT,h,<-UD];rfl
def U6:∀l:List Sgn,DC true l*DC false l=BR l
 | []=>rfl
 |x::l=>by
  rw[BR,<-U6 l,DC,DC];cases x.input<;>simp[Int.mul_assoc,Int.mul_left_comm,Int.mul_comm]
def SH(b:Bool):∀(l:List Sgn),(∀x∈l,2<=x.size/\x.size<=4)->1<=DC b l/\DC b l<=BR l
 | [],_=>by simp[DC,BR]
 |x::l,h=>by
  obtain⟨Z,W⟩:=SH b l fun y I=>h y (by simp[I]);obtain⟨R,A⟩:=h x O;have a:BR l<=BR l*x.size:=by have:=Int.mul_le_mul_of_nonneg_left (show(1:Int)<=x.size by omega) (show 0<=BR l by omega);omega
  rw[DC,BR]
  split
  ·have p:=H2 Z (show(1:Int)<=x.size by omega) U U;exact⟨by omega,Int.mul_le_mul_of_nonneg_right W U⟩
  ·omega
def Xs(w:World)(v:Value)(l:List Sgn)(b:Bool)(h:SlAt sgnR AL w v l):Fn Zp 112 [v,.bool b] w fun u w'=>u=iV (if Bo l then DC b l else 0)/\Ext w w':=by
 have j:=h;obtain⟨a,c,rfl,A⟩:=h.len;refine AM func112 rfl ntmps112 ?_;refine gC (N0 w _ l j) ?_;rintro _ Q⟨rfl,g⟩;cases hv:Bo l with
 |false=>
  refine gR ?_;exact⟨rfl,g⟩
 |true=>
 obtain⟨r,n,f,C⟩:=If hv;refine go ?_;refine Aj (α:=Nat) (fun k=>[(0,.slice a l.length c),(1,.bool b),(5,iV (DC b (l.take k))),(6,iV (k:Int))]) (fun k W=>k<=l.length/\W=Q) (fun k=>l.length-k) 0 ag ⟨by omega,rfl⟩ ?_;rintro k W B⟨P,rfl⟩;refine go ?_;by_cases m:k<l.length
 ·obtain⟨x,V⟩:∃x,l[k]?=some x:=⟨_,AU m⟩;obtain⟨_,q,o,rfl,_,z⟩:=(j.ext g).sig V;have t:CC W q (o+k*3+1) (.bool x.input):=z 1 _ rfl;have D:CC W q (o+k*3+2) (iV x.size):=z 2 _ rfl
  have E:=SH b (l.take k) fun y I=>by
   obtain⟨i,F⟩:=Cn (NZ I);have:=(HP F).1 (f i (Ah.1 F).1);exact⟨this.2.1,this.2.2.1⟩
  have p:=(OK f P n).2;have s:=(HP V).1 (f k m);have G:0<=DC b (l.take k)*x.size/\DC b (l.take k)*x.size<=4096*4:=⟨ME U U,H2 U s.2.2.1 U U⟩;have d:=dg (b:=b) V;refine go ?_;by_cases S:x.input=b
  ·rw[AJ S]at d;have e:(x.input==b)=true:=by simp[S]
   rw[e];refine go ?_;refine⟨k+1,⟨rfl,⟨rfl,rfl,congrArg (Value.int .i64) d.symm,rj,trivial⟩,⟨by omega,rfl⟩⟩,by omega⟩
  ·rw[AG S]at d;have e:(x.input==b)=false:=by simp[S]
   rw[e];refine go ?_;refine⟨k+1,⟨rfl,⟨rfl,rfl,congrArg (Value.int .i64) d.symm,rj,trivial⟩,⟨by omega,rfl⟩⟩,by omega⟩
 ·obtain rfl:k=l.length:=by omega
  rw[Co];refine gR ?_;exact⟨rfl,g⟩
def dX(w:World)(v:Value)(l:List Sgn)(h:SlAt sgnR AL w v l):Fn Zp 48 [v] w fun u w'=>u=iV (if Bo l then DC true l else 0)/\Ext w w':=by
 have b:=h;obtain⟨a,c,rfl,A⟩:=h.len;refine AM func48 rfl ntmps48 ?_;refine gC (Xs w _ l true b) ?_;rintro _ Q⟨rfl,d⟩;exact tR
def bK(w:World)(v:Value)(l:List Sgn)(h:SlAt sgnR AL w v l):Fn Zp 49 [v] w fun u w'=>u=iV (if Bo l then DC false l else 0)/\Ext w w':=by
 have b:=h;obtain⟨a,c,rfl,A⟩:=h.len;refine AM func49 rfl ntmps49 ?_;refine gC (Xs w _ l false b) ?_;rintro _ Q⟨rfl,d⟩;exact tR
def Td(w:World)(v:Value)(l:List Sgn)(h:SlAt sgnR AL w v l)(s:Bo l=true):Fn Zp 18 [v] w fun u w'=>u=iV (Ei l)/\Ext w w':=by
 have f:=h;obtain⟨a,c,rfl,A⟩:=h.len;obtain⟨E,e⟩:=MM s;obtain⟨n,V,g,k⟩:=If s
 have P:=fun b=>SH b l fun y I=>by
  obtain⟨i,F⟩:=Cn I;have:=(HP F).1 (g i (Ah.1 F).1);exact⟨this.2.1,this.2.2.1⟩
 have q:=P true;have j:=P false;have r:=U6 l;rw[E,<-r];have o:0<=DC true l*DC false l/\DC true l*DC false l<=64:=by rw[r];omega
 refine AM func18 rfl ntmps18 ?_;refine gC (dX w _ l f) ?_;rintro _ Q⟨rfl,d⟩;refine gC (bK Q _ l (f.ext d)) ?_;rintro _ L⟨rfl,m⟩;rw[AJ s,AJ s];exact uL
def dZ(w:World)(v:Value)(l:List Sgn)(h:SlAt sgnR AL w v l):Fn Zp 68 [v] w fun u w'=>∃b:Bool,u=.bool b/\Ext w w':=by
 have d:=h;obtain⟨a,c,rfl,A⟩:=h.len;refine AM func68 rfl ntmps68 (go ?_);by_cases f:l.length<=10
 ·refine go ?_;refine Aj (α:=Nat) (fun k=>[(0,.slice a l.length c),(3,iV (k:Int))]) (fun k W=>k<=l.length/\W=w) (fun k=>l.length-k) 0 ag ⟨by omega,rfl⟩ ?_;rintro k W Q⟨P,rfl⟩;refine go ?_;by_cases e:k<l.length
  ·obtain⟨x,V⟩:∃x,l[k]?=some x:=⟨_,AU e⟩;obtain⟨_,q,o,rfl,_,z⟩:=d.sig V;have I:CC W q (o+k*3+0) (AA x.name):=z 0 _ rfl;refine go ?_;by_cases g:x.name.length<=40
   ·refine go ?_;refine⟨k+1,⟨rfl,⟨rfl,?_,trivial⟩,⟨by omega,rfl⟩⟩,by omega⟩;show iV ((k:Int)+1)=_;rw[BB];rfl
   ·refine gR ?_;exact⟨_,rfl,Ext.refl _⟩
  ·refine gR ?_;exact⟨_,rfl,Ext.refl _⟩
 ·refine gR ?_;exact⟨_,rfl,Ext.refl _⟩
mutual
def BU(P:Fml->Prop):Fml->Prop
 | .mk op nm v b args=>P (.mk op nm v b args)/\NN P args
def NN(P:Fml->Prop):LF->Prop
 | []=>True
 |a::l=>BU P a/\NN P l
end
def VO{P:Fml->Prop}:∀{l:LF},NN P l↔∀a∈l,BU P a
 | []=>by simp[NN]
 |a::l=>by simp[NN,VO (l:=l)]
def allF_iff{P:Fml->Prop}{f:Fml}:BU P f↔P f/\∀a∈f.args,BU P a:=by
 obtain⟨M,l,v,b,args⟩:=f;rw[BU,VO];rfl
def cntQ(op c F:Int)(ok:Bool):Prop:=ok=true->1<=op/\op<=19/\∀n:Nat,c<=n->(0<=F->(n:Int)<=F)->Am op n=true
def eK(w:World)(op:Int):Fn Zp 308 [iV op] w fun u w'=>∃(c F:Int)(ok:Bool),u=.tuple #[iV c,iV F,.bool ok]/\w'=w/\cntQ op c F ok:=by
 refine AM func308 rfl ntmps308 ?_;refine nX ?_;refine AN (AT (AS rfl (AT (AS rfl (AT (AH rfl ?_))))));refine nX ?_;refine AN (AS rfl ?_);refine nX ?_;(refine AN ?_<;>(refine Cb rfl rfl (fun T=>?_) (fun T=>?_)<;>try omega)<;>refine AT (AH rfl ?_))
 ·refine nX ?_;refine AN (AT (AS rfl (AT (AS rfl (AT (AH rfl ?_))))));refine nX ?_;exact tT
 refine nY ?_;(refine AN ?_<;>(refine Cb rfl rfl (fun T=>?_) (fun T=>?_)<;>try omega)<;>refine AT (AH rfl ?_))
 ·refine go ?_;exact tT
 refine nY ?_;(refine AN ?_<;>(refine Cb rfl rfl (fun T=>?_) (fun T=>?_)<;>try omega)<;>refine AT (AH rfl ?_))
 ·refine nX ?_;refine AN (AT (AS rfl (AT (AS rfl (AT (AH rfl ?_))))));refine nX ?_;exact tT
 refine nY ?_;(refine AN ?_<;>(refine Cb rfl rfl (fun T=>?_) (fun T=>?_)<;>try omega)<;>refine AT (AH rfl ?_))
 ·refine go ?_;exact sR
 refine nY ?_;(refine AN ?_<;>(refine Cb rfl rfl (fun T=>?_) (fun T=>?_)<;>try omega)<;>refine AT (AH rfl ?_))
 ·refine nX ?_;refine AN (AT (AS rfl (AT (AS rfl (AT (AH rfl ?_))))));refine nX ?_;exact sR
 refine nY ?_;(refine AN ?_<;>(refine Cb rfl rfl (fun T=>?_) (fun T=>?_)<;>try omega)<;>refine AT (AH rfl ?_))
 ·refine go ?_;exact sR
 refine nY ?_;(refine AN ?_<;>(refine Cb rfl rfl (fun T=>?_) (fun T=>?_)<;>try omega)<;>refine AT (AH rfl ?_))
 ·refine nX ?_;refine AN (AT (AS rfl (AT (AS rfl (AT (AH rfl ?_))))));refine nX ?_;exact sR
 refine nY ?_;(refine AN ?_<;>(refine Cb rfl rfl (fun T=>?_) (fun T=>?_)<;>try omega)<;>refine AT (AH rfl ?_))
 ·refine go ?_;exact sR
 refine nY ?_;(refine AN ?_<;>(refine Cb rfl rfl (fun T=>?_) (fun T=>?_)<;>try omega)<;>refine AT (AH rfl ?_))
 ·refine nX ?_;refine AN (AT (AS rfl (AT (AS rfl (AT (AH rfl ?_))))));refine nX ?_;exact sR
 refine nY ?_;(refine AN ?_<;>(refine Cb rfl rfl (fun T=>?_) (fun T=>?_)<;>try omega)<;>refine AT (AH rfl ?_))
 ·refine go ?_;exact sR
 refine nY ?_;(refine AN ?_<;>(refine Cb rfl rfl (fun T=>?_) (fun T=>?_)<;>try omega)<;>refine AT (AH rfl ?_))
 ·refine nX ?_;refine AN (AT (AS rfl (AT (AS rfl (AT (AH rfl ?_))))));refine nX ?_;exact sR
 refine nY ?_;(refine AN ?_<;>(refine Cb rfl rfl (fun T=>?_) (fun T=>?_)<;>try omega)<;>refine AT (AH rfl ?_))
 ·refine go ?_;exact sR
 refine nY ?_;(refine AN ?_<;>(refine Cb rfl rfl (fun T=>?_) (fun T=>?_)<;>try omega)<;>refine AT (AH rfl ?_))
 ·refine nX ?_;refine AN (AT (AS rfl (AT (AS rfl (AT (AH rfl ?_))))));refine nX ?_;exact su
 refine nY ?_;(refine AN ?_<;>(refine Cb rfl rfl (fun T=>?_) (fun T=>?_)<;>try omega)<;>refine AT (AH rfl ?_))
 ·refine go ?_;exact su
 refine nY ?_;(refine AN ?_<;>(refine Cb rfl rfl (fun T=>?_) (fun T=>?_)<;>try omega)<;>refine AT (AH rfl ?_))
 ·refine nX ?_;refine AN (AT (AS rfl (AT (AS rfl (AT (AH rfl ?_))))));refine nX ?_;exact su
 refine nY ?_;(refine AN ?_<;>(refine Cb rfl rfl (fun T=>?_) (fun T=>?_)<;>try omega)<;>refine AT (AH rfl ?_))
 ·refine go ?_;exact su
 refine nY ?_;(refine AN ?_<;>(refine Cb rfl rfl (fun T=>?_) (fun T=>?_)<;>try omega)<;>refine AT (AH rfl ?_))
 ·refine nX ?_;refine AN (AT (AS rfl (AT (AS rfl (AT (AH rfl ?_))))));refine nX ?_;exact su
 refine nY ?_;(refine AN ?_<;>(refine Cb rfl rfl (fun T=>?_) (fun T=>?_)<;>try omega)<;>refine AT (AH rfl ?_))
 ·refine go ?_;exact uV
 refine nY ?_;(refine AN ?_<;>(refine Cb rfl rfl (fun T=>?_) (fun T=>?_)<;>try omega)<;>refine AT (AH rfl ?_))
 ·refine nX ?_;refine AN (AT (AS rfl (AT (AS rfl (AT (AH rfl ?_))))));refine nX ?_;exact uV
 refine nY ?_;refine AN (AT (AS rfl (AT (AS rfl (AT (AH rfl ?_))))));refine nX ?_;exact Df rfl ⟨0,0,false,rfl,rfl,fun h=>by cases h⟩
def jT(w:World):Fn Zp 328 [] w fun v w'=>Sl AL w' v keysL.length (keysL.map AA)/\Ext w w':=by
 refine AM func328 rfl ntmps328 (go ?_);exact tY
def jf(s:LU)(w:World):Fn Zp 309 [AA s] w fun v w'=>∃b:Bool,v=.bool b/\Ext w w'/\(b=true->BP s=true):=by
 refine AM func309 rfl ntmps309 (go ?_);by_cases h1:s.length<1
 ·exact tC
 by_cases a0:12<s.length
 ·exact tC
 obtain⟨g,p⟩:∃c,s[0]?=some c:=⟨_,AU U⟩;have N:=g.toNat_lt;by_cases ha:g.toNat<97
 ·exact tC
 by_cases hb:122<g.toNat
 ·exact tC
 refine go ?_;refine Aj (α:=Nat) (fun k=>[(0,AA s),(3,iV (k:Int))]) (fun k W=>k<=s.length/\(∀(i:Nat)(c:UInt8),i<k->s[i]?=some c->(Bp c||(Ag c||decide (c.toNat=95)))=true)/\W=w) (fun k=>s.length-k) 0 ag ⟨by omega,fun i c F=>absurd F U,rfl⟩ ?_;rintro k L D⟨P,f,rfl⟩;refine go ?_;by_cases z:k<s.length
 ·have I:s[k]?=some s[k]:=AU z;generalize s[k]=c at I;have K:=c.toNat_lt;refine go ?_;by_cases X:97<=c.toNat/\c.toNat<=122
  ·refine go ?_;refine⟨k+1,⟨rfl,⟨rfl,rj,trivial⟩,⟨by omega,fun i d F x=>?_,rfl⟩⟩,by omega⟩;by_cases t:i=k
   ·subst t;rw[I]at x;cases x;simp[Bp,Ag];omega
   ·exact f i d U x
  by_cases R:48<=c.toNat/\c.toNat<=57
  ·refine go ?_;refine⟨k+1,⟨rfl,⟨rfl,rj,trivial⟩,⟨by omega,fun i d F x=>?_,rfl⟩⟩,by omega⟩;by_cases t:i=k
   ·subst t;rw[I]at x;cases x;simp[Bp,Ag];omega
   ·exact f i d U x
  by_cases S:c.toNat=95
  ·refine go ?_;refine⟨k+1,⟨rfl,⟨rfl,rj,trivial⟩,⟨by omega,fun i d F x=>?_,rfl⟩⟩,by omega⟩;by_cases t:i=k
   ·subst t;rw[I]at x;cases x;simp[Bp,Ag];omega
   ·exact f i d U x
  by_cases V:c.toNat<48
  ·exact tC
  by_cases Z:122<c.toNat
  ·exact tC
  by_cases B:c.toNat<97
  ·exact tC
  ·exact absurd ⟨by omega,by omega⟩ X
 ·obtain rfl:k=s.length:=by omega
  refine go ?_
  have A:Hl s=true:=(L6 s U).2 fun i c T=>by
   by_cases u:i=0
   ·subst u;rw[p]at T;cases T;simp[EZ,Bp];omega
   ·have:=f i c (Ah.1 T).1 T;simp only[EZ,BE (show 0<i by omega),HE];exact this
  refine gC (jT L) ?_;rintro v Q⟨n,m⟩;obtain⟨C,E,rfl,a1,a2,_,q⟩:=id n;refine go ?_;refine Aj (α:=Nat) (fun k=>[(0,AA s),(4,.slice C keysL.length E),(5,iV (k:Int))]) (fun k W=>k<=keysL.length/\s∉keysL.take k/\W=Q) (fun k=>keysL.length-k) 0 ag ⟨by omega,by simp,rfl⟩ ?_;rintro k G a⟨P,H,rfl⟩;refine nX ?_;have a3:keysL.length<=1000:=by decide
  by_cases z:k<keysL.length
  ·obtain⟨b,o,rfl,_,r⟩:=q.resolve_left U;obtain⟨y,l⟩:∃y,keysL[k]?=some y:=⟨_,AU z⟩;have a4:G.cell? ⟨b,o+k,none⟩=some (AA y):=r k _ (by simp[l]);have M:keysL.take (k+1)=keysL.take k++[y]:=by rw[CT,l];rfl
   generalize keysL.length=nn at*
   refine AN (AS rfl (BY rfl (Cj rfl (FX rfl rfl U ?_))));refine nX ?_;by_cases j:y=s
   ·(refine AN (BY rfl (AS rfl (HS rfl rfl rfl U (AQ rfl rG ?_))))<;>refine BL rfl ?_<;>refine CZ rfl rfl (fun T=>?_) (fun T=>?_)<;>refine AB ?_)
    case refine_2=>exact absurd j rG
    refine nX ?_;refine AN (AT (AH rfl ?_));refine nX ?_;exact AC rfl ⟨false,rfl,m,fun h=>by cases h⟩
   ·(refine AN (BY rfl (AS rfl (HS rfl rfl rfl U (AQ rfl rG ?_))))<;>refine BL rfl ?_<;>refine CZ rfl rfl (fun T=>?_) (fun T=>?_)<;>refine AB ?_)
    case refine_1=>exact absurd rG j
    refine go ?_;refine⟨k+1,⟨rfl,⟨rfl,rfl,?_,trivial⟩,⟨by omega,by rw[M];simp[H];exact fun e=>j e.symm,rfl⟩⟩,by omega⟩;show iV ((k:Int)+1)=_;rw[BB];rfl
  ·have e:k=keysL.length:=by omega
   rw[e,Co]at H;generalize keysL.length=nn at*
   refine gR ?_;exact⟨true,rfl,m,fun _=>by rw[HO,A,BC H,BE (show 1<=s.length by omega),BE (show s.length<=12 by omega)];rfl⟩
def shQ(f:Fml):Prop:=CN f.op f.name f.val f.bound f.args.length=true
def ji(w:World)(v:Value)(f:Fml)(hf:FAt AL w v f):Fn Zp 234 [v] w fun u w'=>∃b:Bool,u=.bool b/\Ext w w'/\(b=true->shQ f):=by
 obtain⟨av,rfl,L,H,V⟩:=hf.form;obtain⟨a,c,rfl,n⟩:=id H;have a2:f.args.length<=9223372036854775807:=by obtain⟨h1,h2,_⟩:=n;omega
 obtain⟨M,l,j,k,e⟩:=f;simp only[Fml.op,Fml.name,Fml.val,Fml.bound,Fml.args,shQ]at*
 refine AM func234 rfl ntmps234 (go ?_);refine Ac (L:=fcC (.mk M l j k e) (.slice a e.length c)) rfl (fun Q D=>?_);have q:=D.D;have d:=D.E;have c0:CC Q w.heap.size (0+0) (iV M):=q.cell rfl;have c1:CC Q w.heap.size (0+1) (AA l):=q.cell rfl;have C:CC Q w.heap.size (0+2) (iV j):=q.cell rfl;have i:CC Q w.heap.size (0+3) (iV k):=q.cell rfl;have c4:CC Q w.heap.size (0+4) (.slice a e.length c):=q.cell rfl;refine gC (eK Q M) ?_;rintro _ Q⟨lo,F,ok,rfl,rfl,hq⟩;refine Mf rfl (H7 rfl rfl (H7 rfl rfl (H7 rfl rfl (AT (AS rfl (AT (AS rfl (AT (AH rfl ?_)))))))));refine nX ?_;clear q H V D n;cases ok with
 |false=>
  refine AN (AH rfl (IM rfl (AH rfl (AP rfl (AP rfl (AP rfl (AP rfl (AP rfl (BF rfl (AH rfl (AH rfl (AP rfl (AP rfl (AP rfl (AP rfl (AP rfl (AP rfl (AP rfl (AP rfl (AP rfl (BF rfl (AH rfl ?_))))))))))))))))))))));exact tL
 |true=>
 obtain⟨E,x,Z⟩:=hq rfl;by_cases a4:(e.length:Int)<lo
 ·(refine AN (AH rfl (IM rfl (AH rfl (AE rfl (AV rfl (AE rfl (AQ rfl rG ?_)))))))<;>refine AE rfl (Cj rfl (AE rfl (AS rfl (AE rfl (FX rfl rfl U (BJ rfl (AH rfl (AH rfl (AP rfl (AP rfl (AP rfl (AP rfl (AP rfl (AP rfl (AP rfl (AP rfl (AP rfl (BF rfl (AH rfl ?_))))))))))))))))))))
  exact tL
 by_cases a3:0<=F/\F<e.length
 ·(refine AN (AH rfl (IM rfl (AH rfl (AE rfl (AV rfl (AE rfl (AQ rfl rG ?_)))))))<;>refine AE rfl (Cj rfl (AE rfl (AS rfl (AE rfl (JQ rfl rfl U (BJ rfl (AH rfl (AH rfl (AE rfl (AS rfl (AE rfl (LB rfl rfl U (AE rfl (AH rfl (AE rfl (AV rfl (AE rfl (AQ rfl rG ?_))))))))))))))))))<;>refine AE rfl (Cj rfl (AE rfl (AS rfl (AE rfl (Ms rfl rfl U (AE rfl (BF rfl (AH rfl (BJ rfl (AH rfl ?_)))))))))))
  exact tL
 have t:=Z e.length U (fun h=>by omega);refine CE (α:=Unit) (fun _=>[(1,pt w.heap.size),(34,.bool false)]) (fun _ W=>Q=W) ?_ ?_
 ·by_cases hh:0<=F
  ·exact sh
  ·exact sh
 rintro _ _ f3 rfl;refine nY ?_;by_cases R:M=3
 ·subst R;(refine AN (AV rfl (AQ rfl rG ?_))<;>refine IH rfl rfl U ?_)
  refine nX ?_;refine AN (AV rfl (AQ rfl rG ?_));refine AD (jf l Q) rfl ?_;rintro _ w2⟨b,rfl,z,S⟩;have s:=d.Q z;replace C:=z.cell C O;replace i:=z.cell i O;cases b with
  |false=>
   refine AH rfl (AP rfl (AP rfl (AP rfl (BJ rfl (AH rfl (AH rfl (AP rfl (AP rfl (AP rfl (BJ rfl (AH rfl (AH rfl (AP rfl (AP rfl (AP rfl (BJ rfl (AH rfl (AT (AH rfl ?_)))))))))))))))))));exact th
  |true=>
  by_cases X:0<=j
  case neg=>
   (refine AH rfl (AE rfl (AV rfl (AE rfl (AQ rfl rG ?_))))<;>refine AE rfl (YF rfl rfl U (BF rfl (AH rfl (AH rfl (AP rfl (AP rfl (AP rfl (BJ rfl (AH rfl (AH rfl (AP rfl (AP rfl (AP rfl (BJ rfl (AH rfl (AT (AH rfl ?_))))))))))))))))))
   exact th
  by_cases P:j<=3
  case neg=>
   (refine AH rfl (AE rfl (AV rfl (AE rfl (AQ rfl rG ?_))))<;>refine AE rfl (LB rfl rfl U (BF rfl (AH rfl (AH rfl (AE rfl (AV rfl (AE rfl (AQ rfl rG ?_))))))))<;>refine AE rfl (KD rfl rfl U (BF rfl (AH rfl (AH rfl (AP rfl (AP rfl (AP rfl (BJ rfl (AH rfl (AT (AH rfl ?_))))))))))))
   exact th
  by_cases o:k=0
  ·(refine AH rfl (AE rfl (AV rfl (AE rfl (AQ rfl rG ?_))))<;>refine AE rfl (LB rfl rfl U (BF rfl (AH rfl (AH rfl (AE rfl (AV rfl (AE rfl (AQ rfl rG ?_))))))))<;>refine AE rfl (Is rfl rfl U (BF rfl (AH rfl (AH rfl (AE rfl (AV rfl (AE rfl (AQ rfl rG ?_))))))))<;>refine AE rfl (IH rfl rfl U (BF rfl (AH rfl (AT (AH rfl ?_))))))
   refine nX ?_;refine AC rfl ⟨true,rfl,s,fun _=>?_⟩;simp[CN,t,S rfl,X,P,o]
  ·(refine AH rfl (AE rfl (AV rfl (AE rfl (AQ rfl rG ?_))))<;>refine AE rfl (LB rfl rfl U (BF rfl (AH rfl (AH rfl (AE rfl (AV rfl (AE rfl (AQ rfl rG ?_))))))))<;>refine AE rfl (Is rfl rfl U (BF rfl (AH rfl (AH rfl (AE rfl (AV rfl (AE rfl (AQ rfl rG ?_))))))))<;>refine AE rfl (K9 rfl rfl U (BF rfl (AH rfl (AT (AH rfl ?_))))))
   exact th
 (refine AN (AV rfl (AQ rfl rG ?_))<;>refine K9 rfl rfl U ?_)
 refine nY ?_;refine CE (α:=Bool) (fun b=>[(1,pt w.heap.size),(6,.bool b)]) (fun b W=>Q=W/\(b=true↔M=13\/M=14)) ?_ ?_
 ·by_cases X:M=13
  ·refine go ?_;exact Af true ag ⟨rfl,by simp[X]⟩
  ·by_cases P:M=14
   ·refine go ?_;exact Af true ag ⟨rfl,by simp[P]⟩
   ·refine go ?_;exact Af false ag ⟨rfl,by simp[X,P]⟩
 rintro m _ f4⟨rfl,p⟩;refine nX ?_;refine CE (α:=Bool) (fun b=>[(1,pt w.heap.size),(6,.bool m),(7,.bool b)]) (fun b W=>Q=W/\(b=true↔M=15\/M=16\/M=17)) ?_ ?_
 ·by_cases X:M=15
  ·refine go ?_;exact Af true ag ⟨rfl,by simp[X]⟩
  ·by_cases P:M=16
   ·refine go ?_;exact Af true ag ⟨rfl,by simp[P]⟩
   ·by_cases o:M=17
    ·refine go ?_;exact Af true ag ⟨rfl,by simp[o]⟩
    ·refine go ?_;exact Af false ag ⟨rfl,by simp[X,P,o]⟩
 rintro r _ f5⟨rfl,A⟩;refine go ?_;by_cases g:l=[]
 case neg=>
  refine go ?_;refine CZ rfl rfl (fun T=>absurd T g) (fun T=>?_);exact sf
 by_cases X:0<=j
 case neg=>
  exact sP
 by_cases P:j<=1
 case neg=>
  exact sP
 by_cases o:r=true\/j=0
 case neg=>
  have K:r=false:=by cases r<;>simp_all
  subst K;have B:j≠0:=fun h=>o (.inr h);exact sP
 by_cases y:0<=k
 case neg=>
  cases r with
  |true=>
   exact sP
  |false=>
   have B:j=0:=by simpa using o
   exact sP
 by_cases g5:k<=9
 case neg=>
  cases r with
  |true=>
   exact sP
  |false=>
   have B:j=0:=by simpa using o
   exact sP
 by_cases G:m=true\/k=0
 case neg=>
  have I:m=false:=by cases m<;>simp_all
  subst I;have N:k≠0:=fun h=>G (.inr h);cases r with
  |true=>
   exact sP
  |false=>
   have B:j=0:=by simpa using o
   exact sP
 cases m with
 |true=>
  have a0:=p.1 rfl;cases r with
  |true=>exfalso;have:=A.1 rfl;omega
  |false=>
   have B:j=0:=by simpa using o
   refine go ?_;refine CZ rfl rfl (fun T=>?_) (fun T=>absurd g T);refine go ?_;refine AC rfl ⟨true,rfl,d,fun _=>?_⟩;simp only[CN,t,g,AG R,AZ,BD,Ql];refine⟨⟨⟨⟨⟨⟨⟨E,x⟩,trivial⟩,X⟩,?_⟩,y⟩,?_⟩,trivial⟩
   ·split<;>omega
   ·split<;>omega
 |false=>
  have N:k=0:=by simpa using G
  cases r with
  |true=>
   have a1:=A.1 rfl;refine go ?_;refine CZ rfl rfl (fun T=>?_) (fun T=>absurd g T);refine go ?_;refine AC rfl ⟨true,rfl,d,fun _=>?_⟩;simp only[CN,t,g,AG R,AZ,BD,Ql];refine⟨⟨⟨⟨⟨⟨⟨E,x⟩,trivial⟩,X⟩,?_⟩,y⟩,?_⟩,trivial⟩
   ·split<;>omega
   ·split<;>omega
  |false=>
   have B:j=0:=by simpa using o
   refine go ?_;refine CZ rfl rfl (fun T=>?_) (fun T=>absurd g T);refine go ?_;refine AC rfl ⟨true,rfl,d,fun _=>?_⟩;simp only[CN,t,g,AG R,AZ,BD,Ql];refine⟨⟨⟨⟨⟨⟨⟨E,x⟩,trivial⟩,X⟩,?_⟩,y⟩,?_⟩,trivial⟩
   ·split<;>omega
   ·split<;>omega
def Ut:∀(N:Nat)(f:Fml),szF f<=N->∀(w:World)(v:Value),FAt AL w v f->Fn Zp 178 [v] w fun u w'=>∃b:Bool,u=.bool b/\Ext w w'/\(b=true->BU shQ f):=by
 intro N
 induction N with
 |zero=>intro f H;have:=Ey f;omega
 |succ N ih=>
 intro f H w v A;obtain⟨X,rfl,L,o,q⟩:=A.form;obtain⟨a,c,rfl,n⟩:=id o;have a1:f.args.length<=9223372036854775807:=by obtain⟨h1,h2,_⟩:=n;omega
 clear n;have a2:=Bn f;refine AM func178 rfl ntmps178 (go ?_);refine Ac (L:=fcC f (.slice a f.args.length c)) rfl (fun Q D=>?_);have G:=D.D;have d:=D.E;refine gC (ji Q _ f (A.ext d)) ?_;rintro _ T⟨b,rfl,E,V⟩;have l:=d.Q E;have r:=G.E E O;cases b with
 |false=>
  refine gR ?_;exact⟨false,rfl,l,fun h=>by cases h⟩
 |true=>
 refine go ?_;refine Aj (α:=Nat) (fun k=>[(1,pt w.heap.size),(3,iV (k:Int))]) (fun k W=>k<=f.args.length/\Ext T W/\∀(i:Nat)(y:Fml),i<k->f.args[i]?=some y->BU shQ y) (fun k=>f.args.length-k) 0 (by repeat (first|exact trivial|refine⟨rfl,?_⟩)) ⟨by omega,Ext.refl _,fun i y F=>absurd F U⟩ ?_;rintro k W fr⟨hk,K,s⟩;have g:=l.Q K;have c4:CC W w.heap.size (0+4) (.slice a f.args.length c):=K.cell (r.cell rfl) O;refine go ?_;by_cases j:k<f.args.length
 ·refine go ?_;obtain⟨x,m⟩:∃x,f.args[k]?=some x:=⟨_,AU j⟩;obtain⟨e,B⟩:∃e,L[k]?=some e:=⟨_,AU (by rw[q.1];exact j)⟩;obtain⟨Z,oa,rfl,a0,S⟩:=o.fml q.2.1 B j;have a3:=Ci (BA m);have P:FAt AL W (.agg e.toArray) x:=(q.2.2 k e x B m).ext g;have R:=S.E g O;refine go ?_;refine Al (L:=e) rfl (q.2.1 e (BA B)) R ?_;refine AD (ih x U W _ P) rfl ?_;rintro _ w4⟨b,rfl,C,V⟩;cases b with
  |true=>
   refine go ?_;refine⟨k+1,⟨rfl,⟨(by repeat (first|exact trivial|refine⟨rfl,?_⟩)),⟨by omega,K.Q C,fun i z F p=>?_⟩⟩⟩,by omega⟩;by_cases t:i=k
   ·subst t;rw[m]at p;cases p;exact V rfl
   ·exact s i z U p
  |false=>
   refine gR ?_;exact⟨false,rfl,g.Q C,fun h=>by cases h⟩
 ·refine go ?_
  have M:∀y∈f.args,BU shQ y:=fun y I=>by
   obtain⟨i,F⟩:=Cn I;exact s i y sG F
  exact AC rfl ⟨true,rfl,g,fun _=>allF_iff.2 ⟨V rfl,M⟩⟩
def E7(f:Fml):Prop:=FJ f.op=false
def RZ:∀(N:Nat)(f:Fml),szF f<=N->∀(w:World)(v:Value),FAt AL w v f->Fn Zp 231 [v] w fun u w'=>∃b:Bool,u=.bool b/\Ext w w'/\(b=true->BU E7 f):=by
 intro N
 induction N with
 |zero=>intro f E;have:=Ey f;omega
 |succ N ih=>
 intro f E w v H;obtain⟨Z,rfl,L,o,q⟩:=H.form;obtain⟨a,c,rfl,n⟩:=id o;have a2:f.args.length<=9223372036854775807:=by obtain⟨h1,h2,_⟩:=n;omega
 clear n;have a3:=Bn f;refine AM func231 rfl ntmps231 (go ?_);refine Ac (L:=fcC f (.slice a f.args.length c)) rfl (fun Q D=>?_);have j:=D.D;have d:=D.E;refine AT (AH rfl ?_);refine nX ?_;have c0:CC Q w.heap.size (0+0) (iV f.op):=j.cell rfl;by_cases M:8<=f.op/\f.op<=14
 ·obtain⟨M,a0⟩:=M;(refine AN (AV rfl (AQ rfl (Blk.cell rG rF) ?_))<;>refine LB rfl rfl U (AH rfl (AE rfl (AV rfl (AE rfl (AQ rfl (Blk.cell rG rF) ?_)))))<;>refine AE rfl (Is rfl rfl U (BF rfl (AH rfl ?_))))
  exact tL
 have A:E7 f:=by
  unfold E7 FJ;rw[NX,Ec,Ec];omega
 refine CE (α:=Unit) (fun _=>[(1,pt w.heap.size),(11,.bool false)]) (fun _ W=>Ext w W/\Blk W w.heap.size 37 (fcC f (.slice a f.args.length c))) ?_ ?_
 ·by_cases g8:8<=f.op
  ·refine go ?_;exact Af () ag ⟨d,j⟩
  ·refine go ?_;exact Af () ag ⟨d,j⟩
 rintro _ X f3⟨l,r⟩;refine go ?_;refine Aj (α:=Nat) (fun k=>[(1,pt w.heap.size),(3,iV (k:Int))]) (fun k W=>k<=f.args.length/\Ext X W/\∀(i:Nat)(y:Fml),i<k->f.args[i]?=some y->BU E7 y) (fun k=>f.args.length-k) 0 (by repeat (first|exact trivial|refine⟨rfl,?_⟩)) ⟨by omega,Ext.refl _,fun i y F=>absurd F U⟩ ?_;rintro k W fr⟨hk,K,s⟩;have g:=l.Q K;have c4:CC W w.heap.size (0+4) (.slice a f.args.length c):=K.cell (r.cell rfl) O;refine go ?_;by_cases m:k<f.args.length
 ·refine go ?_;obtain⟨x,V⟩:∃x,f.args[k]?=some x:=⟨_,AU m⟩;obtain⟨e,B⟩:∃e,L[k]?=some e:=⟨_,AU (by rw[q.1];exact m)⟩;obtain⟨ba,oa,rfl,a1,S⟩:=o.fml q.2.1 B m;have a4:=Ci (BA V);have P:FAt AL W (.agg e.toArray) x:=(q.2.2 k e x B V).ext g;have R:=S.E g O;refine go ?_;refine Al (L:=e) rfl (q.2.1 e (BA B)) R ?_;refine AD (ih x U W _ P) rfl ?_;rintro _ w4⟨b,rfl,C,T⟩;cases b with
  |true=>
   refine go ?_;refine⟨k+1,⟨rfl,⟨(by repeat (first|exact trivial|refine⟨rfl,?_⟩)),⟨by omega,K.Q C,fun i z F p=>?_⟩⟩⟩,by omega⟩;by_cases t:i=k
   ·subst t;rw[V]at p;cases p;exact T rfl
   ·exact s i z U p
  |false=>
   refine gR ?_;exact⟨false,rfl,g.Q C,fun h=>by cases h⟩
 ·refine go ?_
  have G:∀y∈f.args,BU E7 y:=fun y I=>by
   obtain⟨i,F⟩:=Cn I;exact s i y sG F
  exact AC rfl ⟨true,rfl,g,fun _=>allF_iff.2 ⟨A,G⟩⟩
def NA(f:Fml):Prop:=E0 f.op=true/\(f.op=4->Gq f=true)
def KL{op:Int}(h:(1<=op/\op<=6)\/(8<=op/\op<=10)\/(15<=op/\op<=17)):E0 op=true:=by
 simp only[E0,Fm,AZ,BD];omega
def ij:∀(N:Nat)(f:Fml),szF f<=N->∀(w:World)(v:Value),FAt AL w v f->BU shQ f->Fn Zp 179 [v] w fun u w'=>∃b:Bool,u=.bool b/\Ext w w'/\(b=true->BU NA f):=by
 intro N
 induction N with
 |zero=>intro f hN;have:=Ey f;omega
 |succ N ih=>
 intro f hN w v hf a9;obtain⟨a7,a8⟩:=allF_iff.1 a9;obtain⟨av,rfl,L,C,m⟩:=hf.form;obtain⟨a,c,rfl,n⟩:=id C;have b7:f.args.length<=9223372036854775807:=by obtain⟨Z,h2,_⟩:=n;omega
 clear n;have b8:=Bn f;refine AM func179 rfl ntmps179 (go ?_);refine Ac (L:=fcC f (.slice a f.args.length c)) rfl (fun w1 X=>?_);have q:=X.D;have d:=X.E;refine AT (AH rfl ?_);refine nX ?_;have c0:CC w1 w.heap.size (0+0) (iV f.op):=q.cell rfl;refine CE (α:=Bool) (fun b=>[(1,pt w.heap.size),(3,.bool b)]) (fun b W=>Ext w W/\Blk W w.heap.size 37 (fcC f (.slice a f.args.length c))/\(b=true->E0 f.op=true)) ?_ ?_
 ·by_cases g1:1<=f.op
  case neg=>
   refine go ?_;exact Af false ag ⟨d,q,fun h=>by cases h⟩
  by_cases g6:f.op<=6
  ·exact tM
  by_cases g8:f.op=8
  ·exact tM
  by_cases g9:f.op=9
  ·exact tM
  by_cases b3:f.op=10
  ·exact tM
  by_cases b4:f.op=15
  ·exact tM
  by_cases b5:f.op=16
  ·exact tM
  by_cases b6:f.op=17
  ·exact tM
  ·refine go ?_;exact Af false ag ⟨d,q,fun h=>by cases h⟩
 rintro b s f3⟨l,r,G⟩;have o:CC s w.heap.size (0+0) (iV f.op):=r.cell rfl;have a0:CC s w.heap.size (0+4) (.slice a f.args.length c):=r.cell rfl;refine nX ?_;cases b with
 |false=>
  refine AN (AH rfl (IM rfl (AH rfl (AP rfl (AP rfl (AP rfl (AP rfl (AP rfl (AP rfl (AP rfl (AP rfl (AP rfl (AP rfl (AP rfl (BF rfl (AH rfl ?_))))))))))))))));refine nX ?_;refine AN (AT (AH rfl ?_));refine nX ?_;exact AC rfl ⟨false,rfl,l,fun h=>by cases h⟩
 |true=>
 have M:f.op=4->∃x j D,f.args=[x]/\a=some ⟨j,D,none⟩/\CC s j (D+0*5+0) (iV x.op):=by
  intro A
  have E:f.args.length=1:=by
   have Z:=Fp a7;rw[A]at Z;simpa[Am]using Z
  obtain⟨x,V⟩:=FU E;have b0:f.args[0]?=some x:=by rw[V];rfl
  obtain⟨g,B⟩:∃g,L[0]?=some g:=⟨_,AU (by rw[m.1];omega)⟩;obtain⟨j,D,ha,a3,S⟩:=C.fml m.2.1 B U;obtain⟨xv,ex,_⟩:=(m.2.2 0 g x B b0).form
  have a1:g=fcC x xv:=by
   have:=congrArg (fun v=>match v with|Value.agg c=>c.toList|_=>[]) ex;have e:g=[iV x.op,AA x.name,iV x.val,iV x.bound,xv]:=by simpa using this
   exact e
  refine⟨x,j,D,V,ha,?_⟩;exact l.cell (S 0 _ (by rw[a1];rfl)) O
 by_cases Q:f.op=4/\Gq f=false
 ·obtain⟨A,H⟩:=Q;obtain⟨x,j,D,V,rfl,b2⟩:=M A
  have b1:x.op≠3:=by
   intro h;unfold Gq at H;rw[V]at H;simp[h]at H
  have E:f.args.length=1:=by rw[V];rfl
  (refine AN (AH rfl (IM rfl (AH rfl (AE rfl (AV rfl (AE rfl (AQ rfl (Blk.cell rG rF) ?_)))))))<;>refine AE rfl (IH rfl rfl U (AE rfl (AH rfl (AE rfl (AV rfl (AE rfl (AQ rfl (Blk.cell rG rF) ?_)))))))<;>refine AE rfl (Hb rfl rfl U U (AE rfl (AV rfl (AE rfl (AQ rfl rG ?_)))))<;>refine AE rfl (YH rfl rfl U (AE rfl (BF rfl (AH rfl (BJ rfl (AH rfl ?_)))))))
  refine nX ?_;refine AN (AT (AH rfl ?_));refine nX ?_;exact AC rfl ⟨false,rfl,l,fun h=>by cases h⟩
 refine CE (α:=Unit) (fun _=>[(1,pt w.heap.size),(57,.bool false)]) (fun _ W=>Ext w W/\Blk W w.heap.size 37 (fcC f (.slice a f.args.length c))/\NA f) ?_ ?_
 ·by_cases A:f.op=4
  ·have H:Gq f=true:=by
    cases H:Gq f with
    |true=>rfl
    |false=>exact absurd ⟨A,H⟩ Q
   obtain⟨x,j,D,V,rfl,b2⟩:=M A
   have b1:x.op=3:=by
    unfold Gq at H;rw[V]at H;simpa using H
   have E:f.args.length=1:=by rw[V];rfl
   refine go ?_;exact Af () ag ⟨l,r,G rfl,fun _=>H⟩
  ·refine go ?_;exact Af () ag ⟨l,r,G rfl,fun h=>absurd h A⟩
 clear o a0 r l G M;rintro _ s f3⟨l,r,P⟩;refine go ?_;refine Aj (α:=Nat) (fun k=>[(1,pt w.heap.size),(4,iV (k:Int))]) (fun k W=>k<=f.args.length/\Ext s W/\∀(i:Nat)(y:Fml),i<k->f.args[i]?=some y->BU NA y) (fun k=>f.args.length-k) 0 (by repeat (first|exact trivial|refine⟨rfl,?_⟩)) ⟨by omega,Ext.refl _,fun i y F=>absurd F U⟩ ?_;rintro k W fr⟨hk,K,R⟩;have t:=l.Q K;have c4:CC W w.heap.size (0+4) (.slice a f.args.length c):=K.cell (r.cell rfl) O;refine go ?_;by_cases I:k<f.args.length
 ·refine go ?_;obtain⟨x,V⟩:∃x,f.args[k]?=some x:=⟨_,AU I⟩;obtain⟨g,B⟩:∃g,L[k]?=some g:=⟨_,AU (by rw[m.1];exact I)⟩;obtain⟨j,D,rfl,a3,S⟩:=C.fml m.2.1 B I;have b9:=Ci (BA V);have a5:FAt AL W (.agg g.toArray) x:=(m.2.2 k g x B V).ext t;have a4:=S.E t O;refine go ?_;refine Al (L:=g) rfl (m.2.1 g (BA B)) a4 ?_;refine AD (ih x U W _ a5 (a8 x (BA V))) rfl ?_;rintro _ w4⟨b,rfl,T,P⟩;cases b with
  |true=>
   refine go ?_;refine⟨k+1,⟨rfl,⟨(by repeat (first|exact trivial|refine⟨rfl,?_⟩)),⟨by omega,K.Q T,fun i z F p=>?_⟩⟩⟩,by omega⟩;by_cases a6:i=k
   ·subst a6;rw[V]at p;cases p;exact P rfl
   ·exact R i z U p
  |false=>
   refine gR ?_;exact⟨false,rfl,t.Q T,fun h=>by cases h⟩
 ·refine go ?_
  have a2:∀y∈f.args,BU NA y:=fun y hy=>by
   obtain⟨i,F⟩:=Cn hy;exact R i y sG F
  exact AC rfl ⟨true,rfl,t,fun _=>allF_iff.2 ⟨P,a2⟩⟩
def Jg(f:Fml):Prop:=CR f.op=true->∀a∈f.args,BU E7 a
def XZ:∀(N:Nat)(f:Fml),szF f<=N->∀(w:World)(v:Value),FAt AL w v f->Fn Zp 180 [v] w fun u w'=>∃b:Bool,u=.bool b/\Ext w w'/\(b=true->BU Jg f):=by
 intro N
 induction N with
 |zero=>intro f P;have:=Ey f;omega
 |succ N ih=>
 intro f P w v X;obtain⟨av,rfl,L,r,q⟩:=X.form;obtain⟨a,c,rfl,n⟩:=id r;have a4:f.args.length<=9223372036854775807:=by obtain⟨h1,h2,_⟩:=n;omega
 clear n;have a6:=Bn f;refine AM func180 rfl ntmps180 (go ?_);refine Ac (L:=fcC f (.slice a f.args.length c)) rfl (fun w1 D=>?_);have M:=D.D;have k1:=D.E;refine go ?_;refine Aj (α:=Nat) (fun k=>[(1,pt w.heap.size),(3,iV (k:Int))]) (fun k W=>k<=f.args.length/\Ext w1 W/\∀(i:Nat)(y:Fml),i<k->f.args[i]?=some y->BU Jg y/\(CR f.op=true->BU E7 y)) (fun k=>f.args.length-k) 0 ag ⟨by omega,Ext.refl _,fun i y F=>absurd F U⟩ ?_;rintro k W fr⟨hk,K,j⟩;have g:=k1.Q K;have o:=M.E K O;have s:CC W w.heap.size (0+4) (.slice a f.args.length c):=o.cell rfl;refine go ?_;by_cases l:k<f.args.length
 ·refine go ?_;obtain⟨x,V⟩:∃x,f.args[k]?=some x:=⟨_,AU l⟩;obtain⟨d,B⟩:∃d,L[k]?=some d:=⟨_,AU (by rw[q.1];exact l)⟩;obtain⟨ba,oa,rfl,a3,Q⟩:=r.fml q.2.1 B l;have a7:=Ci (BA V);have S:FAt AL W (.agg d.toArray) x:=(q.2.2 k d x B V).ext g;have R:=Q.E g O;refine go ?_;refine Al (L:=d) rfl (q.2.1 d (BA B)) R ?_;refine AD (ih x U W _ S) rfl ?_;rintro _ I⟨b,rfl,e,m⟩;have a1:CC I w.heap.size (0+0) (iV f.op):=(o.E e O).cell rfl;have a2:=e.cell s O;have T:=R.E e O;cases b with
  |false=>
   refine gR ?_;exact⟨false,rfl,g.Q e,fun h=>by cases h⟩
  |true=>
  by_cases C:15<=f.op/\f.op<=19
  ·obtain⟨Z,a5⟩:=C;refine go ?_;refine Al (L:=d) rfl (q.2.1 d (BA B)) T ?_;refine gC (RZ _ x (AO _) I _ (S.ext e)) ?_;rintro _ w6⟨b,rfl,k6,a0⟩;have H:=e.Q k6;cases b with
   |false=>
    refine gR ?_;exact⟨false,rfl,g.Q H,fun h=>by cases h⟩
   |true=>
    refine go ?_;refine⟨k+1,⟨rfl,⟨rfl,rj,trivial⟩,⟨by omega,K.Q H,fun i z F p=>?_⟩⟩,by omega⟩;by_cases t:i=k
    ·subst t;rw[V]at p;cases p;exact⟨m rfl,fun _=>a0 rfl⟩
    ·exact j i z U p
  have E:CR f.op=false:=by
   unfold CR;rw[NX,Ec,Ec];omega
  by_cases Z:15<=f.op
  ·refine go ?_;refine⟨k+1,⟨rfl,⟨rfl,rj,trivial⟩,⟨by omega,K.Q e,fun i z F p=>?_⟩⟩,by omega⟩;by_cases t:i=k
   ·subst t;rw[V]at p;cases p;exact⟨m rfl,fun h=>absurd (E.symm.Q h) CX⟩
   ·exact j i z U p
  ·refine go ?_;refine⟨k+1,⟨rfl,⟨rfl,rj,trivial⟩,⟨by omega,K.Q e,fun i z F p=>?_⟩⟩,by omega⟩;by_cases t:i=k
   ·subst t;rw[V]at p;cases p;exact⟨m rfl,fun h=>absurd (E.symm.Q h) CX⟩
   ·exact j i z U p
 ·refine go ?_
  have A:∀y∈f.args,BU Jg y/\(CR f.op=true->BU E7 y):=fun y hy=>by
   obtain⟨i,F⟩:=Cn hy;exact j i y sG F
  exact AC rfl ⟨true,rfl,g,fun _=>allF_iff.2 ⟨fun h a G=>(A a G).2 h,fun a G=>(A a G).1⟩⟩
def Ve:∀(l:LF)(x:Fml),dpL (l++[x])=max (dpL l) (dpF x)
 | [],x=>by simp[dpL]
 |a::l,x=>by rw[Ee,dpL,Ve l x,dpL];omega
def Uc:∀(N:Nat)(f:Fml),szF f<=N->N<=1000->∀(w:World)(v:Value),FAt AL w v f->Fn Zp 177 [v] w fun u w'=>u=iV (dpF f:Int)/\Ext w w':=by
 intro N
 induction N with
 |zero=>intro f m;have:=Ey f;omega
 |succ N ih=>
 intro f m h w v o;have g:=Pf f;obtain⟨C,rfl,L,i,q⟩:=o.form;obtain⟨a,c,rfl,n⟩:=id i;have H:f.args.length<=9223372036854775807:=by obtain⟨Z,F,_⟩:=n;omega
 clear n;have I:=Bn f;refine AM func177 rfl ntmps177 (go ?_);refine Ac (L:=fcC f (.slice a f.args.length c)) rfl (fun Q D=>?_);have l:=D.D;have d:=D.E;refine go ?_;refine Aj (α:=Nat) (fun k=>[(1,pt w.heap.size),(3,iV (dpL (f.args.take k):Int)),(4,iV (k:Int))]) (fun k W=>k<=f.args.length/\Ext Q W) (fun k=>f.args.length-k) 0 ag ⟨by omega,Ext.refl _⟩ ?_;rintro k W E⟨P,K⟩;have y:=d.Q K;have p:=l.E K O;have s:CC W w.heap.size (0+4) (.slice a f.args.length c):=p.cell rfl;refine go ?_;by_cases z:k<f.args.length
 ·refine go ?_;obtain⟨x,V⟩:∃x,f.args[k]?=some x:=⟨_,AU z⟩;obtain⟨j,B⟩:∃j,L[k]?=some j:=⟨_,AU (by rw[q.1];exact z)⟩;obtain⟨r,T,rfl,G,S⟩:=i.fml q.2.1 B z;have M:=Ci (BA V);have A:FAt AL W (.agg j.toArray) x:=(q.2.2 k j x B V).ext y;have R:=S.E y O;refine go ?_;refine Al (L:=j) rfl (q.2.1 j (BA B)) R ?_;refine AD (ih x U U W _ A) rfl ?_;rintro _ t⟨rfl,b⟩;refine IL rfl rfl ?_;refine AT (AS rfl ?_);refine nX ?_;(refine AN (AS rfl (Fz rfl rfl rQ ?_))<;>refine AT (AS rfl ?_))
  refine nX ?_;refine⟨k+1,⟨rfl,⟨rfl,?_,?_,trivial⟩,⟨by omega,K.Q b⟩⟩,by omega⟩
  ·refine congrArg (Value.int .i64) ?_;rw[CT,V,VM,Ve];omega
  ·show iV ((k:Int)+1)=_;rw[BB];rfl
 ·obtain e:k=f.args.length:=by omega
  rw[e,Co];rw[Cr]at g⊢;refine gR ?_;exact⟨by rw[BB];rfl,y⟩
def looQ(f:Fml):Prop:=szF f<=400/\dpF f<=60/\BU shQ f/\BU NA f/\BU Jg f
def fY(w:World)(v:Value)(f:Fml)(K:FAt AL w v f):Fn Zp 118 [v] w fun u w'=>∃b:Bool,u=.bool b/\Ext w w'/\(b=true->looQ f):=by
 obtain⟨R,rfl,L,i,M⟩:=K.form;obtain⟨a,c,rfl,o⟩:=id i;have P:f.args.length<=9223372036854775807:=by obtain⟨Z,W,_⟩:=o;omega
 clear o;have C:=Bn f;refine AM func118 rfl ntmps118 (go ?_);refine Ac (L:=fcC f (.slice a f.args.length c)) rfl (fun Q D=>?_);have y:=D.D;have d:=D.E;refine go ?_;clear C;refine gC (OL Q _ f 400 U (K.ext d)) ?_;rintro _ G⟨rfl,m⟩;have k:=d.Q m;have z:=y.E m O;by_cases j:szF f<=400
 case neg=>
  rw[BC j];refine gR ?_;exact⟨false,rfl,k,fun h=>by cases h⟩
 rw[BE j];refine go ?_;refine gC (Uc 400 f j U G _ (K.ext k)) ?_;rintro _ H⟨rfl,g⟩;have N:=k.Q g;have A:=z.E g O;have e:=Pf f;by_cases B:dpF f<=60
 case neg=>
  exact uh
 refine go ?_;refine gC (Ut _ f (AO _) H _ (K.ext N)) ?_;rintro _ t⟨b,rfl,s,E⟩;have n:=N.Q s;have p:=A.E s O;cases b with
 |false=>
  refine gR ?_;exact⟨false,rfl,n,fun h=>by cases h⟩
 |true=>
 refine go ?_;refine gC (ij _ f (AO _) t _ (K.ext n) (E rfl)) ?_;rintro _ I⟨b,rfl,x,F⟩;have l:=n.Q x;have r:=p.E x O;cases b with
 |false=>
  refine gR ?_;exact⟨false,rfl,l,fun h=>by cases h⟩
 |true=>
 refine go ?_;refine gC (XZ _ f (AO _) I _ (K.ext l)) ?_;rintro _ T⟨b,rfl,q,S⟩;cases b with
 |false=>
  refine gR ?_;exact⟨false,rfl,l.Q q,fun h=>by cases h⟩
 |true=>
  refine gR ?_;exact⟨true,rfl,l.Q q,fun _=>⟨j,B,E rfl,F rfl,S rfl⟩⟩

def lh{f:Fml}{i:Bool}(h:BQ i f=true):f.op≠0:=by
 obtain⟨op,l,v,b,a⟩:=f;obtain⟨Z,_⟩:=HI h;intro e;have e:op=0:=e;subst e;revert Z;decide
def li{f:Fml}(h:DP f=true):DV f=Ba f:=by unfold DV;rw[AJ h]
def SX(op:Int):dpF (En op)=1:=rfl
def mA{op:Int}(h:op=5\/op=6){n:Nat}{l:LF}(N:∀c∈l,dpF c<=n):dpF (GT op l)<=n+1:=by
 rw[In h];cases DL op l with
 |true=>simp only[DN];rw[SX];omega
 |false=>
  simp only[D6,Dh]
  have x:∀a∈Dl (l.flatMap (Fl op)),dpF a<=n:=fun a G=>by
   obtain⟨c,T,G⟩:=Ib.1 (mem_dist.1 G);have Z:=N c T;unfold Fl at G
   split at G
   ·have W:=Ds G;rw[Cr]at Z;omega
   ·split at G
    ·cases G
    ·simp at G;rw[G];exact Z
  generalize Dl (l.flatMap (Fl op))=d at x;rw[J1]
  split
  ·rw[SX];omega
  ·match d,x with
   | [],_=>rw[SX];omega
   | [a],x=>have:=x a O;show dpF a<=_;omega
   |a::c::d,x=>
    have:=dpL_le.2 x;show dpL (a::c::d)+1<=_;omega
def Vf:∀{f:Fml},Sh f->dpF (Ba f)<=dpF f
 | .mk op nm v b args,hf=>by
  obtain⟨_,⟨_,G,_⟩,R⟩:=sh_iff.1 hf;rw[Im]
  have N:∀c∈args.map Ba,dpF c<=dpL args:=fun c T=>by
   obtain⟨a,G,rfl⟩:=By.1 T;exact Az (Vf (R a G)) (Ds G)
  have p:dpF (.mk op nm v b args)=dpL args+1:=Cr _;rw[p];have G:Am op (args.map Ba).length=true:=by rw[Es];exact G
  generalize args.map Ba=l at N G
  have H:dpF (.mk op nm v 0 l)<=dpL args+1:=by
   have:=dpL_le.2 N;show dpL l+1<=_;omega
  have y:∀k,k<l.length->dpF (l.getD k Ad)<=dpL args+1:=fun k P=>by
   rw[Ce,AU P];have:=N _ (E9 P);simp only[Option.getD_some];omega
  by_cases d:op=5\/op=6
  ·unfold Dr;rw[AJ d];exact mA d N
  by_cases B:op=8
  ·subst B;have N:l.length=1:=by simpa[Am]using G
   rw[Kk];split
   ·exact y 0 U
   ·exact H
  by_cases e:op=9
  ·subst e;have N:l.length=2:=by simpa[Am]using G
   rw[Kl];split
   ·exact y 1 U
   ·exact H
  by_cases F:op=10
  ·subst F;have N:l.length=2:=by simpa[Am]using G
   rw[Kf];split
   ·exact y 1 U
   ·exact H
  rw[Km d B e F];exact H
def QQ{f:Fml}(h:DP f=true):DP (Ba f)=true:=by
 obtain⟨Z,W,R⟩:=H4 h;have E:=KA R;exact jd (Az (RP E) Z) (Az (Vf E) W) (QW R)
def jN{k:LU->Int->Bool}(b:Bool):isB k (LD b)=true:=by cases b<;>rfl
def Mv{k:LU->Int->Bool}{op:Int}(h:op≠3){l:LF}(N:∀a∈l,isB k a=true):isB k (opF op l)=true:=is_iff.2 ⟨fun e=>absurd e h,N⟩
def jO{k:LU->Int->Bool}:isB k Ad=true:=rfl
def Mk{k:LU->Int->Bool}{l:LF}(N:∀a∈l,isB k a=true)(i:Nat):isB k (l.getD i Ad)=true:=by
 rw[Ce];cases h:l[i]? with
 |none=>rfl
 |some a=>exact N a (BA h)
def YS{k:LU->Int->Bool}(x:Vl):∀{f:Fml},isB k f=true->isB k (DK x f)=true
 | .mk op nm v b args,hk=>by
  obtain⟨d,m⟩:=is_iff.1 hk;rw[Sf]
  split
  ·exact jN _
  ·have B:∀a∈args.map (DK x),isB k a=true:=fun a G=>by
    obtain⟨c,T,rfl⟩:=By.1 G;exact YS x (m c T)
   have y:∀a∈args.map (C4 x),isB k a=true:=fun a G=>by
    obtain⟨c,T,rfl⟩:=By.1 G;exact R3 x (m c T)
   have E:=R3 x hk;unfold Po
   split
   ·exact Mv U B
   split
   ·exact Mk y 0
   split
   ·refine Mv rI fun a G=>?_;simp only[BI,FA,FD]at G;rcases G with rfl|rfl
    ·exact Mk B 1
    ·refine Mv rI fun a G=>?_;simp only[BI,FA,FD]at G;rcases G with rfl|rfl
     ·exact Mk B 0
     ·exact E
   split
   ·refine Mv rI fun a G=>?_;simp only[BI,FA,FD]at G;rcases G with rfl|rfl
    ·exact Mk B 1
    ·refine Mv rI fun a G=>?_;simp only[BI,FA,FD]at G;rcases G with rfl|rfl
     ·exact Mk B 0
     ·exact E
   ·exact jO
def LkS(S:List Sgn)(f:Fml):Prop:=DP f=true/\isB (knS S) f=true
def lj{f:Fml}(h:(DV f).op≠0):DP f=true/\DV f=Ba f:=by
 unfold DV at h⊢;by_cases N:DP f=true
 ·exact⟨N,AJ N⟩
 ·rw[AG N]at h;exact absurd rfl h
def XG{S:List Sgn}{f:Fml}(h:(DV f).op≠0)(P:isB (knS S) f=true):LkS S (DV f)/\∀(s:Wd)(t:Nat),sem s (DV f) t↔sem s f t:=by
 obtain⟨Z,W⟩:=lj h;obtain⟨_,_,R⟩:=H4 Z;rw[W];exact⟨⟨QQ Z,Vu (KA R) P⟩,fun s t=>UZ s (KA R) t⟩
def lC{S:List Sgn}{f:Fml}{x:Int}(h:(FH S f x).op≠0){s:Wd}(E:s 0=vlS S x):LkS S (FH S f x)/\(sem (JZ s) (FH S f x) 0↔sem s f 0):=by
 unfold FH at h⊢;by_cases T:KK S f=true/\0<=x/\x<Ei S
 ·rw[AJ T]at h⊢;obtain⟨_,N,P⟩:=Tu T.1;obtain⟨Z,W⟩:=XG (S:=S) (f:=DK (vlS S x) f) h (YS _ P);refine⟨Z,(W _ _).Q ?_⟩;rw[<-E];exact Xm s f (H4 N).2.2
 ·rw[AG T]at h;exact absurd rfl h
def Wu:=@Classical.not_not
def XO(f:Fml)(neg:Bool)(d:Int){s:BS}(h:s.2=true):(fmB f neg d s).2.2=true:=by
 obtain⟨M,l,v,b,e⟩:=f;rw[PM,h];exact h
def RT:∀(t:Bool)(l:LF)(neg:Bool)(d:Int){s:BS},s.2=true->(fmL t l neg d s).2.2=true
 |_,[],_,_,_,h=>h
 |t,a::l,neg,d,s,h=>RT false l neg d (XO a _ d h)
def pm(neg:Bool)(p:Prop):Prop:=if neg=true then¬p else p
def rC(p q:Nat->Prop)(t:Nat):FK (fun i=>¬p i) (fun i=>¬q i) t↔¬EN p q t:=by
 rw[JO];have e:(fun i=>¬¬p i)=p:=by funext i;exact propext Wu
 have d:(fun i=>¬¬q i)=q:=by funext i;exact propext Wu
 rw[e,d]
def Yw{k:LU->Int->Bool}{op:Int}{neg:Bool}(f:op=13\/op=14){g:Int->BS->Fml×BS}(y:∀d s,isB k (g d s).1=true):∀(n:Nat)(d:Int)(s:BS),isB k (bdB op neg g n d s).1=true
 |0,d,s=>y d s
 |n+1,d,s=>by
  rw[bdB]
  split
  ·rfl
  split
  ·rfl
  split
  ·rfl
  have R:DJ neg (CU op)≠3:=by rcases f with rfl|rfl<;>cases neg<;>decide
  refine is_iff.2 ⟨fun e=>absurd e R,fun a G=>?_⟩;simp only[BI,FA,FD]at G;rcases G with rfl|rfl
  ·exact y _ _
  ·refine is_iff.2 ⟨fun e=>absurd e rI,fun a G=>?_⟩;simp only[BI,FA,FD]at G;rw[G];exact Yw f y n _ _
def fh{neg:Bool}{op:Int}(h:DJ neg (CU op)=3):op=3:=by
 unfold DJ KJ CU at h;repeat' split at h
 all_goals omega
mutual
def Sv{k:LU->Int->Bool}:∀(f:Fml)(neg:Bool)(d:Int)(s:BS),isB k f=true->isB k (fmB f neg d s).1=true
 | .mk op nm v b args,neg,d,s,hk=>by
  obtain⟨k1,k2⟩:=is_iff.1 hk;rw[PM]
  split
  ·rfl
  split
  ·exact YP args _ d s k2
  split
  ·rename_i h3
   split
   ·rfl
   split
   ·rfl
   refine is_iff.2 ⟨fun e=>absurd e rI,fun a ha=>?_⟩;simp only[BI,FA,FD]at ha;rw[ha];exact is_iff.2 ⟨fun _=>k1 h3.1,fun a ha=>by cases ha⟩
  split
  ·rename_i h13;exact Yw h13 (fun d s=>YP args neg d s k2) _ _ _
  split
  ·rfl
  refine is_iff.2 ⟨fun e=>?_,fun a ha=>?_⟩
  ·have h3:=fh e;subst h3;have:(lnF 3 v neg d (tkB s d)).1=v:=by simp[lnF,DI,Cd,Hw]
   rw[this];exact k1 rfl
  ·rcases DM.1 ha with ha|ha
   ·unfold lnF at ha
    split at ha
    ·unfold lnB at ha
     split at ha
     ·cases ha
     ·simp only[BI,FA,FD]at ha;rw[ha]
      split<;>rfl
    ·cases ha
   ·exact YQ _ args neg _ _ k2 a ha
def YP{k:LU->Int->Bool}:∀(l:LF)(neg:Bool)(d:Int)(s:BS),(∀a∈l,isB k a=true)->isB k (fm0 l neg d s).1=true
 | [],_,_,_,_=>rfl
 |a::_,neg,d,s,h=>Sv a neg d s (h a O)
def YQ{k:LU->Int->Bool}:∀(t:Bool)(l:LF)(neg:Bool)(d:Int)(s:BS),(∀a∈l,isB k a=true)->∀c∈(fmL t l neg d s).1,isB k c=true
 |_,[],_,_,_,_,c,hc=>by cases hc
 |t,a::l,neg,d,s,h,c,hc=>by
  rw[fmL]at hc;rcases BI.1 hc with rfl|hc
  ·exact Sv a _ d s (h a O)
  ·exact YQ false l neg d _ (fun a ha=>h a (by simp[ha])) c hc
end
def mY{k:LU->Int->Bool}{f:Fml}(h:isB k f=true):isB k (Fc f).1=true:=by
 unfold Fc
 split
 ·split
  ·rfl
  ·exact Sv f _ _ _ h
 ·rfl
abbrev InS(w:World)(v:Value)(xs:List Int):Prop:=Sl AL w v xs.length (xs.map (.int .i64))
def InS.at{w:World}{a:Option Addr}{n c k:Nat}{xs:List Int}{x:Int}(h:InS w (.slice a n c) xs)(P:xs[k]?=some x):∃b o,a=some ⟨b,o,none⟩/\CC w b (o+k) (iV x):=by
 obtain⟨Z,u,e,d,W,R,A⟩:=h;cases e;have z:=(Ah.1 P).1;obtain⟨b,o,rfl,_,T⟩:=A.resolve_left U;exact⟨b,o,rfl,T k _ (by rw[Cl,P];rfl)⟩
def InS.len{w:World}{a:Option Addr}{n c:Nat}{xs:List Int}(h:InS w (.slice a n c) xs):n=xs.length/\n<=9223372036854775807:=by
 obtain⟨Z,u,e,b,W,R,A⟩:=h;cases e;exact⟨rfl,by omega⟩
def LasG(w:World)(c:LV)(M I:List Int):Prop:=∃H a G N,c=[.slice H M.length a,.slice G I.length N]/\InS w (.slice H M.length a) M/\InS w (.slice G I.length N) I
def LasG.E{X:List Nat}{w w':World}{c:LV}{M I:List Int}(h:LasG w c M I)(k:Ext w w'):LasG w' c M I:=by
 obtain⟨H,a,G,N,e,Z,W⟩:=h;exact⟨H,a,G,N,e,Z.ext k,W.ext k⟩
def LasG.ext{w w':World}{c:LV}{M I:List Int}(h:LasG w c M I)(k:Ext w w'):LasG w' c M I:=h.E (X:=[]) k
def OB(w:World)(a:Option Addr)(c:Nat)(xs:List Int)(n:Int)(h:InS w (.slice a xs.length c) xs)(V:∀x∈xs,0<=x/\x<n):Fn Zp 125 [.slice a xs.length c,iV n] w fun u w'=>u=.bool true/\w'=w:=by
 obtain⟨_,N⟩:=h.len;refine AM func125 rfl ntmps125 (go ?_);refine Aj (α:=Nat) (fun k=>[(1,iV n),(7,.slice a xs.length c),(8,iV (xs.length:Int)),(9,iV (k:Int))]) (fun k W=>k<=xs.length/\W=w) (fun k=>xs.length-k) 0 ag ⟨by omega,rfl⟩ ?_;rintro k W Q⟨P,rfl⟩;refine go ?_;by_cases z:k<xs.length
 ·obtain⟨x,e⟩:=gl z;obtain⟨b,o,rfl,T⟩:=h.at e;have:=V x (BA e);refine go ?_;exact⟨k+1,⟨rfl,ag,by omega,rfl⟩,by omega⟩
 ·exact sd
def Nw(w:World)(c:LV)(M I:List Int)(h:LasG w c M I)(E:M.length<=60)(Z:1<=I.length)(W:I.length<=40)(V:∀x∈M,0<=x/\x<64)(b:∀x∈I,0<=x/\x<64):Fn Zp 65 [.agg c.toArray] w fun u w'=>u=.bool true/\Ext w w':=by
 obtain⟨H,a,G,N,rfl,d,f⟩:=h;refine AM func65 rfl ntmps65 (go ?_);refine Ac (L:=[.slice H M.length a,.slice G I.length N]) rfl (fun Q D=>?_);refine gC (OB Q H a M 64 (d.ext D.E) V) ?_;rintro _ _⟨rfl,rfl⟩;refine gC (OB _ G N I 64 (f.ext D.E) b) ?_;rintro _ _⟨rfl,rfl⟩;refine gR ?_;exact⟨rfl,D.E⟩
def fJ(w:World)(c:LV)(M I:List Int)(n:Int)(h:LasG w c M I)(E:M.length<=60)(Z:1<=I.length)(W:I.length<=40)(g:n<=64)(V:∀x∈M,0<=x/\x<n)(a:∀x∈I,0<=x/\x<n):Fn Zp 121 [iV n,.agg c.toArray] w fun u w'=>u=.bool true/\Ext w w':=by
 have v:=h;obtain⟨H,b,G,N,rfl,d,f⟩:=h;refine AM func121 rfl ntmps121 (go ?_);refine Ac (L:=[.slice H M.length b,.slice G I.length N]) rfl (fun Q D=>?_);refine gC (Nw Q _ M I (v.ext D.E) E Z W (fun x h=>by have:=V x h;omega) (fun x h=>by have:=a x h;omega)) ?_;rintro _ e⟨rfl,m⟩;refine gC (OB e H b M n (d.ext mKp) V) ?_;rintro _ _⟨rfl,rfl⟩;refine go ?_;refine AD (OB _ G N I n (f.ext mKp) a) rfl ?_;rintro _ _⟨rfl,rfl⟩;refine gR ?_;exact⟨rfl,mKp⟩
def jH(w:World)(c:LV)(M I:List Int)(i:Nat)(x:Int)(h:LasG w c M I)(a:(M++I)[i]?=some x)(E:M.length+I.length<=1000):Fn Zp 330 [.agg c.toArray,iV i] w fun u w'=>u=iV x/\Ext w w':=by
 obtain⟨H,G,k,N,rfl,j,f⟩:=h;refine AM func330 rfl ntmps330 (go ?_);refine Ac (L:=[.slice H M.length G,.slice k I.length N]) rfl (fun Q D=>?_);have d:=D.E;have q:=D.D;refine go ?_;by_cases z:i<M.length
 ·rw[D4 z]at a;obtain⟨b,o,rfl,T⟩:=InS.at (j.ext d) a;exact tR
 ·rw[EJ U]at a;obtain⟨b,o,rfl,T⟩:=InS.at (f.ext d) a;have n:=(Ah.1 a).1;refine go ?_;refine Ab (rd 0 14 .done) AX rD (fun X W l=>⟨Ext X,?_,?_⟩)
  ·exact sY
  have g:=d.Q W
  have r:((i:Int)-(M.length:Int))%(I.length:Int)=((i-M.length:Nat):Int):=by
   rw[<-Int.ofNat_sub U];exact Int.emod_eq_of_lt U U
  have F:∀V,Ext X V->CC V w.heap.size (0+1) (.slice (sn b o) I.length N):=fun V e=>(W.Q e).cell (q.cell rfl) O;have m:∀V,Ext X V->CC V w.heap.size (0+0) (.slice H M.length G):=fun V e=>(W.Q e).cell (q.cell rfl) O;have t:∀V,Ext X V->CC V b (o+(i-M.length)) (iV x):=fun V e=>(W.Q e).cell T O;refine gR ?_;exact⟨rfl,g⟩
def dF(w:World)(c:LV)(T:c.length=2)(Z:oneC c):Fn Zp 312 [.agg c.toArray] w fun u w'=>u=.func (.func 329) #[] #[pt w.heap.size,pt (w.heap.size+1)]/\Ext w w'/\Blk w' w.heap.size 47 c/\Blk w' (w.heap.size+1) 3 [iV 0]:=by
 refine AM func312 rfl ntmps312 (go ?_);refine Ac (L:=c) rfl (fun Q D=>go ?_);refine Ai (fun b R=>?_);refine AW (v:=iV 0) rfl rfl rfl R.D O (fun a i=>go ?_);have j:=D.size;have g:Ext Q a:=R.E.E i.E O;refine AC rfl ⟨?_,D.E.Q g,D.D.E g O,?_⟩
 ·rw[<-j];rfl
 ·rw[<-j];exact i.D
def atN(M n i:Nat):Nat:=if i+1=n then M else i+1
def jI(w:World)(a b:Nat)(c:LV)(M I:List Int)(i:Nat)(x:Int)(h:LasG w c M I)(V:(M++I)[i]?=some x)(o:M.length+I.length<=1000)(G:Blk w a 47 c)(S:Blk w b 3 [iV (i:Int)]):
  Fn Zp 329 [pt a,pt b] w fun u w'=>u=iV x/\Keep [b] w w'/\Blk w' b 3 [iV (atN M.length (M.length+I.length) i:Int)]:=by
 have k:=h;obtain⟨H,t,s,N,rfl,p,f⟩:=h;have l:a≠b:=fun e=>by subst e;have:=G.symm.Q S;simp at this
 have Z:=(Ah.1 V).1;rw[A9]at Z;refine AM func329 rfl ntmps329 ?_;refine gC (jH w _ M I i x k V o) ?_;rintro _ Q⟨rfl,d⟩;have r:=G.E d O;have n:=S.E d O;refine go ?_;refine AW (v:=iV ((i:Int)+1)) rfl rfl rfl n O (fun L E=>?_);have q:=r.E E.E (by simp[l]);have g:Blk L b 3 [iV ((i:Int)+1)]:=E.D;have m:Keep [b] w L:=d.any.Q E.E (fun x V _=>V);by_cases B:i+1=M.length+I.length
 ·refine go ?_;refine AW (v:=iV (M.length:Int)) rfl rfl rfl g O (fun y j=>go ?_);refine AC rfl ⟨rfl,m.Q j.E (fun x V _=>V),?_⟩;rw[atN,AJ B];exact j.D
 ·refine go ?_;refine AC rfl ⟨rfl,m,?_⟩;rw[atN,AG B];exact g
structure Y2(yv:Value)(X:List Nat)(B cn:Nat)(xs:List Int)(J:Nat->World->Prop)(D:World->Prop):Prop where
 fn:∃y,yv=.func (.yield y) #[] #[]
 E:∀{k:Nat}{W W':World}{Y:List Nat},J k W->Keep Y W W'->(∀y∈Y,y=cn)->J k W'
 s0:∀{k:Nat}{x:Int}{W:World},xs[k]?=some x->k+1<xs.length->J k W->cn<W.heap.size->YldP Zp yv [iV x] W (fun v W'=>v=.bool true/\(∃Y,Keep Y W W'/\∀y∈Y,y∈X\/cn<y)/\J (k+1) W') (fun _ _=>False)
 s1:∀{k:Nat}{x:Int}{W:World},xs[k]?=some x->k+1=xs.length->J k W->YldP Zp yv [iV x] W (fun v W'=>v=.bool false/\D W') (fun _ _=>False)
def Z5{t:Value}{X:List Nat}{e:Nat->World->Prop}{D:World->Prop}(w:World)(j:Nat)(c:LV)(M I:List Int)(H:Y2 t X w.heap.size (w.heap.size+1) (M++I) e D)(a0:Blk w j 47 c)(N:LasG w c M I)(b:∀W,Keep X w W->LasG W c M I)(E:M.length+I.length<=1000)(R:1<=M.length+I.length)
  (s:e 0 w)(T:∀x∈X,x<w.heap.size):Fn Zp 311 [t,pt j] w fun _ w'=>D w':=by
 obtain⟨y,rfl⟩:=H.fn;have a1:=N;obtain⟨C,F,G,A,rfl,a3,a2⟩:=N;refine AM func311 rfl ntmps311 ?_;refine gC (dF w _ rfl (Ak rfl)) ?_;rintro _ w1⟨rfl,d,r,u⟩;refine go ?_;refine Aj (α:=Nat) (fun k=>[(0,.func (.yield y) #[] #[]),(3,.func (.func 329) #[] #[pt w.heap.size,pt (w.heap.size+1)])]) (fun k W=>k<M.length+I.length/\Keep X w W/\Blk W w.heap.size 47 [.slice C M.length F,.slice G I.length A]/\Blk W (w.heap.size+1) 3 [iV (k:Int)]/\e k W) (fun k=>M.length+I.length-k) 0 ag ⟨by omega,d.any,r,u,H.E s d O⟩ ?_;rintro k W Q⟨P,K,a,Z,g⟩;refine go ?_;obtain⟨x,V⟩:=gl (l:=M++I) (k:=k) (by rw[A9];exact P);refine Bg (v1:=[]) (v2:=[pt w.heap.size,pt (w.heap.size+1)]) (vs:=[]) rfl (jI W _ _ _ M I k x (b W K) V E a Z) rfl ?_;rintro _ W1⟨rfl,i,f⟩;have o:=H.E g i O;have q:=a.E i O;have z:Keep X w W1:=K.Q i (fun x V h=>by simp at V;omega);by_cases B:k+1<M.length+I.length
 ·rw[atN,AG U]at f;refine Mh rfl rfl (H.s0 V (by rw[A9];exact B) o f.lt) ?_;rintro _ p⟨rfl,⟨L,m,S⟩,v⟩;refine go ?_;exact⟨k+1,⟨rfl,ag,⟨by omega,z.Q m (fun x V h=>(S x V).resolve_right U),q.E m (fun h=>by rcases S _ h with h|h;have:=T _ h;omega;omega),f.E m (fun h=>by rcases S _ h with h|h;have:=T _ h;omega;omega),v⟩⟩,by omega⟩
 ·refine Mh rfl rfl (H.s1 V (by rw[A9];omega) o) ?_;rintro _ p⟨rfl,n⟩;refine go ?_;exact Bt rfl n
def aj(w:World)(c:LV)(T:c.length=2)(Z:oneC c):Fn Zp 236 [.agg c.toArray] w fun v w'=>v=.func (.func 311) #[] #[pt w.heap.size]/\New w w' 47 c:=by
 refine AM func236 rfl ntmps236 (go ?_);refine Ac (L:=c) rfl (fun Q D=>?_);refine gR ?_;exact⟨rfl,D⟩
set_option maxHeartbeats 1000000 in
def dD(w:World)(c:LV)(M I:List Int)(N:Int)(h:LasG w c M I)(hs:M.length<=60)(h1:1<=I.length)(h2:I.length<=40)(V:∀x∈M,0<=x/\x<64)(q:∀x∈I,0<=x/\x<64)(hN:N=((M.length+I.length:Nat):Int)):
  Fn Zp 184 [.agg c.toArray,iV N] w fun u w'=>w'.ownsRow w.heap.size 3 1 u (M.length+I.length) ((M++I).map (.int .i64))/\Ext w w':=by
 subst hN;have h0:=h;have a1:c.length=2/\oneC c:=by obtain⟨sa,sc,la,lc,rfl,_,_⟩:=h;exact⟨rfl,Ak rfl⟩
 obtain⟨n,hn⟩:∃n,n=M.length+I.length:=⟨_,rfl⟩;have hxn:(M++I).length=n:=by rw[A9,hn]
 have hnb:1<=n/\n<=100:=by omega
 rw[<-hn];refine HN func184 rfl ntmps184 nlr rD (go ?_);refine Ac (L:=c) rfl (fun w1 n1=>?_);refine Ac (L:=[iV (n:Int)]) rfl (fun w2 n2=>?_);have z1:=n1.size;have z2:=n2.size;have b1:=n1.D.E n2.E O;have b2:=n2.D;have k2:Ext w w2:=n1.E.Q n2.E;refine go ?_;refine Cu rfl b1 a1.1 (go ?_);refine(AD (Nw w2 c M I (h0.ext k2) hs h1 h2 V q) rfl ?_);rintro _ w3⟨rfl,k3⟩;refine go ?_;have b8:=b1.E k3 O;have c0:=b2.E k3 O;have e3:=k2.Q k3;refine lY (n:=n) rfl rfl rfl rfl rfl U U (fun w4 n4 o4=>?_);refine Ai (fun w5 n5=>?_);refine AW (v:=.slice (sm w3.heap.size) 0 n) rfl rfl rfl n5.D O (fun K p6=>go ?_);have z3:=e3.size;have z33:=k3.size;have z4:=n4.size;have z5:=n5.size;have z6:=p6.size;have k46:Ext w4 K:=n5.E.E p6.E O;have a7:Ext w3 K:=n4.E.Q k46;have b9:=b8.E a7 O;have T:=c0.E a7 O;have P:Blk K w4.heap.size 45 [.slice (sm w3.heap.size) 0 n]:=p6.D;obtain⟨j,c5⟩:∃j,j=w4.heap.size:=⟨_,rfl⟩;rw[<-c5]at P⊢;have d:=CD o4 k46;have e6:=e3.Q a7;refine Cu rfl b9 a1.1 ?_;refine gC (aj K c a1.1 a1.2) ?_;rintro _ A⟨rfl,a⟩;refine go ?_;have z7:=a.size;have b7:=a.D;replace d:=CD d a.E;replace P:=P.E a.E O;replace T:=T.E a.E O;have e7:=e6.Q a.E;refine Me [] [pt K.heap.size] rfl rD fun Rdy c9 b6 i B k8 s8 m8 r8=>?_;replace b7:=b7.E k8 O;replace d:=CD d k8;replace P:=P.E k8 O;replace T:=T.E k8 O;have e8:=e7.Q k8;obtain⟨l,c6⟩:∃l,l=w3.heap.size:=⟨_,rfl⟩;rw[<-c6]at P d;have lc5:j<i.heap.size:=P.lt;have hz8:i.heap.size=A.heap.size+2:=s8;obtain⟨p,hLs⟩:∃p:LV,p=(M++I).map (.int .i64):=⟨_,rfl⟩;have d0:p.length=n:=by rw[hLs,Es,hxn]
 obtain⟨R,E⟩:∃R:Nat->World->Prop,∀k W,R k W↔(∃v,Ext w W/\Blk W j 45 [v]/\Blk W w1.heap.size 3 [iV (n:Int)]/\W.ownsRow l 3 1 v k (p.take k)/\(∀g,v.ownBlock=some g->g=l\/i.heap.size+1<g)/\Rdy W/\W.heap[A.heap.size]?=some (.deferred (some []))/\i.heap.size<=W.heap.size):=⟨_,fun _ _=>Ho⟩;obtain⟨D,hD⟩:∃D:World->Prop,∀W,D W↔(∃v,Ext w W/\Blk W j 45 [v]/\W.ownsRow l 3 1 v n p/\v.ownBlock≠some A.heap.size/\v.ownBlock≠some (A.heap.size+1)/\b6 (.exit 0) W/\W.heap[A.heap.size]?=some (.deferred (some []))/\i.heap.size<=W.heap.size):=⟨_,fun _=>Ho⟩
 have a8:∀(k:Nat)(x:Int)(W:World),(M++I)[k]?=some x->R k W->(k+1<n->i.heap.size+1<W.heap.size)->YldP Zp (.func (.yield (A.heap.size+1)) #[] #[]) [iV x] W
   (fun u Z=>(k+1<n->u=.bool true/\(∃a9,Keep a9 W Z/\∀y∈a9,y∈[j,l,A.heap.size+1]\/i.heap.size+1<y)/\R (k+1) Z)/\(k+1=n->u=.bool false/\D Z)) (fun _ _=>False):=by
  intro k x W V C a5;obtain⟨v,j1,o,j3,Q,j5,a2,a0,b3⟩:=(E _ _).1 C;have c7:=(Ah.1 V).1;rw[hxn]at c7;have c3:p[k]?=some (iV x):=by rw[hLs,Cl,V];rfl
  refine B.round a2 rfl (go ?_);refine⟨a2,fun W2 z e0 y2=>?_⟩;have r:∀{b},b∈v.ownBlock.toList->v.ownBlock=some b:=fun V=>Aw.1 V;have G:∀{b},v.ownBlock=some b->b=l\/i.heap.size+1<b:=fun V=>j5 _ V;replace o:=o.E z rE;replace j3:=j3.E z rE;replace Q:=Bf Q z (fun g f h=>by simp at h;subst h;have:=G f;omega);replace a0:=(z.block _ U O).Q a0;have e2:=j1.E z rE;have b0:∀g,v.ownBlock=some g->l<=g/\g<W2.heap.size:=fun g f=>Ao Q f;refine go ?_;refine Ay (out:=[iV x]) rfl U (by rw[O3];rfl) (fun W3 m=>?_);have oz:=m.own (n:=1) (size:=1) rfl rL (AO _);have e1:=m.size;refine Bk (ok:=AL) (v:=v) rfl rfl (CD Q m.E) (BG oz fun _ _=>trivial) U rfl rfl (Ak rfl) U U U (fun X W4 a4=>?_);have t:=a4.E;have z4':=t.size;have c4:j∉v.ownBlock.toList:=fun h=>by have:=G (r h);omega
  refine AW (v:=X) rfl rfl (MN a4.own) ((o.E m.E O).E t c4) O (fun W5 s=>go ?_);have e4:=s.size;have b5:Blk W5 j 45 [X]:=s.D
  have hv4:∀g,X.ownBlock=some g->v.ownBlock=some g\/g=W3.heap.size:=fun g f=>by
   rcases a4.D with e|e
   ·exact .inl (e▸f)
   ·rw[e]at f;exact .inr (Ae f).symm
  have hq2:=z.size
  have a6:∀g,X.ownBlock=some g->g=l\/i.heap.size<=g:=fun g f=>by
   rcases hv4 g f with e|e
   ·have:=G e;omega
   ·omega
  have m6:X.ownBlock≠some j:=fun h=>by have:=a6 _ h;omega
  have m9:X.ownBlock≠some A.heap.size:=fun h=>by have:=a6 _ h;omega
  have m7:X.ownBlock≠some (A.heap.size+1):=fun h=>by have:=a6 _ h;omega
  have o5:=Bf a4.own s.E (fun g f h=>by simp at h;subst h;exact m6 f);have c1:=((j3.E m.E O).E t (fun h=>by have:=b0 _ (r h);omega)).E s.E rE;have m5:=(s.E.block _ U rE).Q ((t.block _ U (fun h=>by have:=G (r h);omega)).Q ((m.E.block _ U O).Q a0));have y5:=B.bsy (B.bsy (B.bsy y2 m.E O) t (fun h=>by have:=G (r h);omega)) s.E rE;have e5:=((e2.Q m.E).E t (fun y q=>by have:=b0 _ (r q);omega)).E s.E rE;obtain⟨va,vc,rfl,_⟩:=Kv o5;have c8:p.take k++[iV x]=p.take (k+1):=by rw[CT,c3];rfl
  rw[c8]at o5;by_cases h0:k+1<n
  ·have hcn':=a5 h0;refine go ?_;have kk:Keep (j::l::(A.heap.size+1)::v.ownBlock.toList) W W5:=(((z.mono (fun x V=>by simp at V;simp[V])).Q m.E (fun x V=>by cases V)).Q t (fun x V _=>by simp only[BI];exact .inr (.inr (.inr V)))).Q s.E (fun x V _=>by simp at V;simp[V]);refine M4 y5 fun W6 S z6 y6=>⟨fun _=>⟨rfl,⟨_,kk.Q S (fun x V _=>by simp at V;simp[V]),fun y q=>?_⟩,(E _ _).2 ⟨_,e5.E S rE,b5.E S rE,c1.E S rE,Bf o5 S (fun g f h=>by simp at h;subst h;exact m7 f),fun g f=>?_,y6,(S.block _ U O).Q m5,by omega⟩⟩,fun h=>absurd h U⟩
   ·simp only[BI,FA,FD]at q⊢;rcases q with h|h|h|h
    ·exact .inl (.inl h)
    ·exact .inl (.inr (.inl h))
    ·exact .inl (.inr (.inr h))
    ·rcases G (r h)with h|h
     ·exact .inl (.inr (.inl h))
     ·exact .inr h
   ·rcases hv4 g f with e|e
    ·exact G e
    ·right;omega
  ·obtain rfl:n=k+1:=by omega
   refine go ?_;rw[GE U]at o5;refine cC y5 fun W6 S z6 y6=>⟨(fun h=>absurd h U),fun _=>⟨rfl,(hD _).2 ⟨_,e5.E S rE,b5.E S rE,Bf o5 S (fun g f h=>by simp at h;subst h;exact m7 f),m9,m7,y6,(S.block _ U O).Q m5,by omega⟩⟩⟩
 have H:Y2 (.func (.yield (A.heap.size+1)) #[] #[]) [j,l,A.heap.size+1] i.heap.size (i.heap.size+1) (M++I) R D:=by
  refine⟨⟨_,rfl⟩,fun C k F=>?_,fun{k x W}V hk C a5=>?_,fun{k x W}V hk C=>?_⟩
  ·obtain⟨v,j1,o,j3,Q,j5,a2,a0,b3⟩:=(E _ _).1 C;exact(E _ _).2 ⟨v,j1.E k (fun x V=>by have:=F x V;omega),o.E k (fun h=>by have:=F _ h;omega),j3.E k (fun h=>by have:=F _ h;omega),Bf Q k (fun g f h=>by have:=F _ h;have:=j5 _ f;omega),j5,B.rdy a2 k (fun h=>by have:=F _ h;omega),(k.block _ U (fun h=>by have:=F _ h;omega)).Q a0,Az b3 k.size⟩
  ·exact YldP.mono (a8 k x W V C fun _=>a5) (fun v Z h=>h.1 U) (fun _ _ h=>h)
  ·exact YldP.mono (a8 k x W V C (fun h=>absurd h U)) (fun v Z h=>h.2 U) (fun _ _ h=>h)
 refine Fn.mono (Z5 i K.heap.size c M I H b7 (h0.ext e8) (fun W kW=>h0.ext (e8.E kW (fun y q=>by simp at q;omega))) U U ((E _ _).2 ⟨_,e8,P,T,d,(fun g f=>by have e:=Ae f;simp only at e;omega),r8,m8,AO _⟩) (fun x V=>by simp at V;omega)) ?_;rintro _ w9 hd;obtain⟨v,d1,d2,d3,d4,d5,d6,d7,d8⟩:=(hD _).1 hd;refine .inr ⟨_,d6,fun w10 a3 s10=>?_⟩;unfold LC;clear E H B a8 r8 m8 b7;replace d2:=d2.E a3 rE;replace d3:=Bf d3 a3 (fun g f h=>by simp at h;subst h;exact d5 f);replace d7:=(a3.block _ U O).Q d7;have c2:=d1.E a3 rE;obtain⟨va,vc,rfl,_⟩:=Kv d3;refine go ?_;refine GI d7 fun d9 b4 s11=>?_;refine Qw rfl ⟨?_,c2.E b4 rE⟩;rw[<-hLs];exact I9 (Bf d3 b4 (fun g f h=>by simp at h;subst h;exact d4 f)) U
def XA:=@Nat.mod_eq_of_lt
noncomputable def tv (p:Prop):Bool:=@decide p (Classical.propDecidable p)
def tv_iff{p:Prop}:tv p=true↔p:=by unfold tv;exact @decide_eq_true_iff p (Classical.propDecidable p)
def Gi{p q:Prop}(h:p↔q):tv p=tv q:=by rw[propext h]
def GB{p:Prop}{b:Bool}(h:b=true↔p):b=tv p:=by
 cases b with
 |true=>exact(tv_iff.2 (h.1 rfl)).symm
 |false=>cases hp:tv p with
  |true=>exact h.2 (tv_iff.1 hp)
  |false=>rfl
def PV(p:Prop):(!tv p)=tv (¬p):=GB (by rw[D7,<-EK,tv_iff])
def Sk(p q:Prop):(tv p&&tv q)=tv (p/\q):=GB (by rw[AZ,tv_iff,tv_iff])
def Sz(p q:Prop):(tv p||tv q)=tv (p\/q):=GB (by rw[Fm,tv_iff,tv_iff])
def Dz(N B k:Nat):Nat:=if k<N then k else B
def inU(P Q:Nat->Prop)(N t:Nat):Prop:=∃k,t<=k/\k<N/\Q k/\∀j,t<=j->j<k->P j
def jL(P Q:Nat->Prop){N t:Nat}(h:t+1<N):inU P Q N t↔Q t\/P t/\inU P Q N (t+1):=by
 constructor
 ·rintro⟨k,Z,W,R,A⟩;by_cases e:k=t
  ·subst e;exact .inl R
  ·exact .inr ⟨A t (AO _) U,k,by omega,W,R,fun j a b=>A j U b⟩
 ·rintro(c|⟨c,k,Z,W,R,A⟩)
  ·exact⟨t,AO _,by omega,c,fun j a b=>by omega⟩
  ·refine⟨k,by omega,W,R,fun j a b=>?_⟩;by_cases e:j=t
   ·subst e;exact c
   ·exact A j U b
def jK(P Q:Nat->Prop){N t:Nat}(h:t+1=N):inU P Q N t↔Q t:=by
 constructor
 ·rintro⟨k,Z,W,R,_⟩;obtain rfl:k=t:=by omega
  exact R
 ·intro V;exact⟨t,AO _,by omega,V,fun j a b=>by omega⟩
def lH{P Q:Nat->Prop}{B p:Nat}(u:1<=p)(V:Per B p P)(c:Per B p Q):EN P Q B↔inU P Q (B+p) B:=by
 constructor
 ·rintro⟨k,Z,W,R⟩
  induction k using Nat.strongRecOn with
  |_ k ih=>
  by_cases d:k<B+p
  ·exact⟨k,Z,d,W,R⟩
  ·refine ih (k-p) U U ?_ fun j a b=>R j a U;have:=c (k-p) U;rw[<-this,show k-p+p=k by omega];exact W
 ·rintro⟨k,Z,_,W,R⟩;exact⟨k,Z,W,R⟩
noncomputable def stU (P Q:Nat->Prop) (N i t:Nat):Bool:=if i<=N then(if N<=t+i then tv (inU P Q N t)else false)else if 2*N<=t+i then tv (EN P Q t)else tv (inU P Q N t)
def Mz{P Q:Nat->Prop}{N i t:Nat}(h:i<=N):stU P Q N i t=if N<=t+i then tv (inU P Q N t)else false:=AJ h
def Sj{P Q:Nat->Prop}{N i t:Nat}(h:N<=i)(a:t<N):stU P Q N i t=if 2*N<=t+i then tv (EN P Q t)else tv (inU P Q N t):=by
 by_cases B:i=N
 ·subst B;rw[Mz (AO _),AJ U,AG U]
 ·exact AG U
def Rg{P Q:Nat->Prop}{B p N i:Nat}(u:1<=p)(L:N=B+p)(V:Per B p P)(c:Per B p Q)(F:i<2*N)(x:Nat)(d:x<N):
  stU P Q N (i+1) x=if x=N-1-i%N then(tv (Q x)||tv (P x)&&stU P Q N i (Dz N B (x+1)))else stU P Q N i x:=by
 have j:EN P Q N↔inU P Q N B:=by
  rw[L,<-lH u V c];exact Iff.of_eq (OQ V c B (AO _))
 by_cases Z:i<N
 ·rw[XA Z,Mz (i:=i+1) U];by_cases b:x=N-1-i
  ·rw[AJ b,AJ (show N<=x+(i+1) by omega),Mz U];by_cases a:x+1<N
   ·rw[Dz,AJ a,AJ (show N<=x+1+i by omega),Sk,Sz];exact Gi (jL P Q a)
   ·rw[Dz,AG a,AG (show¬N<=B+i by omega),Bool.and_false,Bool.or_false];exact Gi (jK P Q U)
  ·rw[AG b,Mz U];by_cases W:N<=x+i
   ·rw[AJ (show N<=x+(i+1) by omega),AJ W]
   ·rw[AG (show¬N<=x+(i+1) by omega),AG W]
 ·have r:i%N=i-N:=by rw[Nat.mod_eq_sub_mod U,XA U]
  rw[r,Sj (i:=i+1) U d];by_cases b:x=N-1-(i-N)
  ·rw[AJ b,AJ (show 2*N<=x+(i+1) by omega)];by_cases a:x+1<N
   ·rw[Dz,AJ a,Sj U a,AJ (show 2*N<=x+1+i by omega),Sk,Sz];exact Gi (MC P Q x)
   ·rw[Dz,AG a,Mz (show i<=N by omega),AJ (show N<=B+i by omega),Sk,Sz];refine Gi ?_;rw[MC,show x+1=N by omega,j]
  ·rw[AG b,Sj U d];by_cases W:2*N<=x+i
   ·rw[AJ (show 2*N<=x+(i+1) by omega),AJ W]
   ·rw[AG (show¬2*N<=x+(i+1) by omega),AG W]
def Wj(P Q:Nat->Prop){N t:Nat}(a:t<N):stU P Q N 0 t=false:=by
 unfold stU;rw[AJ U,AG U]
def Xt(P Q:Nat->Prop){N t:Nat}(h:1<=N):stU P Q N (2*N) t=tv (EN P Q t):=by
 unfold stU;rw[AG U,AJ U]
noncomputable def stR (P Q:Nat->Prop) (N i t:Nat):Bool:= !stU (fun t=>¬P t) (fun t=>¬Q t) N i t
def Wi{P Q:Nat->Prop}{B p N i:Nat}(u:1<=p)(L:N=B+p)(V:Per B p P)(a:Per B p Q)(F:i<2*N)(x:Nat)(b:x<N):
  stR P Q N (i+1) x=if x=N-1-i%N then(tv (Q x)&&(tv (P x)||stR P Q N i (Dz N B (x+1))))else stR P Q N i x:=by
 unfold stR;rw[Rg u L (J9 V) (J9 a) F x b]
 split
 ·rw[<-PV,<-PV];cases tv (Q x)<;>cases tv (P x)<;>simp
 ·rfl
def kz(P Q:Nat->Prop){N t:Nat}(a:t<N):stR P Q N 0 t=true:=by rw[stR,Wj _ _ a];rfl
def oC(P Q:Nat->Prop){N t:Nat}(h:1<=N):stR P Q N (2*N) t=tv (FK P Q t):=by
 rw[stR,Xt _ _ h,PV];exact Gi (JO P Q t).symm
def Nn:=@Int.natCast_emod
def R6:∀f:Fml,Cm f<=szF f
 | .mk op nm v b args=>by
  have:=nestL_le args;rw[Cm,szF];split<;>omega
where nestL_le:∀l:LF,E6 l<=szL l
 | []=>by simp[E6]
 |a::l=>by have:=R6 a;have:=nestL_le l;rw[E6,szL];omega
def dO{l:LF}{k:Nat}{x:Fml}(h:l[k]?=some x):E6 (l.take (k+1))=max (E6 (l.take k)) (Cm x):=by
 induction l generalizing k with
 |nil=>cases h
 |cons a l ih=>
  cases k with
  |zero=>cases h;simp[E6]
  |succ k=>simp only[Ln,E6,ih rT];omega
set_option maxHeartbeats 1000000 in
def dB:∀(n:Nat)(w:World)(b o:Nat)(f:Fml),dpF f<=n->szF f<=1000000->PF AL w b o f->Fn Zp 186 [.pointer (sn b o)] w fun u w'=>u=iV (Cm f:Int)/\Ext w w':=by
 intro n
 induction n with
 |zero=>intro w b o f H;rw[Cr]at H;omega
 |succ n ih=>
 intro w b o f H p s;have d:Cm f<=1000000:=Az (R6 f) p;rw[Cr]at H;obtain⟨N,P,X,R,Z,S,q3,A,B⟩:=s.all;obtain⟨M,l,v,F,c⟩:=f;simp only[Fml.op,Fml.name,Fml.val,Fml.args]at*
 rw[szF]at p
 have r:∀(k:Nat)(a:Fml),c[k]?=some a->∀W,Ext w W->∃q m,N=some ⟨q,m,none⟩/\Fn Zp 186 [.pointer (sn q (m+k*5))] W fun u w'=>u=iV (Cm a:Int)/\Ext W w':=fun k a G W i=>by
  obtain⟨q,m,e,C⟩:=B k a G;have g:=BA G;have:=Ds g;have:=Ci g;exact⟨q,m,e,ih W q _ a U U (C.E i (fun _ _=>by simp))⟩
 rw[Cm]at d⊢;refine AM func186 rfl ntmps186 (go ?_);refine Aj (α:=Nat) (fun k=>[(0,.pointer (sn b o)),(3,iV (E6 (c.take k):Int)),(9,iV (c.length:Int)),(10,iV (k:Int))]) (fun k W=>k<=c.length/\Ext w W) (fun k=>c.length-k) 0 ag ⟨by omega,Ext.refl _⟩ ?_;rintro k W Q⟨h,K⟩;have a0:=K.cell A O;have D:=K.cell R O;refine go ?_;by_cases z:k<c.length
 ·obtain⟨y,I⟩:=gl z;obtain⟨q,m,rfl,t⟩:=r k y I W K;refine go ?_;refine AD t rfl ?_;rintro _ w4⟨rfl,x⟩;refine IL rfl rfl (go ?_);refine⟨k+1,⟨rfl,⟨rfl,?_,rfl,nk k,trivial⟩,⟨by omega,K.Q x⟩⟩,by omega⟩;show iV (max (E6 (c.take k):Int) (Cm y:Int))=_;rw[dO I];exact congrArg _ U
 ·obtain rfl:k=c.length:=by omega
  rw[Co];refine go ?_;by_cases E:M=15
  ·rw[AJ (.inl E)]at d⊢;exact uH
  by_cases L:M=16
  ·rw[AJ (.inr (.inl L))]at d⊢;exact uH
  by_cases j:M=17
  ·rw[AJ (.inr (.inr (.inl j)))]at d⊢;exact uH
  by_cases V:M=18
  ·rw[AJ (.inr (.inr (.inr (.inl V))))]at d⊢;exact uH
  by_cases T:M=19
  ·rw[AJ (.inr (.inr (.inr (.inr T))))]at d⊢;exact uH
  rw[AG U]at d⊢;exact uH
structure AxG(w:World)(t:Nat)(S:List Sgn)(xs:List Int)(m p B:Nat):Prop where
 len:xs.length=m+p/\1<=p/\m<=B/\B+p<=1000000
 D:∃sa sc lb lo lc,Blk w t 185 [.slice sa S.length sc,.slice (sn lb lo) xs.length lc,iV (m:Int),iV (B:Int),iV ((B+p:Nat):Int)]/\SlAt sgnR AL w (.slice sa S.length sc) S/\
  ∀(k:Nat)(x:Int),xs[k]?=some x->∃g rc,CC w lb (lo+k) (.slice (sm g) S.length rc)/\∀i,i<S.length->CC w g (0+i) (iV (D0 S x i))
def AxG.ext{w w':World}{t:Nat}{S:List Sgn}{xs:List Int}{m p B:Nat}(h:AxG w t S xs m p B)(k:Ext w w'):AxG w' t S xs m p B:=by
 obtain⟨N,H,G,o,c,b,Z,W,R⟩:=h;refine⟨N,H,G,o,c,b,Z.E k O,W.ext k,fun j x C=>?_⟩;obtain⟨g,a,f,u⟩:=R j x C;exact⟨g,a,k.cell f O,fun i F=>k.cell (u i F) O⟩
set_option maxHeartbeats 1000000 in
def OC(w:World)(t:Nat)(S:List Sgn)(xs:List Int)(m p B:Nat)(k:Nat)(h:AxG w t S xs m p B)(P:k<=B+p):Fn Zp 64 [pt t,iV (k:Int)] w fun u w'=>u=iV (Dz (B+p) B k:Int)/\Ext w w':=by
 obtain⟨⟨b,C,K,M⟩,H,G,o,c,N,a,_,_⟩:=h;refine AM func64 rfl ntmps64 (go ?_);unfold Dz;by_cases z:k<B+p
 ·rw[AJ z];exact tG
 ·obtain rfl:k=B+p:=by omega
  rw[AG z];refine go ?_;refine Ab (rd 0 22 .done) AX rD (fun X W T=>⟨Ext X,?_,?_⟩)
  ·exact sY
  have d:∀V,Ext X V->CC V t (0+3) (iV (B:Int)):=fun V e=>(a.E (W.Q e) O).cell rfl;have L:∀V,Ext X V->CC V t (0+4) (iV ((B+p:Nat):Int)):=fun V e=>(a.E (W.Q e) O).cell rfl;have r:(((B+p:Nat):Int)-(B:Int))%(((B+p:Nat):Int)-(B:Int))=0:=Int.emod_self;refine go ?_;refine AC rfl ⟨?_,W⟩;show iV ((B:Int)+(((B+p:Nat):Int)-(B:Int))%(((B+p:Nat):Int)-(B:Int)))=_;rw[r,Int.add_zero]
def HV(m p k:Nat):Nat:=if k<m+p then k else m+(k-m)%p
def R5{m p:Nat}(C:1<=p)(k:Nat):HV m p k<m+p:=by
 unfold HV
 split
 ·assumption
 ·have:=Kx (k-m) (show 0<p by omega);omega
set_option maxHeartbeats 1000000 in
def fK(w:World)(t:Nat)(S:List Sgn)(xs:List Int)(m p B:Nat)(k i:Nat)(x:Int)(h:AxG w t S xs m p B)(P:k<=B+p)(l:xs[HV m p k]?=some x)(F:i<S.length):Fn Zp 244 [pt t,iV (k:Int),iV (i:Int)] w fun u w'=>u=iV (D0 S x i)/\Ext w w':=by
 obtain⟨⟨r,C,K,M⟩,H,G,o,c,N,b,_,j⟩:=h;obtain⟨g,a,I,D⟩:=j _ x l;have f:=D i F;have z:=R5 (m:=m) C k;refine AM func244 rfl ntmps244 (go ?_);by_cases d:k<m+p
 ·have e:HV m p k=k:=AJ d;rw[e]at I;exact tG
 ·have e:HV m p k=m+(k-m)%p:=AG d;refine go ?_;refine Ab (rd 0 23 .done) AX rD (fun X W T=>⟨Ext X,?_,?_⟩)
  ·exact sY
  have A:∀V,Ext X V->CC V t (0+1) (.slice (sn o c) xs.length N):=fun V e=>(b.E (W.Q e) O).cell rfl;have E:∀V,Ext X V->CC V t (0+2) (iV (m:Int)):=fun V e=>(b.E (W.Q e) O).cell rfl
  have v:(m:Int)+((k:Int)-(m:Int))%((xs.length:Int)-(m:Int))=((HV m p k:Nat):Int):=by
   rw[e,show(xs.length:Int)-(m:Int)=(p:Int) by omega,show(k:Int)-(m:Int)=((k-m:Nat):Int) by omega,<-Nn,<-BB]
  have y:0<=((k:Int)-(m:Int))%((xs.length:Int)-(m:Int)):=Int.emod_nonneg _ U;refine go ?_;have s:=b.E W O;have n:=W.cell I O;have q:=W.cell f O;refine gR ?_;exact⟨rfl,W⟩
end Go.Proofs.YtjbocjodncbogaaGreatDoor
