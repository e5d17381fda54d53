/- TopGoalsGoOn, part 5 of 16: rules, lemmas, walks. Conditions: none. -/
import Derived.Test.YtohodbnnhlddpaaGreatDoorQZ4
namespace Go.Proofs.YtohodbnnhlddpaaGreatDoor
open Go.RowKit
set_option linter.unusedVariables false
section
variable {mk : Prop} [MK mk]
structure Rp (α : Type) where
 fits : (Nat → Prop) → World → LV → α → Prop
 size : Nat
 len : ∀ {ok w c a}, fits ok w c a → c.length = size
 one : ∀ {ok w c a}, fits ok w c a → oneC c
 E : ∀ {ok X w w' c a}, fits ok w c a → Keep X w w' → (∀ b, ok b → b ∉ X) → fits ok w' c a
 lt : ∀ {ok w c a}, fits ok w c a → fits (fun b => ok b ∧ b < w.heap.size) w c a
 mono : ∀ {ok ok' : Nat → Prop} {w c a}, fits ok w c a → (∀ b, ok b → ok' b) → fits ok' w c a
theorem Rp.ext {α : Type} (R : Rp α) {ok : Nat → Prop} {w w' : World} {c : LV} {a : α} (h : R.fits ok w c a) (k : Ext w w') : R.fits ok w' c a := R.E h k fun _ _ => by simp
def RsAt {α : Type} (R : Rp α) (ok : Nat → Prop) (w : World) (L : List (LV)) (l : List α) : Prop :=
 L.length = l.length ∧ ∀ (i : Nat) (c : LV) (a : α), L[i]? = some c → l[i]? = some a → R.fits ok w c a
section
variable {α : Type} {R : Rp α} {ok : Nat → Prop} {w w' : World} {L : List (LV)} {l : List α}
theorem RsAt.nil : RsAt R ok w [] [] := ⟨rfl, fun i c g h => by simp at h⟩
theorem RsAt.E {X : List Nat} (h : RsAt R ok w L l) (k : Keep X w w') (e : ∀ b, ok b → b ∉ X) : RsAt R ok w' L l := ⟨h.1, fun i c a T H => R.E (h.2 i c a T H) k e⟩
theorem RsAt.ext (h : RsAt R ok w L l) (k : Ext w w') : RsAt R ok w' L l := h.E k fun _ _ => by simp
theorem RsAt.lt (h : RsAt R ok w L l) : RsAt R (fun b => ok b ∧ b < w.heap.size) w L l := ⟨h.1, fun i c a T H => R.lt (h.2 i c a T H)⟩
theorem RsAt.mono {ok' : Nat → Prop} (h : RsAt R ok w L l) (e : ∀ b, ok b → ok' b) : RsAt R ok' w L l := ⟨h.1, fun i c a T H => R.mono (h.2 i c a T H) e⟩
theorem RsAt.app {M : List (LV)} {m : List α} (h : RsAt R ok w L l) (t : RsAt R ok w M m) : RsAt R ok w (L ++ M) (l ++ m) := by
 refine ⟨by simp [h.1, t.1], fun i c a T H => ?_⟩;by_cases F : i < L.length
 ·rw [List.getElem?_append_left F] at T;rw [List.getElem?_append_left (by rw [← h.1]; exact F)] at H;exact h.2 i c a T H
 ·rw [List.getElem?_append_right U] at T;rw [List.getElem?_append_right (by rw [← h.1]; omega), ← h.1] at H;exact t.2 _ c a T H
theorem RsAt.one {c : LV} {a : α} (h : R.fits ok w c a) : RsAt R ok w [c] [a] := by
 refine ⟨rfl, fun i d b C S => ?_⟩;cases i with
 | zero => simp at C S; subst C; subst S; exact h
 | succ i => simp at C
theorem RsAt.snoc {c : LV} {a : α} (h : RsAt R ok w L l) (t : R.fits ok w c a) : RsAt R ok w (L ++ [c]) (l ++ [a]) := h.app (RsAt.one t)
theorem RsAt.len (h : RsAt R ok w L l) : ∀ c ∈ L, c.length = R.size := by
 intro c T;obtain ⟨i, F⟩ := List.getElem?_of_mem T;have y : i < l.length := by have := (List.getElem?_eq_some_iff.1 F).1; rw [h.1] at this; exact this
 exact R.len (h.2 i c _ F (List.getElem?_eq_getElem y))
theorem CC (n : Nat) : ∀ L : List (LV), (∀ c ∈ L, c.length = n) → L.flatten.length = L.length * n
 | [], _ => by simp
 | c :: L, h => by
  have := h c O;have o := CC n L fun d C => h d (by simp [C]);simp only [List.flatten_cons, List.length_append, List.length_cons, o, Nat.succ_mul]; omega
theorem RsAt.flat (h : RsAt R ok w L l) : L.flatten.length = l.length * R.size := by rw [← h.1]; exact CC _ L h.len
theorem RsAt.oneC (h : RsAt R ok w L l) : oneC L.flatten := by
 intro u r;obtain ⟨c, T, r⟩ := List.mem_flatten.1 r;obtain ⟨i, F⟩ := List.getElem?_of_mem T;have y : i < l.length := by have := (List.getElem?_eq_some_iff.1 F).1; rw [h.1] at this; exact this
 exact R.one (h.2 i c _ F (List.getElem?_eq_getElem y)) u r
end
def SlAt {α : Type} (R : Rp α) (ok : Nat → Prop) (w : World) (v : Value) (l : List α) : Prop := ∃ a c L, v = .slice a l.length c ∧ Sl ok w v l.length L.flatten ∧ RsAt R ok w L l
theorem Sl_ltR {α : Type} {R : Rp α} {ok : Nat → Prop} {w : World} {v : Value} {L : List (LV)} {l : List α} (z : 0 < R.size) (h : Sl ok w v l.length L.flatten) (t : RsAt R ok w L l) : Sl (fun b => ok b ∧ b < w.heap.size) w v l.length L.flatten := by
 refine h.lt fun s e => ?_;have := t.flat;rw [e] at this;have X : 0 < l.length * R.size := Nat.mul_pos U z;simp at this; omega
def sgnC (x : Sgn) : LV := [AI x.name, .bool x.input, iV x.size]
def sgnR : Rp Sgn where
 fits _ _ c x := c = sgnC x
 size := 3
 len h := by subst h; rfl
 one h := by subst h; intro u r; simp [sgnC] at r; rcases r with rfl | rfl | rfl <;> rfl
 E h _ _ := h
 lt h := h
 mono h _ := h
def reqR : Rp Rqm where
 fits ok w c x := ∃ d : LV, c = [AI x.part, AI x.name, iV x.kind] ++ d ∧ d.length = 5 ∧ FAt ok w (.agg d.toArray) x.formula
 size := 8
 len h := by obtain ⟨d, rfl, C, _⟩ := h; simp [C]
 one h := by
  obtain ⟨d, rfl, C, I⟩ := h;obtain ⟨p, e, _, X⟩ := I.cells;have : d = p := by simpa using e
  subst this;intro u r;rcases List.mem_append.1 r with r | r
  ·simp at r; rcases r with rfl | rfl | rfl <;> rfl
  ·exact X u r
 E h k hX := by obtain ⟨d, e, C, I⟩ := h; exact ⟨d, e, C, I.E k hX⟩
 lt h := by obtain ⟨d, e, C, I⟩ := h; exact ⟨d, e, C, I.lt⟩
 mono h hk := by obtain ⟨d, e, C, I⟩ := h; exact ⟨d, e, C, I.mono hk⟩
theorem AU {l : LV} (h : l.all (fun v => v.oneCell') = true) : oneC l := fun u r => List.all_eq_true.1 h u r
def spcR : Rp Spc where
 fits ok w c x := ∃ B o, c = [B, o] ∧ SlAt sgnR ok w B x.sigs ∧ SlAt reqR ok w o x.reqs
 size := 2
 len h := by obtain ⟨_, _, rfl, _⟩ := h; rfl
 one h := by
  obtain ⟨_, _, rfl, ⟨_, _, _, rfl, _⟩, ⟨_, _, _, rfl, _⟩⟩ := h;intro u r; simp at r; rcases r with rfl | rfl <;> rfl
 E h k hX := by
  obtain ⟨B, o, e, ⟨a, c, L, i, X, W⟩, ⟨b, d, M, j, m, g⟩⟩ := h;exact ⟨B, o, e, ⟨a, c, L, i, X.E k hX, W.E k hX⟩, ⟨b, d, M, j, m.E k hX, g.E k hX⟩⟩
 lt h := by
  obtain ⟨B, o, e, ⟨a, c, L, i, X, W⟩, ⟨b, d, M, j, m, g⟩⟩ := h;exact ⟨B, o, e, ⟨a, c, L, i, Sl_ltR (by show 0 < 3; decide) X W, W.lt⟩, ⟨b, d, M, j, Sl_ltR (by show 0 < 8; decide) m g, g.lt⟩⟩
 mono h hk := by
  obtain ⟨B, o, e, ⟨a, c, L, i, X, W⟩, ⟨b, d, M, j, m, g⟩⟩ := h;exact ⟨B, o, e, ⟨a, c, L, i, X.mono hk, W.mono hk⟩, ⟨b, d, M, j, m.mono hk, g.mono hk⟩⟩
def fmlR : Rp Fml where
 fits ok w c x := c.length = 5 ∧ FAt ok w (.agg c.toArray) x
 size := 5
 len h := h.1
 one h := by
  obtain ⟨G, e, _, X⟩ := h.2.cells;simp only [Value.agg.injEq] at e;have a := congrArg Array.toList e;simp only [List.toList_toArray] at a;exact a ▸ X
 E h k hX := ⟨h.1, h.2.E k hX⟩
 lt h := ⟨h.1, h.2.lt⟩
 mono h hk := ⟨h.1, h.2.mono hk⟩
theorem CH (n : Nat) : ∀ (L : List (LV)) (k j : Nat) (c : LV) (v : Value), (∀ c ∈ L, c.length = n) → L[k]? = some c → c[j]? = some v → L.flatten[k * n + j]? = some v
 | [], k, j, c, v, _, h, _ => by simp at h
 | d :: L, 0, j, c, v, h5, h, hv => by
  simp at h; subst h;rw [List.flatten_cons, Nat.zero_mul, Nat.zero_add, List.getElem?_append_left (List.getElem?_eq_some_iff.1 hv).1]; exact hv
 | d :: L, k + 1, j, c, v, h5, h, hv => by
  have C := h5 d O;rw [List.flatten_cons, List.getElem?_append_right (by rw [C, Nat.succ_mul]; omega), C, show (k + 1) * n + j - n = k * n + j by rw [Nat.succ_mul]; omega];exact CH n L k j c v (fun c T => h5 c Dw) Dy hv
theorem Sl.recs {α : Type} {R : Rp α} {ok : Nat → Prop} {w : World} {a : Option Addr} {n cap k sz : Nat} {L : List (LV)} {l : List α} {c : LV} (h : Sl ok w (.slice a n cap) n L.flatten) (z : RsAt R ok w L l) (F : R.size = sz) (g : L[k]? = some c) (G : k < n) :
  ∃ b o, a = some ⟨b, o, none⟩ ∧ ok b ∧ Cells w b (o + k * sz) c := by
 obtain ⟨i, Q, q, X, W, m, e⟩ := h;cases q;obtain ⟨b, o, rfl, S, T⟩ := e.resolve_left U;refine ⟨b, o, rfl, S, fun j v q => ?_⟩;have := T _ _ (CH sz L k j c v (fun c T => by rw [z.len c T, F]) g q)
 rwa [← Nat.add_assoc] at this
theorem SlAt.ext {α : Type} {R : Rp α} {ok : Nat → Prop} {w w' : World} {v : Value} {l : List α} (h : SlAt R ok w v l) (k : Ext w w') : SlAt R ok w' v l := by
 obtain ⟨a, c, L, e, X, W⟩ := h;exact ⟨a, c, L, e, X.ext k, W.ext k⟩
theorem SlAt.mono {α : Type} {R : Rp α} {ok ok' : Nat → Prop} {w : World} {v : Value} {l : List α} (h : SlAt R ok w v l) (g : ∀ b, ok b → ok' b) : SlAt R ok' w v l := by
 obtain ⟨a, c, L, e, X, W⟩ := h;exact ⟨a, c, L, e, X.mono g, W.mono g⟩
theorem Sl.row {α : Type} {R : Rp α} {ok : Nat → Prop} {w : World} {a : Option Addr} {n c k : Nat} {l : List α} {L : List (LV)} {d : LV} (g : Sl ok w (.slice a n c) n L.flatten) (z : RsAt R ok w L l) (C : L[k]? = some d) (m : k < n) : ∃ b o, a = some ⟨b, o, none⟩ ∧ ok b ∧ Cells w b (o + k * R.size) d := by
 obtain ⟨i, G, e, _, _, _, h⟩ := g;cases e;rcases h with s | ⟨b, o, rfl, S, T⟩
 ·omega
 ·refine ⟨b, o, rfl, S, fun j u r => ?_⟩;have := T (k * R.size + j) u (CH R.size L k j d u z.len C r);rw [← Nat.add_assoc] at this;exact this
abbrev FV (w : World) (v : Value) (f : Fml) : Prop := FAt AZ w v f
def fcC (f : Fml) (D : Value) : LV := [iV f.op, AI f.name, iV f.val, iV f.bound, D]
def PF (ok : Nat → Prop) (w : World) (b o : Nat) (f : Fml) : Prop := ok b ∧ ∃ d : LV, d.length = 5 ∧ Cells w b o d ∧ FAt ok w (.agg d.toArray) f
theorem PF.E {ok : Nat → Prop} {X : List Nat} {w w' : World} {b o : Nat} {f : Fml} (h : PF ok w b o f) (k : Keep X w w') (a : ∀ b, ok b → b ∉ X) : PF ok w' b o f := by
 obtain ⟨S, d, C, T, I⟩ := h;exact ⟨S, d, C, T.E k (a b S), I.E k a⟩
theorem PF.lt {ok : Nat → Prop} {w : World} {b o : Nat} {f : Fml} (h : PF ok w b o f) : PF (fun b => ok b ∧ b < w.heap.size) w b o f := by
 obtain ⟨S, d, C, T, I⟩ := h;obtain ⟨r, p, e, a, c, rfl⟩ := AX C;exact ⟨⟨S, World.block_lt_of_cell? w _ (T 0 _ rfl)⟩, _, rfl, T, I.lt⟩
theorem PF.mono {ok ok' : Nat → Prop} {w : World} {b o : Nat} {f : Fml} (h : PF ok w b o f) (a : ∀ b, ok b → ok' b) : PF ok' w b o f := by
 obtain ⟨S, d, C, T, I⟩ := h;exact ⟨a b S, d, C, T, I.mono a⟩
theorem PF.form {ok : Nat → Prop} {w : World} {b o : Nat} {f : Fml} (h : PF ok w b o f) : ok b ∧ ∃ a c L, Cells w b o (fcC f (.slice a f.args.length c)) ∧ Sl ok w (.slice a f.args.length c) f.args.length L.flatten ∧ FsAt ok w L f.args := by
 obtain ⟨S, d, C, T, I⟩ := h;obtain ⟨D, e, L, g, X, W, i⟩ := I.form;obtain ⟨a, c, rfl, _⟩ := id g;have e := congrArg Array.toList (Value.agg.inj e);have e : d = fcC f (.slice a f.args.length c) := e;subst e;exact ⟨S, a, c, L, T, g, X, W, i⟩
section
variable {P : Program} {all : Array Oper} {Z : Fr → DS → List PanicEntry → World → Prop} {K : Fr → DS → World → Prop} {rest : List Oper} {f : Fr} {ds : DS} {w : World}
 {d : Nat} {ty ty' : TypeId} {pos pos' : String} {af af' : Array Edge}
theorem BN (L cs : LV) (h : cs.length = L.length) : splice L 0 cs = cs := by
 simp [splice, h]
theorem An {T n : Nat} {x : Operand} {cs z : LV} [hZ : Bb P T z] [hT : BQ P T n] (V : ev (upd f d (.pointer (sm w.heap.size))) x = .agg cs.toArray) (G : cs.length = n) (c : z.length = n) (X : oneC cs)
  (h : ∀ w', New w w' T cs → AO P all Z K rest (upd f d (.pointer (sm w.heap.size))) ds w') :
  AO P all Z K (⟨some d, .alloc T, ty, pos, af, none⟩ :: ⟨none, .store T (.tmp d) x, ty', pos', af', none⟩ :: rest) f ds w := by
 refine AQ (L := z) fun Q E => ?_;refine AE (b := w.heap.size) (o := 0) (cs := cs) (by simp [ev, upd]) V G X E.D U fun a s => ?_;have e := s.D;rw [BN z cs U] at e;refine h a ⟨E.E.E s.E O, by rw [s.size, E.size], e⟩
theorem CB {T D b : Nat} {a x : Operand} {v : Value} {g : Fml} {ok : Nat → Prop} {L : LV} [hT : BQ P T 5] (H : ev f a = .pointer (sm b)) (V : ev f x = v) (I : FAt ok w v g) (S : Blk w b D L) (c : L.length = 5)
  (h : ∀ w' cs, v = .agg cs.toArray → cs.length = 5 → Keep [b] w w' → w'.heap.size = w.heap.size → Blk w' b D cs → AO P all Z K rest f ds w') :
  AO P all Z K (⟨none, .store T a x, ty, pos, af, none⟩ :: rest) f ds w := by
 obtain ⟨cs, rfl, A, n⟩ := I.cells;refine AE (cs := cs) H V A n S U fun w' p => ?_;have e := p.D;rw [BN L cs U] at e;exact h w' cs rfl A p.E p.size e
end
theorem FAt.new {ok : Nat → Prop} {w w' : World} {v : Value} {f : Fml} (h : FAt ok w v f) {T : TypeId} {cs : LV} (n : New w w' T cs) : FAt ok w' v f := h.ext n.E
theorem oneC_fml (a b c d : Value) (e : Option Addr) (n m : Nat) (H : a.oneCell' = true) (S : b.oneCell' = true) (T : c.oneCell' = true) (C : d.oneCell' = true) : oneC [a, b, c, d, .slice e n m] := by
 intro u r;simp at r;rcases r with rfl | rfl | rfl | rfl | rfl <;> first | assumption | rfl
theorem primary_ok (E : Env) (N : Nat) (hF : ∀ M, M < N → Ch E M 253 (body .formula)) : Ch E N 304 (body .primary) := by
 intro w ts h hN;have c3 := h.st.slt;unfold PDo;refine A5 Tryz.func304 rfl Tryz.ntmps304 nlr Dk (go ?_);refine AQ (fun w1 n1 => ?_);have b1 : Blk w1 w.heap.size 36 zero5 := n1.D;have z1 := n1.size;have h1 := h.ext n1.E;have k1 : Keep [E.s] w w1 := n1.E.any;refine go ?_;refine AC (B0 E w1 ts [116, 114, 117, 101] h1.st) rfl ?_;rintro _ w2 ⟨k2, b, j, rfl, l, q2⟩;have h2 := h1.next k2 q2
 have b2 := b1.E k2 Dm;have a7 := k1.trans k2 O;have z2 := k2.size;have l2 : j.length ≤ ts.length := (show j <:+ ts from l.suffix).length_le;refine go ?_;cases b with
 | true =>
  refine go ?_;refine CB rfl rfl (FAt.leaf (fresh w) w2 1 [] 0 0) b2 rfl (fun w3 t e A r z3 F => go ?_);refine AT rfl rfl A F.cells ⟨a7.trans r Dm, _, j, l.bind (Run.ret _ _), q2.E r Dm, ?_⟩;rw [← e];exact FAt.leaf _ _ _ _ _ _
 | false =>
 refine go ?_;refine AC (B0 E w2 j [102, 97, 108, 115, 101] h2.st) rfl ?_;rintro _ w3 ⟨r, b, z, rfl, Q, q3⟩;have h3 := h2.next r q3
 have F := b2.E r Dm;have a8 := a7.trans r O;have z3 := r.size;have l3 : z.length ≤ j.length := (show z <:+ j from Q.suffix).length_le;refine go ?_;cases b with
 | true =>
  refine go ?_;refine CB rfl rfl (FAt.leaf (fresh w) w3 2 [] 0 0) F rfl (fun w4 t e A R z4 G => go ?_);refine AT rfl rfl A G.cells ⟨a8.trans R Dm, _, z, l.bind (Q.bind (Run.ret _ _)), q3.E R Dm, ?_⟩;rw [← e];exact FAt.leaf _ _ _ _ _ _
 | false =>
 refine go ?_;refine AC (B0 E w3 z [40] h3.st) rfl ?_;rintro _ w4 ⟨R, b, B, rfl, u, q4⟩;have C := h3.next R q4
 have G := F.E R Dm;have Z := a8.trans R O;have z4 := R.size;have l4 : B.length ≤ z.length := (show B <:+ z from u.suffix).length_le;refine go ?_;cases b with
 | true =>
  have c4 : B.length + 1 = z.length := by
   rcases accepts_inv u with ⟨_, e, _⟩ | ⟨e, _⟩
   ·exact e
   ·cases e
  refine go ?_;refine Ap (hF B.length U w4 B C (Nat.le_refl _)) rfl ?_ ?_;rotate_left
  ·
   rintro T wq ⟨o, K, I, rfl⟩;refine go ?_;exact Ai ⟨Z.trans o O, K, l.bind (Q.bind (u.bind (Run.callE I))), rfl⟩
  rintro v w5 ⟨m, f, t5, g, q5, f5⟩;have h5 := C.next m q5
  have b5 := G.E m Dm;have a0 := Z.trans m O;have z5 := m.size;obtain ⟨t, rfl, A, b8⟩ := f5.cells;refine An (cs := t) rfl A Dn b8 (fun w6 d => ?_);have f6 := f5.new d;have W := h5.ext d.E;have b6 := b5.E d.E O;have z6 := d.size;have e6 := d.D;refine go ?_;refine Ap (Cy E w6 t5 [41] W.st) rfl ?_ ?_;rotate_left
  ·
   rintro T wq ⟨o, K, I, rfl⟩;refine go ?_;exact Ai ⟨(a0.ext d.E).trans o O, K, l.bind (Q.bind (u.bind (Run.call g (Run.bindE I)))), rfl⟩
  rintro v w7 ⟨c, _, t7, H, q7, rfl⟩;have X := e6.E c Dm;have P := b6.E c Dm;have f7 := f6.E c Dv;refine go ?_;refine Bh rfl X A ?_;refine CB rfl rfl f7 P rfl (fun w8 c1 e hcs' q z8 V => go ?_);refine AT rfl rfl hcs' V.cells ⟨((a0.ext d.E).trans c O).trans q Dm, f, t7, l.bind (Q.bind (u.bind (Run.call g (H.bind (Run.ret _ _))))), q7.E q Dm, ?_⟩;rw [← e];exact (f7.E q Dv).mono (fun b S => by simp only [fresh] at S ⊢; omega)
 | false =>
 refine go ?_;refine Ap (pname_ok E w4 B C.st C.gk) rfl ?_ ?_;rotate_left
 ·
  rintro T wq ⟨o, K, I, rfl⟩;refine go ?_;exact Ai ⟨Z.trans o O, K, l.bind (Q.bind (u.bind (Run.bindE I))), rfl⟩
 rintro v w5 ⟨m, s, t5, g, q5, rfl, hs⟩;have h5 := C.next m q5
 have b5 := G.E m Dm;have a0 := Z.trans m O;have z5 := m.size;refine go ?_;refine An (cs := [iV 3, AI s, iV 1, iV 0, .slice none 0 0]) rfl rfl Dn (oneC_fml _ _ _ _ _ _ _ rfl rfl rfl rfl) (fun w6 d => ?_);have W := h5.ext d.E;have b6 := b5.E d.E O;have z6 := d.size;have e6 := d.D;have b9 := a0.ext d.E;refine go ?_;refine AC (B0 E w6 t5 [61] W.st) rfl ?_;rintro _ w7 ⟨c, b, t7, rfl, H, q7⟩;have h7 := W.next c q7
 have P := b6.E c Dm;have X := e6.E c Dm;have a4 := b9.trans c O;have z7 := c.size;refine go ?_;cases b with
 | true =>
  refine go ?_;refine Ap (number_ok E w7 t7 h7.st) rfl ?_ ?_;rotate_left
  ·
   rintro T wq ⟨o, K, I, rfl⟩;refine go ?_;exact Ai ⟨a4.trans o O, K, l.bind (Q.bind (u.bind (g.bind (H.bind (Run.bindE I))))), rfl⟩
  rintro v w8 ⟨q, n, t8, D, q8, rfl, hn0, b7⟩;have V := P.E q Dm;have e8 := X.E q Dm;have z8 := q.size;refine go ?_;refine AN rfl rfl rfl e8 O (fun w9 y => ?_);have p := V.E y.E Dm;have e9 : Blk w9 w5.heap.size 36 [iV 3, AI s, iV n, iV 0, .slice none 0 0] := y.D;have z9 := y.size;refine go ?_;refine CB rfl rfl (FAt.leaf (fresh w) w9 3 s n 0) p rfl (fun a1 t e A a6 c0 a2 => go ?_);refine AT rfl rfl A a2.cells ⟨((a4.trans q O).trans y.E Dm).trans a6 Dm, _, t8, l.bind (Q.bind (u.bind (g.bind (H.bind (D.bind (Run.ret _ _)))))), (q8.E y.E Dm).E a6 Dm, ?_⟩;rw [← e];exact FAt.leaf _ _ _ _ _ _
 | false =>
 refine go ?_;refine AC (B0 E w7 t7 [33, 61] h7.st) rfl ?_;rintro _ w8 ⟨q, b, t8, rfl, D, q8⟩;have h8 := h7.next q q8
 have V := P.E q Dm;have e8 := X.E q Dm;have a5 := a4.trans q O;have z8 := q.size;refine go ?_;cases b with
 | true =>
  refine go ?_;refine Ap (number_ok E w8 t8 h8.st) rfl ?_ ?_;rotate_left
  ·
   rintro T wq ⟨o, K, I, rfl⟩;refine go ?_;exact Ai ⟨a5.trans o O, K, l.bind (Q.bind (u.bind (g.bind (H.bind (D.bind (Run.bindE I)))))), rfl⟩
  rintro v w9 ⟨x, n, t9, r9, q9, rfl, hn0, b7⟩;have p := V.E x Dm;have e9 := e8.E x Dm;have z9 := x.size;refine go ?_;refine AN rfl rfl rfl e9 O (fun a1 i => ?_);have a2 := p.E i.E Dm;have c2 : Blk a1 w5.heap.size 36 [iV 3, AI s, iV n, iV 0, .slice none 0 0] := i.D;have c0 := i.size;refine go ?_;refine AL (out := [iV 3, AI s, iV n, iV 0, .slice none 0 0]) rfl U Dr (fun c5 k => ?_);have c7 := k.size;have b3 := a2.E k.E O;obtain ⟨S11, a9⟩ := FsAt.fresh (ok := fresh w) (L := [[iV 3, AI s, iV n, iV 0, .slice none 0 0]]) k (FsAt.one (FAt.leaf (fresh w) a1 3 s n 0) rfl) (by simp only [fresh]; omega) O;refine go ?_;refine CB rfl rfl (FAt.node 4 [] 0 0 S11 a9) b3 rfl (fun c6 t e A a3 c8 b4 => go ?_);refine AT rfl rfl A b4.cells ⟨(((a5.trans x O).trans i.E Dm).ext k.E).trans a3 Dm, _, t9, l.bind (Q.bind (u.bind (g.bind (H.bind (D.bind (r9.bind (Run.ret _ _))))))), (((q9.E i.E Dm).ext k.E)).E a3 Dm, ?_⟩;rw [← e];obtain ⟨S12, b0⟩ := FsAt.fresh (ok := fun b => fresh w b ∧ b ≠ w.heap.size) (L := [[iV 3, AI s, iV n, iV 0, .slice none 0 0]]) k (FsAt.one (FAt.leaf _ a1 3 s n 0) rfl) (by simp only [fresh]; omega) O;exact ((FAt.node 4 [] 0 0 S12 b0).E a3 (by rintro b ⟨_, S⟩; simpa using S)).mono fun b S => S.1
 | false =>
  refine go ?_;refine CB rfl rfl (FAt.leaf (fresh w) w8 3 s 1 0) V rfl (fun w9 t e A x z9 p => go ?_);refine AT rfl rfl A p.cells ⟨a5.trans x Dm, _, t8, l.bind (Q.bind (u.bind (g.bind (H.bind (D.bind (Run.ret _ _)))))), q8.E x Dm, ?_⟩;rw [← e];exact FAt.leaf _ _ _ _ _ _
theorem take_inv {W : List (LU × Opr)} {m s : List Tok} {o : Option Opr} (h : Run (takeG W) m (.ok (o, s))) : (∃ p, o = some p ∧ s.length + 1 = m.length) ∨ (o = none ∧ s = m) := by
 cases m with
 | nil =>
  have e := h.det (Run.look (Run.ret _ _));cases e; exact .inr ⟨rfl, rfl⟩
 | cons x l =>
  have B : Run (takeG W) (x :: l) (match W.lookup x.text with | some p => .ok (some p, l) | none => .ok (none, x :: l)) := by
   refine Run.look ?_;show Run (match W.lookup x.text with | some p => .next (.ret (some p)) | none => .ret none) _ _;cases W.lookup x.text with
   | none => exact Run.ret _ _
   | some p => exact Run.next (Run.ret _ _)
  have e := h.det B;cases hl : W.lookup x.text with
  | none => rw [hl] at e; cases e; exact .inr ⟨rfl, rfl⟩
  | some p => rw [hl] at e; cases e; exact .inl ⟨p, rfl, rfl⟩
theorem unary_ok (E : Env) (N : Nat) (hP : Ch E N 304 (body .primary)) (hU : ∀ M, M < N → Ch E M 297 (body .unary)) : Ch E N 297 (body .unary) := by
 intro w ts h hN;have b8 := h.st.slt;unfold PDo;refine A5 Tryz.func297 rfl Tryz.ntmps297 nlr Dk (go ?_);refine AQ (fun w1 n1 => ?_);have b1 : Blk w1 w.heap.size 36 zero5 := n1.D;have z1 := n1.size;have z := h.ext n1.E;have k1 : Keep [E.s] w w1 := n1.E.any;obtain ⟨ta, tc, hb1, _⟩ := z.st.D;have b5 := z.st.lt;refine go ?_;refine AC (pstake_ok E w1 ts E.mp prefixT z.st z.st.pre U) rfl ?_;rintro v w2 ⟨k2, o, t2, rfl, l, q2⟩;have h2 := z.next k2 q2
 have b2 := b1.E k2 Dm;have b0 := k1.trans k2 O;have z2 := k2.size;refine go ?_;refine An (cs := takeV o) rfl rfl Dn (oneC_opr _) (fun w3 B => ?_);have h3 := h2.ext B.E;have b3 := b2.E B.E O;have z3 := B.size;have e3 := B.D;have a2 := b0.ext B.E;refine go ?_;rcases take_inv l with ⟨q, rfl, hl2⟩ | ⟨rfl, rfl⟩
 ·replace e3 : Blk w3 w2.heap.size 215 [iV q.op, iV q.indexed, iV q.val] := e3;refine go ?_;refine An (cs := [iV q.op, AI [], iV q.val, iV 0, .slice none 0 0]) rfl rfl Dn (oneC_fml _ _ _ _ _ _ _ rfl rfl rfl rfl) (fun w4 r => ?_);have h4 := h3.ext r.E;have b4 := b3.E r.E O;have e4 := e3.E r.E O;have z4 := r.size;have g4 := r.D;have a6 := a2.ext r.E;refine go ?_;refine Ap (index_ok E w4 t2 q h4.st) rfl ?_ ?_;rotate_left
  ·rintro ch wq ⟨m, K, I, rfl⟩;refine go ?_;exact Ai ⟨a6.trans m O, K, l.bind (Run.bindE I), rfl⟩
  rintro v W ⟨i, n, u, H, q5, rfl, hn0, b7⟩;have h5 := h4.next i q5
  have P := b4.E i Dm;have e5 := e4.E i Dm;have g5 := g4.E i Dm;have a3 := a6.trans i O;have z5 := i.size;have l5 : u.length ≤ t2.length := (show u <:+ t2 from H.suffix).length_le;refine go ?_;cases n with
  | none =>
   refine go ?_;refine Ap (hU u.length U W u h5 (Nat.le_refl _)) rfl ?_ ?_;rotate_left
   ·rintro ch wq ⟨m, K, I, rfl⟩;refine go ?_;exact Ai ⟨a3.trans m O, K, l.bind (H.bind (Run.callE I)), rfl⟩
   rintro v w7 ⟨d, a, t7, r7, j, x⟩;have h7 := (h5).next d j
   have R := (P).E d Dm;have g7 := (g5).E d Dm;have a4 := (a3).trans d O;have z7 := d.size;obtain ⟨t, rfl, A, a9⟩ := x.cells
   obtain ⟨X, G, c, Z, T, rfl⟩ : ∃ X G c Z T, t = [X, G, c, Z, T] := by
    match t, A with
    | [X, G, c, Z, T], _ => exact ⟨_, _, _, _, _, rfl⟩
   refine AL (out := [X, G, c, Z, T]) rfl U Dr (fun w8 Q => ?_);have z8 := Q.size;have V := R.E Q.E O;have g8 := g7.E Q.E O;obtain ⟨F, F8⟩ := FsAt.fresh (ok := fun b => W.heap.size ≤ b) (L := [[X, G, c, Z, T]]) Q (FsAt.one (x.mono fun b S => by simp only [fresh] at S ⊢; omega) rfl) U O;refine go ?_;refine AN rfl rfl rfl g8 O (fun w9 y => ?_);have p := V.E y.E Dm;have g9 := y.D;have z9 := y.size;have g := (FAt.node (q.op) [] q.val (0) F F8).E y.E D3;refine go ?_;refine CB rfl rfl g p rfl (fun w10 a8 e a1 k z10 a0 => go ?_);refine AT rfl rfl a1 a0.cells ⟨((a4.ext Q.E).trans y.E Dm).trans k Dm, _, t7, l.bind (H.bind (Run.call r7 (Run.ret _ _))), ((j.ext Q.E).E y.E Dm).E k Dm, ?_⟩;rw [← e];show FAt _ _ _ (⟨q.op, [], q.val, 0, [a]⟩ : Fml);exact (g.E k D3).mono (fun b S => by simp only [fresh] at S ⊢; omega)
  | some n =>
   refine go ?_;refine AN rfl rfl rfl g5 O (fun w6 C => go ?_);refine AN rfl rfl rfl C.D O (fun a5 D => ?_);have g6 : Blk a5 w3.heap.size 36 [iV q.indexed, AI [], iV q.val, iV n, .slice none 0 0] := D.D;have h6 := (h5.E C.E Dm).E D.E Dm;have b6 := (P.E C.E Dm).E D.E Dm;have a7 := (a3.trans C.E Dm).trans D.E Dm;have z6 : a5.heap.size = W.heap.size := by rw [D.size, C.size]
   refine go ?_;refine Ap (hU u.length U a5 u h6 (Nat.le_refl _)) rfl ?_ ?_;rotate_left
   ·rintro ch wq ⟨m, K, I, rfl⟩;refine go ?_;exact Ai ⟨a7.trans m O, K, l.bind (H.bind (Run.callE I)), rfl⟩
   rintro v w7 ⟨d, a, t7, r7, j, x⟩;have h7 := (h6).next d j
   have R := (b6).E d Dm;have g7 := (g6).E d Dm;have a4 := (a7).trans d O;have z7 := d.size;obtain ⟨t, rfl, A, a9⟩ := x.cells
   obtain ⟨X, G, c, Z, T, rfl⟩ : ∃ X G c Z T, t = [X, G, c, Z, T] := by
    match t, A with
    | [X, G, c, Z, T], _ => exact ⟨_, _, _, _, _, rfl⟩
   refine AL (out := [X, G, c, Z, T]) rfl U Dr (fun w8 Q => ?_);have z8 := Q.size;have V := R.E Q.E O;have g8 := g7.E Q.E O;obtain ⟨F, F8⟩ := FsAt.fresh (ok := fun b => W.heap.size ≤ b) (L := [[X, G, c, Z, T]]) Q (FsAt.one (x.mono fun b S => by simp only [fresh] at S ⊢; omega) rfl) U O;refine go ?_;refine AN rfl rfl rfl g8 O (fun w9 y => ?_);have p := V.E y.E Dm;have g9 := y.D;have z9 := y.size;have g := (FAt.node (q.indexed) [] q.val (n) F F8).E y.E D3;refine go ?_;refine CB rfl rfl g p rfl (fun w10 a8 e a1 k z10 a0 => go ?_);refine AT rfl rfl a1 a0.cells ⟨((a4.ext Q.E).trans y.E Dm).trans k Dm, _, t7, l.bind (H.bind (Run.call r7 (Run.ret _ _))), ((j.ext Q.E).E y.E Dm).E k Dm, ?_⟩;rw [← e];show FAt _ _ _ (⟨q.indexed, [], q.val, n, [a]⟩ : Fml);exact (g.E k D3).mono (fun b S => by simp only [fresh] at S ⊢; omega)
 ·refine go ?_;refine Ap (hP w3 _ h3 hN) rfl ?_ ?_;rotate_left
  ·rintro ch wq ⟨m, K, I, rfl⟩;refine go ?_;exact Ai ⟨a2.trans m O, K, l.bind (Run.callE I), rfl⟩
  rintro v w4 ⟨k4, f, t4, r4, q4, f4⟩;have b4 := b3.E k4 Dm;have z4 := k4.size;refine CB rfl rfl f4 b4 rfl (fun W t e A i z5 P => go ?_);refine AT rfl rfl A P.cells ⟨(a2.trans k4 O).trans i Dm, f, t4, l.bind (Run.call r4 (Run.ret _ _)), q4.E i Dm, ?_⟩;rw [← e];exact (f4.E i Dv).mono (fun b S => by simp only [fresh] at S ⊢; omega)
theorem psuntil_ok (E : Env) (N : Nat) (hP : Ch E N 297 (body .unary)) (hU : ∀ M, M < N → Ch E M 295 (body .untilN)) : Ch E N 295 (body .untilN) := by
 intro w ts h hN;have c5 := h.st.slt;unfold PDo;refine A5 Tryz.func295 rfl Tryz.ntmps295 nlr Dk (go ?_);refine AQ (fun w1 n1 => ?_);have b1 : Blk w1 w.heap.size 36 zero5 := n1.D;have z1 := n1.size;have h1 := h.ext n1.E;have k1 : Keep [E.s] w w1 := n1.E.any;refine go ?_;refine Ap (hP w1 ts h1 hN) rfl ?_ ?_;rotate_left
 ·rintro ch wq ⟨A, D, I, rfl⟩;refine go ?_;exact Ai ⟨k1.trans A O, D, Run.callE I, rfl⟩
 rintro v w2 ⟨k2, a1, t2, l, q2, f2⟩;have h2 := h1.next k2 q2
 have b2 := b1.E k2 Dm;have k12 := k1.trans k2 O;have z2 := k2.size;have l2 : t2.length ≤ ts.length := (show t2 <:+ ts from l.suffix).length_le;replace f2 := f2.lt;obtain ⟨t, rfl, a4, hone⟩ := f2.cells;obtain ⟨X, G, m, Z, T, rfl⟩ := AX a4;refine An (cs := [X, G, m, Z, T]) rfl rfl Dn hone (fun w3 P => ?_);have h3 := h2.ext P.E;have b3 := b2.E P.E O;have z3 := P.size;have e3 := P.D;have f3 := f2.new P;have k13 := k12.ext P.E;obtain ⟨ta, tc, c0, _⟩ := h3.st.D;have c2 := h3.st.lt;refine go ?_;refine AC (pstake_ok E w3 t2 E.mi infixT h3.st h3.st.inf U) rfl ?_;rintro v w4 ⟨R, o, t4, rfl, u, q4⟩;have h4 := h3.next R q4
 have b4 := b3.E R Dm;have e4 := e3.E R Dm;have f4 := f3.E R Dv;have k14 := k13.trans R O;have z4 := R.size;refine go ?_;refine An (cs := takeV o) rfl rfl Dn (oneC_opr _) (fun k F => ?_);have h5 := h4.ext F.E;have b5 := b4.E F.E O;have e5 := e4.E F.E O;have f5 := f4.new F;have z5 := F.size;have g5 := F.D;have a9 := k14.ext F.E;refine go ?_;rcases take_inv u with ⟨q, rfl, c1⟩ | ⟨rfl, rfl⟩
 ·replace g5 : Blk k w4.heap.size 215 [iV q.op, iV q.indexed, iV q.val] := g5;refine go ?_;refine An (cs := [iV q.op, AI [], iV q.val, iV 0, .slice none 0 0]) rfl rfl Dn (oneC_fml _ _ _ _ _ _ _ rfl rfl rfl rfl) (fun w6 d => ?_);have h6 := h5.ext d.E;have b6 := b5.E d.E O;have e6 := e5.E d.E O;have f6 := f5.new d;have g6 := g5.E d.E O;have z6 := d.size;have u6 := d.D;have b0 := a9.ext d.E;refine go ?_;refine Ap (index_ok E w6 t4 q h6.st) rfl ?_ ?_;rotate_left
  ·rintro ch wq ⟨A, D, I, rfl⟩;refine go ?_;exact Ai ⟨b0.trans A O, D, Run.call l (u.bind (Run.bindE I)), rfl⟩
  rintro v wi ⟨z, n, V, r5, qi, rfl, c3, c4⟩;have hi := h6.next z qi
  have bi := b6.E z Dm;have ei := e6.E z Dm;have fi := f6.E z Dv;have ui := u6.E z Dm;have a8 := b0.trans z O;have zi := z.size;have l5 : V.length ≤ t4.length := (show V <:+ t4 from r5.suffix).length_le;refine go ?_;cases n with
  | none =>
   refine go ?_;refine C_draw (.read 0 (.read 1 (.alt 2 (.alt 3 (.read 4 (.alt 5 .done .stop)) .stop) .stop))) Al Dk (by repeat (first | exact nofr_fin | refine nofr_then ?_)) (fun K i ed => ⟨fun W => Keep [E.s, k.heap.size] K W, ?_, ?_⟩)
   ·exact Ep
   have C := (hi).ext i;have bd := (bi).E i O;have gd := (ui).E i O;have ed3 := (ei).E i O;have a3 := (fi).ext i;have zd : K.heap.size = (wi).heap.size := by rw [ed]
   have fc : ∀ W, Keep [E.s, k.heap.size] K W → Cells W w2.heap.size 0 [X, G, m, Z, T] := fun W B => (ed3.E B Dm).cells;((apply D_R rfl rfl; (intro W B; refine AR rfl Dn (fc W B) ?_; exact Z3)) <;> refine D_R rfl rfl (fun W B => Ag rfl Z3) ?_)
   refine D_E rfl ?_;refine Ap (hU V.length U K V C (Nat.le_refl _)) rfl ?_ ?_;rotate_left
   ·rintro ch wq ⟨A, D, I, rfl⟩;refine go ?_;exact Ai ⟨((a8).ext i).trans A O, D, Run.call l (u.bind (r5.bind (Run.callE I))), rfl⟩
   rintro v w7 ⟨f, a2, t7, r7, j, f7⟩;have h7 := C.next f j
   have b7 := bd.E f Dm;have g7 := gd.E f Dm;have f37 := a3.E f Dv;have a7 := ((a8).ext i).trans f O;have z7 := f.size;obtain ⟨ds, rfl, a6, hone2⟩ := f7.cells;obtain ⟨r, p, d2, a, c, rfl⟩ := AX a6;refine AH ⟨fun W => Keep [E.s, k.heap.size] w7 W, fun W B => (f.mono O).trans B O, Keep.refl _ _, ?_⟩;refine D_E rfl ?_;refine AL (out := [X, G, m, Z, T, r, p, d2, a, c]) rfl U D8 (fun w8 Q => ?_);have z8 := Q.size;have b8 := b7.E Q.E O;have g8 := g7.E Q.E O;obtain ⟨S8, F8⟩ := FsAt.fresh (ok := fun b => w.heap.size < b ∧ b ≠ k.heap.size) (L := [[X, G, m, Z, T], [r, p, d2, a, c]]) Q (FsAt.two (f37.mono fun b S => by simp only [fresh] at S ⊢; omega) rfl (f7.mono fun b S => by simp only [fresh] at S ⊢; omega) rfl) U O;refine AH ⟨fun W => Keep [E.s, k.heap.size] w8 W, fun W B => Q.E.any.trans B O, Keep.refl _ _, ?_⟩;refine go ?_;refine D_E rfl ?_;refine AN rfl rfl rfl g8 O (fun w9 y => ?_);have b9 := b8.E y.E Dm;have g9 := y.D;have z9 := y.size;have g := (FAt.node q.op [] (q.val) 0 S8 F8).E y.E D3;refine AH ⟨fun W => W = w9, fun W B => B ▸ y.E.mono O, rfl, ?_⟩;refine go ?_;refine CB rfl rfl g b9 rfl (fun w10 cs' e a5 x z10 a0 => go ?_);refine AT rfl rfl a5 a0.cells ⟨((a7.ext Q.E).trans y.E Dm).trans x Dm, ⟨q.op, [], q.val, 0, [a1, a2]⟩, t7, Run.call l (u.bind (r5.bind (Run.call r7 (Run.ret _ _)))), ((j.ext Q.E).E y.E Dm).E x Dm, ?_⟩;rw [← e];exact (g.E x D3).mono (fun b S => by simp only [fresh] at S ⊢; omega)
  | some n =>
   refine go ?_;refine AN rfl rfl rfl ui O (fun wj H => ?_);have uj : Blk wj k.heap.size 36 [iV q.op, AI [], iV n, iV 0, .slice none 0 0] := H.D;have hj := hi.E H.E Dm;have bj := bi.E H.E Dm;have ej := ei.E H.E Dm;have fj := fi.E H.E Dv;have kwj := a8.trans H.E Dm;have zj := H.size;refine go ?_;refine C_draw (.read 0 (.read 1 (.alt 2 (.alt 3 (.read 4 (.alt 5 .done .stop)) .stop) .stop))) Al Dk (by repeat (first | exact nofr_fin | refine nofr_then ?_)) (fun K i ed => ⟨fun W => Keep [E.s, k.heap.size] K W, ?_, ?_⟩)
   ·exact Ep
   have C := (hj).ext i;have bd := (bj).E i O;have gd := (uj).E i O;have ed3 := (ej).E i O;have a3 := (fj).ext i;have zd : K.heap.size = (wj).heap.size := by rw [ed]
   have fc : ∀ W, Keep [E.s, k.heap.size] K W → Cells W w2.heap.size 0 [X, G, m, Z, T] := fun W B => (ed3.E B Dm).cells;((apply D_R rfl rfl; (intro W B; refine AR rfl Dn (fc W B) ?_; exact Z3)) <;> refine D_R rfl rfl (fun W B => Ag rfl Z3) ?_)
   refine D_E rfl ?_;refine Ap (hU V.length U K V C (Nat.le_refl _)) rfl ?_ ?_;rotate_left
   ·rintro ch wq ⟨A, D, I, rfl⟩;refine go ?_;exact Ai ⟨((kwj).ext i).trans A O, D, Run.call l (u.bind (r5.bind (Run.callE I))), rfl⟩
   rintro v w7 ⟨f, a2, t7, r7, j, f7⟩;have h7 := C.next f j
   have b7 := bd.E f Dm;have g7 := gd.E f Dm;have f37 := a3.E f Dv;have a7 := ((kwj).ext i).trans f O;have z7 := f.size;obtain ⟨ds, rfl, a6, hone2⟩ := f7.cells;obtain ⟨r, p, d2, a, c, rfl⟩ := AX a6;refine AH ⟨fun W => Keep [E.s, k.heap.size] w7 W, fun W B => (f.mono O).trans B O, Keep.refl _ _, ?_⟩;refine D_E rfl ?_;refine AL (out := [X, G, m, Z, T, r, p, d2, a, c]) rfl U D8 (fun w8 Q => ?_);have z8 := Q.size;have b8 := b7.E Q.E O;have g8 := g7.E Q.E O;obtain ⟨S8, F8⟩ := FsAt.fresh (ok := fun b => w.heap.size < b ∧ b ≠ k.heap.size) (L := [[X, G, m, Z, T], [r, p, d2, a, c]]) Q (FsAt.two (f37.mono fun b S => by simp only [fresh] at S ⊢; omega) rfl (f7.mono fun b S => by simp only [fresh] at S ⊢; omega) rfl) U O;refine AH ⟨fun W => Keep [E.s, k.heap.size] w8 W, fun W B => Q.E.any.trans B O, Keep.refl _ _, ?_⟩;refine go ?_;refine D_E rfl ?_;refine AN rfl rfl rfl g8 O (fun w9 y => ?_);have b9 := b8.E y.E Dm;have g9 := y.D;have z9 := y.size;have g := (FAt.node q.op [] (n) 0 S8 F8).E y.E D3;refine AH ⟨fun W => W = w9, fun W B => B ▸ y.E.mono O, rfl, ?_⟩;refine go ?_;refine CB rfl rfl g b9 rfl (fun w10 cs' e a5 x z10 a0 => go ?_);refine AT rfl rfl a5 a0.cells ⟨((a7.ext Q.E).trans y.E Dm).trans x Dm, ⟨q.op, [], n, 0, [a1, a2]⟩, t7, Run.call l (u.bind (r5.bind (Run.call r7 (Run.ret _ _)))), ((j.ext Q.E).E y.E Dm).E x Dm, ?_⟩;rw [← e];exact (g.E x D3).mono (fun b S => by simp only [fresh] at S ⊢; omega)
 ·refine go ?_;refine CB rfl rfl f5 b5 rfl (fun w6 t e a4 k6 z6 b6 => go ?_);refine AT rfl rfl a4 b6.cells ⟨a9.trans k6 Dm, a1, _, Run.call l (u.bind (Run.ret _ _)), h5.st.E k6 Dm, ?_⟩;rw [← e];exact (f5.E k6 Dv).mono (fun b S => by simp only [fresh] at S ⊢; omega)
theorem chainP_and : ChainP [38] (body .untilN) (body .andL) where
 done h := by
  rcases accepts_inv h with ⟨e, _⟩ | ⟨_, _, _⟩
  ·cases e
  ·exact h.bind (Run.ret _ _)
 more h h1 h2 := h.bind (Run.call h1 (Run.call h2 (Run.ret _ _)))
 err1 h h1 := h.bind (Run.callE h1)
 err2 h h1 h2 := h.bind (Run.call h1 (Run.callE h2))
theorem chainP_or : ChainP [124] (body .andN) (body .orL) where
 done h := by
  rcases accepts_inv h with ⟨e, _⟩ | ⟨_, _, _⟩
  ·cases e
  ·exact h.bind (Run.ret _ _)
 more h h1 h2 := h.bind (Run.call h1 (Run.call h2 (Run.ret _ _)))
 err1 h h1 := h.bind (Run.callE h1)
 err2 h h1 h2 := h.bind (Run.call h1 (Run.callE h2))
theorem and_ok (E : Env) (N : Nat) (i : Ch E N 295 (body .untilN)) : Ch E N 290 (body .andN) := by
 intro w W h c;have a0 := h.st.slt;unfold PDo;refine A5 Tryz.func290 rfl Tryz.ntmps290 nlr Dk (go ?_);refine AQ (fun Q f => ?_);have k : Blk Q w.heap.size 36 zero5 := f.D;have z1 := f.size;have X := h.ext f.E;have o : Keep [E.s] w Q := f.E.any;refine go ?_;refine Ap (chain_ok E N 295 [38] (body .untilN) (body .andL) chainP_and i Q W X c) rfl ?_ ?_;rotate_left
 ·rintro q wq ⟨D, K, I, rfl⟩;refine go ?_;refine Ai ⟨o.trans D O, K, ?_, rfl⟩;rcases I.bind_inv with ⟨a, F, r, p⟩ | ⟨e, r, p⟩
  ·rcases p.bind_inv with ⟨l, P, A, x⟩ | ⟨e, A, x⟩
   ·cases x.det (Run.ret _ _)
   ·cases x; exact Run.call r (Run.callE A)
  ·cases p; exact Run.callE r
 rintro v Z ⟨d, l, j, T, u, M, V, L, rfl, H, G, m⟩;have h2 := X.next d u
 have y := k.E d Dm;have C := o.trans d O;have z2 := d.size;refine AC (psnode_ok Z 5 (fresh Q) M V L l G m H) rfl ?_;rintro v w3 ⟨g, n⟩;have t := y.E g O;refine CB rfl rfl n t rfl (fun w4 cs e B R z4 z => go ?_);refine AT rfl rfl B z.cells ⟨(C.ext g).trans R Dm, nodeF 5 l, j, ?_, (u.ext g).E R Dm, ?_⟩
 ·rcases T.bind_inv with ⟨a, F, r, p⟩ | ⟨e, r, p⟩
  ·rcases p.bind_inv with ⟨l, P, A, x⟩ | ⟨e, A, x⟩
   ·cases x.det (Run.ret _ _); exact Run.call r (Run.call A (Run.ret _ _))
   ·cases x
  ·cases p
 ·rw [← e];exact (n.E R Dv).mono (fun b S => by simp only [fresh] at S ⊢; omega)
theorem or_ok (E : Env) (N : Nat) (i : Ch E N 290 (body .andN)) : Ch E N 276 (body .orN) := by
 intro w W h c;have a0 := h.st.slt;unfold PDo;refine A5 Tryz.func276 rfl Tryz.ntmps276 nlr Dk (go ?_);refine AQ (fun Q f => ?_);have k : Blk Q w.heap.size 36 zero5 := f.D;have z1 := f.size;have X := h.ext f.E;have o : Keep [E.s] w Q := f.E.any;refine go ?_;refine Ap (chain_ok E N 290 [124] (body .andN) (body .orL) chainP_or i Q W X c) rfl ?_ ?_;rotate_left
 ·rintro q wq ⟨D, K, I, rfl⟩;refine go ?_;refine Ai ⟨o.trans D O, K, ?_, rfl⟩;rcases I.bind_inv with ⟨a, F, r, p⟩ | ⟨e, r, p⟩
  ·rcases p.bind_inv with ⟨l, P, A, x⟩ | ⟨e, A, x⟩
   ·cases x.det (Run.ret _ _)
   ·cases x; exact Run.call r (Run.callE A)
  ·cases p; exact Run.callE r
 rintro v Z ⟨d, l, j, T, u, M, V, L, rfl, H, G, m⟩;have h2 := X.next d u
 have y := k.E d Dm;have C := o.trans d O;have z2 := d.size;refine AC (psnode_ok Z 6 (fresh Q) M V L l G m H) rfl ?_;rintro v w3 ⟨g, n⟩;have t := y.E g O;refine CB rfl rfl n t rfl (fun w4 cs e B R z4 z => go ?_);refine AT rfl rfl B z.cells ⟨(C.ext g).trans R Dm, nodeF 6 l, j, ?_, (u.ext g).E R Dm, ?_⟩
 ·rcases T.bind_inv with ⟨a, F, r, p⟩ | ⟨e, r, p⟩
  ·rcases p.bind_inv with ⟨l, P, A, x⟩ | ⟨e, A, x⟩
   ·cases x.det (Run.ret _ _); exact Run.call r (Run.call A (Run.ret _ _))
   ·cases x
  ·cases p
 ·rw [← e];exact (n.E R Dv).mono (fun b S => by simp only [fresh] at S ⊢; omega)
theorem formula_ok (E : Env) (N : Nat) (hP : Ch E N 276 (body .orN)) (hU : ∀ M, M < N → Ch E M 253 (body .formula)) : Ch E N 253 (body .formula) := by
 intro w m h hN;have b4 := h.st.slt;unfold PDo;refine A5 Tryz.func253 rfl Tryz.ntmps253 nlr Dk (go ?_);refine AQ (fun D k => ?_);have b1 : Blk D w.heap.size 36 zero5 := k.D;have z1 := k.size;have h1 := h.ext k.E;have k1 : Keep [E.s] w D := k.E.any;refine go ?_;refine Ap (hP D m h1 hN) rfl ?_ ?_;rotate_left
 ·rintro ch wq ⟨x, z, C, rfl⟩;refine go ?_;exact Ai ⟨k1.trans x O, z, Run.callE C, rfl⟩
 rintro v w2 ⟨l, F, j, o, q2, i⟩;have h2 := h1.next l q2
 have b2 := b1.E l Dm;have a7 := k1.trans l O;have z2 := l.size;have l2 : j.length ≤ m.length := (show j <:+ m from o.suffix).length_le;replace i := i.lt;obtain ⟨V, rfl, A, a6⟩ := i.cells;obtain ⟨X, G, g, Z, T, rfl⟩ := AX A;refine An (cs := [X, G, g, Z, T]) rfl rfl Dn a6 (fun w3 f => ?_);have h3 := h2.ext f.E;have b3 := b2.E f.E O;have z3 := f.size;have e3 := f.D;have f3 := i.new f;have a8 := a7.ext f.E;refine go ?_;refine AC (B0 E w3 j [45, 62] h3.st) rfl ?_;rintro _ w4 ⟨R, b, t4, rfl, u, q4⟩;have h4 := h3.next R q4
 have H := b3.E R Dm;have e4 := e3.E R Dm;have I := f3.E R Dv;have t := a8.trans R O;have z4 := R.size;refine go ?_;rcases accepts_inv u with ⟨rfl, hl4, _, _⟩ | ⟨rfl, rfl, _⟩
 ·refine go ?_;refine C_draw (.read 0 (.read 1 (.alt 2 (.alt 3 (.read 4 (.alt 5 .done .stop)) .stop) .stop))) Al Dk (by repeat (first | exact nofr_fin | refine nofr_then ?_)) (fun K d ed => ⟨fun W => Keep [E.s, w.heap.size] K W, ?_, ?_⟩)
  ·exact Ep
  have hd := h4.ext d;have bd := H.E d O;have a1 := e4.E d O;have a3 := I.ext d;have zd : K.heap.size = w4.heap.size := by rw [ed]
  have fc : ∀ W, Keep [E.s, w.heap.size] K W → Cells W w2.heap.size 0 [X, G, g, Z, T] := fun W B => (a1.E B Dm).cells;((apply D_R rfl rfl; (intro W B; refine AR rfl Dn (fc W B) ?_; exact Z3)) <;> refine D_R rfl rfl (fun W B => Ag rfl Z3) ?_)
  refine D_E rfl ?_;refine Ap (hU t4.length U K t4 hd (Nat.le_refl _)) rfl ?_ ?_;rotate_left
  ·rintro ch wq ⟨x, z, C, rfl⟩;refine go ?_;exact Ai ⟨(t.ext d).trans x O, z, Run.call o (u.bind (Run.callE C)), rfl⟩
  rintro v w7 ⟨n, a2, t7, r7, q7, f7⟩;have b7 := bd.E n Dm;have f37 := a3.E n Dv;have a9 := (t.ext d).trans n O;have z7 := n.size;obtain ⟨ds, rfl, a5, hone2⟩ := f7.cells;obtain ⟨r, p, d2, a, c, rfl⟩ := AX a5;refine AH ⟨fun W => Keep [E.s, w.heap.size] w7 W, fun W B => (n.mono O).trans B O, Keep.refl _ _, ?_⟩;refine D_E rfl ?_;refine AL (out := [X, G, g, Z, T, r, p, d2, a, c]) rfl U D8 (fun w8 Q => ?_);have z8 := Q.size;have b8 := b7.E Q.E O;obtain ⟨S8, F8⟩ := FsAt.fresh (ok := fun b => w.heap.size < b) (L := [[X, G, g, Z, T], [r, p, d2, a, c]]) Q (FsAt.two (f37.mono fun b S => by simp only [fresh] at S ⊢; omega) rfl (f7.mono fun b S => by simp only [fresh] at S ⊢; omega) rfl) U O;refine AH ⟨fun W => Keep [E.s, w.heap.size] w8 W, fun W B => Q.E.any.trans B O, Keep.refl _ _, ?_⟩;have P := FAt.node 7 [] 0 0 S8 F8;refine go ?_;refine D_E rfl ?_;refine CB rfl rfl P b8 rfl (fun b0 cs' e a4 y b5 a0 => ?_);refine AH ⟨fun W => W = b0, fun W B => B ▸ y.mono O, rfl, ?_⟩;refine go ?_;refine AT rfl rfl a4 a0.cells ⟨(a9.ext Q.E).trans y Dm, ⟨7, [], 0, 0, [F, a2]⟩, t7, Run.call o (u.bind (Run.call r7 (Run.ret _ _))), (q7.ext Q.E).E y Dm, ?_⟩;rw [← e];exact (P.E y D3).mono (fun b S => by simp only [fresh] at S ⊢; omega)
 ·refine go ?_;refine CB rfl rfl I H rfl (fun w6 V e A q z6 b6 => go ?_);refine AT rfl rfl A b6.cells ⟨t.trans q Dm, F, _, Run.call o (u.bind (Run.ret _ _)), h4.st.E q Dm, ?_⟩;rw [← e];exact (I.E q Dv).mono (fun b S => by simp only [fresh] at S ⊢; omega)
theorem formulas_ok (E : Env) (N : Nat) : Ch E N 304 (body .primary) ∧ Ch E N 297 (body .unary) ∧ Ch E N 295 (body .untilN) ∧ Ch E N 253 (body .formula) := by
 induction N using Nat.strongRecOn with
 | _ N ih =>
  have X := primary_ok E N fun M V => (ih M V).2.2.2;have W := unary_ok E N X fun M V => (ih M V).2.1;have R := psuntil_ok E N W fun M V => (ih M V).2.2.1;exact ⟨X, W, R, formula_ok E N (or_ok E N (and_ok E N R)) fun M V => (ih M V).2.2.2⟩
def listR {α : Type} (R : Rp α) (z : 0 < R.size) : Rp (List α) where
 fits ok w c l := ∃ v, c = [v] ∧ SlAt R ok w v l
 size := 1
 len h := by obtain ⟨v, rfl, _⟩ := h; rfl
 one h := by obtain ⟨v, rfl, a, c, L, rfl, _⟩ := h; intro u r; simp at r; subst r; rfl
 E h k hX := by obtain ⟨v, e, a, c, L, q, X, W⟩ := h; exact ⟨v, e, a, c, L, q, X.E k hX, W.E k hX⟩
 lt h := by obtain ⟨v, e, a, c, L, q, X, W⟩ := h; exact ⟨v, e, a, c, L, q, Sl_ltR z X W, W.lt⟩
 mono h hk := by obtain ⟨v, e, a, c, L, q, X, W⟩ := h; exact ⟨v, e, a, c, L, q, X.mono hk, W.mono hk⟩
structure WhileP {α : Type} (pm : G Bool) (pi : G α) (pl : G (List α)) : Prop where
 done : ∀ {t}, Run pm t (.ok (false, t)) → Run pl t (.ok ([], t))
 more : ∀ {t t2 t3 a l}, Run pm t (.ok (true, t)) → Run pi t (.ok (a, t2)) → Run pl t2 (.ok (l, t3)) → Run pl t (.ok (a :: l, t3))
 err1 : ∀ {t e}, Run pm t (.ok (true, t)) → Run pi t (.error e) → Run pl t (.error e)
 err2 : ∀ {t t2 a e}, Run pm t (.ok (true, t)) → Run pi t (.ok (a, t2)) → Run pl t2 (.error e) → Run pl t (.error e)
 less : ∀ {t t2 a}, Run pm t (.ok (true, t)) → Run pi t (.ok (a, t2)) → t2.length < t.length
def prepL {α : Type} (l : List α) : Ans (List α) → Ans (List α)
 | .ok y => .ok (l ++ y.1, y.2)
 | .error e => .error e
theorem WhileP.step {α : Type} {pm : G Bool} {Z : G α} {X : G (List α)} (h : WhileP pm Z X) {t j : List Tok} {a : α} (b : Run pm t (.ok (true, t))) (W : Run Z t (.ok (a, j))) {r : Ans (List α)} (B : Run X j r) : Run X t (prepL [a] r) := by
 cases r with
 | ok y => exact h.more b W B
 | error e => exact h.err2 b W B
theorem prepL_app {α : Type} (l m : List α) (r : Ans (List α)) : prepL l (prepL m r) = prepL (l ++ m) r := by
 cases r <;> simp [prepL]
theorem prepL_nil {α : Type} (r : Ans (List α)) : prepL [] r = r := by cases r <;> simp [prepL]
def ItemR {α : Type} (R : Rp α) (b : LV → Value) (E : Env) (N : Nat) (g : FuncId) (Z : G α) : Prop := ∀ (w : World) (m : List Tok), PW w E m → m.length ≤ N → PDo E g [pt E.s] w Z m (fun d v a => ∃ c, v = b c ∧ R.fits (fresh w) d c a)
def aggV (c : LV) : Value := .agg c.toArray
def oneV (c : LV) : Value := c.headD undef
def MoreOk (E : Env) (x : World) (g : FuncId) (v1 v2 : LV) (pm : G Bool) : Prop := ∀ (w : World) (m : List Tok), Keep [E.s] x w → PW w E m → Fn Zp g (v1 ++ [] ++ v2) w (fun v Z => ∃ b, v = .bool b ∧ Run pm m (.ok (b, m)) ∧ Z = w)
theorem madeSgn : (madeCells (Value.agg #[AI [], .bool false, iV 0]).cells (1 * 3)).toList = [AI [], .bool false, iV 0] := by kernel_rfl
theorem madeReq : (madeCells (Value.agg #[AI [], AI [], iV 0, iV 0, AI [], iV 0, iV 0, .slice none 0 0]).cells (1 * 8)).toList = [AI [], AI [], iV 0, iV 0, AI [], iV 0, iV 0, .slice none 0 0] := by kernel_rfl
theorem madeSl : (madeCells (Value.slice none 0 0).cells (1 * 1)).toList = [.slice none 0 0] := by kernel_rfl
theorem cells3 {cs : LV} (h : cs.length = 3) : ∃ X G E, cs = [X, G, E] := by
 match cs, h with
 | [X, G, E], _ => exact ⟨_, _, _, rfl⟩
theorem cells8' {cs : LV} (h : cs.length = 8) : ∃ X G E Z T a c q, cs = [X, G, E, Z, T, a, c, q] := by
 match cs, h with
 | [X, G, E, Z, T, a, c, q], _ => exact ⟨_, _, _, _, _, _, _, _, rfl⟩
theorem whileSgn_ok (E : Env) (N : Nat) (C g : FuncId) [AD Zp C] [AD Zp g] (v1 v2 : LV) (pm : G Bool) (Z : G Sgn) (X : G (List Sgn)) (q : WhileP pm Z X) (w : World) (m : List Tok) (hM : MoreOk E w C v1 v2 pm)
  (hI : ItemR sgnR aggV E N g Z) (h : PW w E m) (hN : m.length ≤ N) :
  PDo E 108 [.func (.func C) v1.toArray v2.toArray, .func (.func g) #[pt E.s] #[]] w X m (fun w' v l => ∃ L, w'.ownsRow w.heap.size 125 3 v l.length L.flatten ∧ RsAt sgnR (fun b => fresh w b ∧ v.ownBlock ≠ some b) w' L l) := by
 have a6 := h.st.slt;unfold PDo;refine A5 Tryz.func108 rfl Tryz.ntmps108 nlr Dk (go ?_)
 refine Ah (α := Value × List (LV) × List _ × List Tok) (fun x => [(0, .func (.func C) v1.toArray v2.toArray), (1, .func (.func g) #[pt E.s] #[]), (5, x.1)])
  (fun x W => Keep [E.s] w W ∧ PW W E x.2.2.2 ∧ x.2.2.1.length + x.2.2.2.length ≤ m.length ∧ x.2.2.2.length ≤ m.length ∧ W.ownsRow w.heap.size 125 3 x.1 x.2.2.1.length x.2.1.flatten ∧ RsAt (sgnR) (fun b => fresh w b ∧ x.1.ownBlock ≠ some b) W x.2.1 x.2.2.1 ∧
   ∀ r, Run X x.2.2.2 r → Run X m (prepL x.2.2.1 r))
  (fun x => x.2.2.2.length) (.slice none 0 0, [], [], m) ⟨rfl, rfl, rfl, trivial⟩ ⟨Keep.refl _ _, h, by simp, Nat.le_refl _, ⟨by simp, .inl ⟨rfl, rfl⟩⟩, RsAt.nil, fun r K => by rw [prepL_nil]; exact K⟩ ?_
 rintro ⟨v, L, l, o⟩ w3 f3 ⟨k, R, Q, a2, P, y, t⟩;simp only at k R a2 Q P y t ⊢;refine go ?_;refine Av (v1 := v1) (v2 := v2) (vs := []) rfl (hM w3 o k R) rfl ?_;rintro _ p ⟨b, rfl, A, rfl⟩;have j : ∀ g, v.ownBlock = some g → w.heap.size ≤ g ∧ g < p.heap.size := fun g z => Ab P z;have z3 := k.size;refine go ?_;cases b with
 | true =>
  refine go ?_;refine Cu (v1 := [pt E.s]) (v2 := []) (vs := []) rfl (hI p o R U) rfl ?_ ?_;rotate_left
  ·rintro ch w5 ⟨f, l, D, rfl⟩;refine go ?_;exact Ai ⟨k.trans f O, l, t _ (q.err1 A D), rfl⟩
  rintro u w5 ⟨f, a, c2, D, q5, c, rfl, H⟩;have h5 := R.next f q5
  have a5 := q.less A D;have o5 := Ad P f (fun g z => by have := j g z; simp; omega);have F5 := y.E f (fun b S => by have := S.1; simp [fresh] at this ⊢; omega);have a4 := k.trans f O;have a0 := (sgnR).lt H;have z5 := f.size;have B := (sgnR).len H;have a1 := (sgnR).one H;obtain ⟨u0, u1, u2, a3⟩ := cells3 B;refine AL (out := c) rfl U (by rw [madeSgn, a3]; rfl) (fun w6 d => ?_);have z6 := d.size;have o6 := d.own (n := 1) (size := 3) B Dq (Nat.le_refl _);have a7 := h.st.cnt;refine Ak (ok := AZ) (v := v) (sv := .slice (sm w5.heap.size) 1 1) rfl rfl (Aa o5 d.E) (AV o6 fun _ _ => trivial) U rfl B a1 U U U (fun F w7 i => go ?_);have o7 := i.own;have h7 := (h5.ext d.E).E i.E (fun x V => by have := j x (Option.mem_toList.1 V); omega)
  have T : ∀ b, F.ownBlock = some b → v.ownBlock = some b ∨ b = w6.heap.size := fun b S => by
   rcases i.D with e | e
   ·exact .inl EE
   ·rw [e] at S; exact .inr (Option.some.inj S).symm
  have F7 : RsAt (sgnR) (fun b => fresh w b ∧ F.ownBlock ≠ some b) w7 L l := by
   refine ((F5.lt.ext d.E).E i.E ?_).mono ?_
   ·rintro b ⟨⟨_, S⟩, _⟩ V; exact S (Option.mem_toList.1 V)
   ·rintro b ⟨⟨h1, S⟩, I⟩;refine ⟨h1, fun e => ?_⟩;rcases T b e with e | e
    ·exact S e
    ·omega
  have f7 : (sgnR).fits (fun b => fresh w b ∧ F.ownBlock ≠ some b) w7 c a := by
   refine (sgnR).mono ((sgnR).E ((sgnR).ext a0 d.E) i.E ?_) ?_
   ·rintro b ⟨S, I⟩ V;have := j b (Option.mem_toList.1 V);simp [fresh] at S; omega
   ·rintro b ⟨S, I⟩;simp only [fresh] at S ⊢;refine ⟨by omega, fun e => ?_⟩;rcases T b e with e | e
    ·have := j b e; omega
    ·omega
  refine ⟨(F, L ++ [c], l ++ [a], c2), ⟨rfl, ⟨rfl, rfl, rfl, trivial⟩, ⟨?_, h7, by simp only [List.length_append, List.length_cons, List.length_nil] at Q ⊢; omega, by simp only; omega, ?_, F7.snoc f7, fun r K => ?_⟩⟩, by simp only; omega⟩
  ·exact E8
  ·exact Ez
  ·rw [← prepL_app];exact t _ (q.step A D K)
 | false =>
  exact Eu
theorem whileReq_ok (E : Env) (N : Nat) (C g : FuncId) [AD Zp C] [AD Zp g] (v1 v2 : LV) (pm : G Bool) (Z : G Rqm) (X : G (List Rqm)) (q : WhileP pm Z X) (w : World) (m : List Tok) (hM : MoreOk E w C v1 v2 pm)
  (hI : ItemR reqR aggV E N g Z) (h : PW w E m) (hN : m.length ≤ N) :
  PDo E 165 [.func (.func C) v1.toArray v2.toArray, .func (.func g) #[pt E.s] #[]] w X m (fun w' v l => ∃ L, w'.ownsRow w.heap.size 38 8 v l.length L.flatten ∧ RsAt reqR (fun b => fresh w b ∧ v.ownBlock ≠ some b) w' L l) := by
 have a6 := h.st.slt;unfold PDo;refine A5 Tryz.func165 rfl Tryz.ntmps165 nlr Dk (go ?_)
 refine Ah (α := Value × List (LV) × List _ × List Tok) (fun x => [(0, .func (.func C) v1.toArray v2.toArray), (1, .func (.func g) #[pt E.s] #[]), (5, x.1)])
  (fun x W => Keep [E.s] w W ∧ PW W E x.2.2.2 ∧ x.2.2.1.length + x.2.2.2.length ≤ m.length ∧ x.2.2.2.length ≤ m.length ∧ W.ownsRow w.heap.size 38 8 x.1 x.2.2.1.length x.2.1.flatten ∧ RsAt (reqR) (fun b => fresh w b ∧ x.1.ownBlock ≠ some b) W x.2.1 x.2.2.1 ∧
   ∀ r, Run X x.2.2.2 r → Run X m (prepL x.2.2.1 r))
  (fun x => x.2.2.2.length) (.slice none 0 0, [], [], m) ⟨rfl, rfl, rfl, trivial⟩ ⟨Keep.refl _ _, h, by simp, Nat.le_refl _, ⟨by simp, .inl ⟨rfl, rfl⟩⟩, RsAt.nil, fun r K => by rw [prepL_nil]; exact K⟩ ?_
 rintro ⟨v, L, l, o⟩ w3 f3 ⟨k, R, Q, a2, P, y, t⟩;simp only at k R a2 Q P y t ⊢;refine go ?_;refine Av (v1 := v1) (v2 := v2) (vs := []) rfl (hM w3 o k R) rfl ?_;rintro _ p ⟨b, rfl, A, rfl⟩;have j : ∀ g, v.ownBlock = some g → w.heap.size ≤ g ∧ g < p.heap.size := fun g z => Ab P z;have z3 := k.size;refine go ?_;cases b with
 | true =>
  refine go ?_;refine Cu (v1 := [pt E.s]) (v2 := []) (vs := []) rfl (hI p o R U) rfl ?_ ?_;rotate_left
  ·rintro ch w5 ⟨f, l, D, rfl⟩;refine go ?_;exact Ai ⟨k.trans f O, l, t _ (q.err1 A D), rfl⟩
  rintro u w5 ⟨f, a, c2, D, q5, c, rfl, H⟩;have h5 := R.next f q5
  have a5 := q.less A D;have o5 := Ad P f (fun g z => by have := j g z; simp; omega);have F5 := y.E f (fun b S => by have := S.1; simp [fresh] at this ⊢; omega);have a4 := k.trans f O;have a0 := (reqR).lt H;have z5 := f.size;have B := (reqR).len H;have a1 := (reqR).one H;obtain ⟨u0, u1, u2, u3, u4, u5, u6, u7, a3⟩ := cells8' B;refine AL (out := c) rfl U (by rw [madeReq, a3]; rfl) (fun w6 d => ?_);have z6 := d.size;have o6 := d.own (n := 1) (size := 8) B Dq (Nat.le_refl _);have a7 := h.st.cnt;refine Ak (ok := AZ) (v := v) (sv := .slice (sm w5.heap.size) 1 1) rfl rfl (Aa o5 d.E) (AV o6 fun _ _ => trivial) U rfl B a1 U U U (fun F w7 i => go ?_);have o7 := i.own;have h7 := (h5.ext d.E).E i.E (fun x V => by have := j x (Option.mem_toList.1 V); omega)
  have T : ∀ b, F.ownBlock = some b → v.ownBlock = some b ∨ b = w6.heap.size := fun b S => by
   rcases i.D with e | e
   ·exact .inl EE
   ·rw [e] at S; exact .inr (Option.some.inj S).symm
  have F7 : RsAt (reqR) (fun b => fresh w b ∧ F.ownBlock ≠ some b) w7 L l := by
   refine ((F5.lt.ext d.E).E i.E ?_).mono ?_
   ·rintro b ⟨⟨_, S⟩, _⟩ V; exact S (Option.mem_toList.1 V)
   ·rintro b ⟨⟨h1, S⟩, I⟩;refine ⟨h1, fun e => ?_⟩;rcases T b e with e | e
    ·exact S e
    ·omega
  have f7 : (reqR).fits (fun b => fresh w b ∧ F.ownBlock ≠ some b) w7 c a := by
   refine (reqR).mono ((reqR).E ((reqR).ext a0 d.E) i.E ?_) ?_
   ·rintro b ⟨S, I⟩ V;have := j b (Option.mem_toList.1 V);simp [fresh] at S; omega
   ·rintro b ⟨S, I⟩;simp only [fresh] at S ⊢;refine ⟨by omega, fun e => ?_⟩;rcases T b e with e | e
    ·have := j b e; omega
    ·omega
  refine ⟨(F, L ++ [c], l ++ [a], c2), ⟨rfl, ⟨rfl, rfl, rfl, trivial⟩, ⟨?_, h7, by simp only [List.length_append, List.length_cons, List.length_nil] at Q ⊢; omega, by simp only; omega, ?_, F7.snoc f7, fun r K => ?_⟩⟩, by simp only; omega⟩
  ·exact E8
  ·exact Ez
  ·rw [← prepL_app];exact t _ (q.step A D K)
 | false =>
  exact Eu
def reqsR : Rp (List Rqm) := listR reqR (by show 0 < 8; decide)
theorem reqs_form {ok : Nat → Prop} {w : World} {c : LV} {a : List Rqm} (h : reqsR.fits ok w c a) : ∃ M L, c = [.slice M a.length L] := by
 obtain ⟨p, d, F, E, _, x, _⟩ := h;exact ⟨F, E, by rw [d, x]⟩
theorem whileReqs_ok (E : Env) (N : Nat) (C g : FuncId) [AD Zp C] [AD Zp g] (v1 v2 : LV) (pm : G Bool) (Z : G (List Rqm)) (X : G (List (List Rqm))) (t : WhileP pm Z X) (w : World) (m : List Tok) (hM : MoreOk E w C v1 v2 pm)
  (hI : ItemR reqsR oneV E N g Z) (h : PW w E m) (hN : m.length ≤ N) :
  PDo E 110 [.func (.func C) v1.toArray v2.toArray, .func (.func g) #[pt E.s] #[]] w X m (fun w' v l => ∃ L, w'.ownsRow w.heap.size 52 1 v l.length L.flatten ∧ RsAt reqsR (fun b => fresh w b ∧ v.ownBlock ≠ some b) w' L l) := by
 have a6 := h.st.slt;unfold PDo;refine A5 Tryz.func110 rfl Tryz.ntmps110 nlr Dk (go ?_)
 refine Ah (α := Value × List (LV) × List _ × List Tok) (fun x => [(0, .func (.func C) v1.toArray v2.toArray), (1, .func (.func g) #[pt E.s] #[]), (5, x.1)])
  (fun x W => Keep [E.s] w W ∧ PW W E x.2.2.2 ∧ x.2.2.1.length + x.2.2.2.length ≤ m.length ∧ x.2.2.2.length ≤ m.length ∧ W.ownsRow w.heap.size 52 1 x.1 x.2.2.1.length x.2.1.flatten ∧ RsAt (reqsR) (fun b => fresh w b ∧ x.1.ownBlock ≠ some b) W x.2.1 x.2.2.1 ∧
   ∀ r, Run X x.2.2.2 r → Run X m (prepL x.2.2.1 r))
  (fun x => x.2.2.2.length) (.slice none 0 0, [], [], m) ⟨rfl, rfl, rfl, trivial⟩ ⟨Keep.refl _ _, h, by simp, Nat.le_refl _, ⟨by simp, .inl ⟨rfl, rfl⟩⟩, RsAt.nil, fun r B => by rw [prepL_nil]; exact B⟩ ?_
 rintro ⟨v, L, l, o⟩ w3 f3 ⟨k, R, Q, a2, P, y, A⟩;simp only at k R a2 Q P y A ⊢;refine go ?_;refine Av (v1 := v1) (v2 := v2) (vs := []) rfl (hM w3 o k R) rfl ?_;rintro _ p ⟨b, rfl, D, rfl⟩;have j : ∀ g, v.ownBlock = some g → w.heap.size ≤ g ∧ g < p.heap.size := fun g z => Ab P z;have z3 := k.size;refine go ?_;cases b with
 | true =>
  refine go ?_;refine Cu (v1 := [pt E.s]) (v2 := []) (vs := []) rfl (hI p o R U) rfl ?_ ?_;rotate_left
  ·rintro ch w5 ⟨f, l, F, rfl⟩;refine go ?_;exact Ai ⟨k.trans f O, l, A _ (t.err1 D F), rfl⟩
  rintro u w5 ⟨f, a, c2, F, q5, c, rfl, q⟩;have h5 := R.next f q5
  have a5 := t.less D F;have o5 := Ad P f (fun g z => by have := j g z; simp; omega);have F5 := y.E f (fun b S => by have := S.1; simp [fresh] at this ⊢; omega);have a4 := k.trans f O;have a0 := (reqsR).lt q;have z5 := f.size;have M := (reqsR).len q;have a1 := (reqsR).one q;obtain ⟨a8, a9, a3⟩ := reqs_form q;refine AL (out := c) rfl U (by rw [madeSl, a3]; rfl) (fun w6 d => ?_);have z6 := d.size;have o6 := d.own (n := 1) (size := 1) M Dq (Nat.le_refl _);have a7 := h.st.cnt;refine Ak (ok := AZ) (v := v) (sv := .slice (sm w5.heap.size) 1 1) rfl rfl (Aa o5 d.E) (AV o6 fun _ _ => trivial) U rfl M a1 U U U (fun H w7 i => go ?_);have o7 := i.own;have h7 := (h5.ext d.E).E i.E (fun x V => by have := j x (Option.mem_toList.1 V); omega)
  have T : ∀ b, H.ownBlock = some b → v.ownBlock = some b ∨ b = w6.heap.size := fun b S => by
   rcases i.D with e | e
   ·exact .inl EE
   ·rw [e] at S; exact .inr (Option.some.inj S).symm
  have F7 : RsAt (reqsR) (fun b => fresh w b ∧ H.ownBlock ≠ some b) w7 L l := by
   refine ((F5.lt.ext d.E).E i.E ?_).mono ?_
   ·rintro b ⟨⟨_, S⟩, _⟩ V; exact S (Option.mem_toList.1 V)
   ·rintro b ⟨⟨h1, S⟩, I⟩;refine ⟨h1, fun e => ?_⟩;rcases T b e with e | e
    ·exact S e
    ·omega
  have f7 : (reqsR).fits (fun b => fresh w b ∧ H.ownBlock ≠ some b) w7 c a := by
   refine (reqsR).mono ((reqsR).E ((reqsR).ext a0 d.E) i.E ?_) ?_
   ·rintro b ⟨S, I⟩ V;have := j b (Option.mem_toList.1 V);simp [fresh] at S; omega
   ·rintro b ⟨S, I⟩;simp only [fresh] at S ⊢;refine ⟨by omega, fun e => ?_⟩;rcases T b e with e | e
    ·have := j b e; omega
    ·omega
  refine ⟨(H, L ++ [c], l ++ [a], c2), ⟨rfl, ⟨rfl, rfl, rfl, trivial⟩, ⟨?_, h7, by simp only [List.length_append, List.length_cons, List.length_nil] at Q ⊢; omega, by simp only; omega, ?_, F7.snoc f7, fun r B => ?_⟩⟩, by simp only; omega⟩
  ·exact E8
  ·exact Ez
  ·rw [← prepL_app];exact A _ (t.step D F B)
 | false =>
  refine go ?_;have hS := AV (ok := fresh w) P (fun g z => (j g z).1);obtain ⟨sa, sc, rfl, _⟩ := id hS;refine go ?_;have K := A _ (t.done D);simp only [prepL, List.append_nil] at K;exact AA rfl ⟨k, l, o, K, R.st, L, P, y⟩
end
section
variable {mk : Prop} [MK mk]
attribute [local semireducible] WC AO Bi BH Be Cq DN BU
variable {P : Program} {all : Array Oper}
theorem stepP_mono {o : Oper} {f : Fr} {ds : DS} {w : World} {K K' : Value → DS → World → Prop} {Z a : List PanicEntry → World → Prop} (u : ∀ v ds w, K v ds w → K' v ds w) (D : ∀ c w, Z c w → a c w) (h : BU P o f ds w K Z) : BU P o f ds w K' a := by
 unfold BU at h ⊢;revert h;generalize (execOp (ev f) o).run P w = res;intro h;cases res with
 | halt x w' => cases x <;> first | exact h.elim | exact D _ _ h
 | ok m w' =>
  cases m with
  | value v => exact u _ _ _ h
  | skip => exact u _ _ _ h
  | defer d => exact u _ _ _ h
  | enter g args =>
   refine Calls.mono h fun e b F => ?_;cases e with
   | returned v => exact u _ _ _ F
   | panicked ch => exact D _ _ F
   | outgrown => exact F
  | round l g tmps assign body =>
   refine RoundIn.mono h fun e b F => ?_;cases e with
   | returned v => exact u _ _ _ F
   | panicked ch => exact D _ _ F
   | outgrown => exact F
  | _ => exact h.elim
theorem WOps_mono {Z b : Fr → DS → List PanicEntry → World → Prop} {K K' : Fr → DS → World → Prop} (u : ∀ f ds w, K f ds w → K' f ds w) (D : ∀ f ds c w, Z f ds c w → b f ds c w) : ∀ (l : List Oper) (f : Fr) (ds : DS) (w : World), AO P all Z K l f ds w → AO P all b K' l f ds w
 | [], f, ds, w, h => u f ds w h
 | o :: rest, f, ds, w, h => by
  unfold AO at h ⊢
  split at h
  ·rename_i hg;rw [if_pos hg];exact stepP_mono (fun v ds w a => WOps_mono u D rest _ ds w a) (fun c w a => D _ _ _ _ a) h
  ·rename_i hg;rw [if_neg hg];exact WOps_mono u D rest _ ds w h
theorem WC_mono {n : Cf} : ∀ (c : Code) {Q d : DQ} (_ : ∀ e f ds w, Q e f ds w → d e f ds w) (f : Fr) (ds : DS) (w : World), WC P n c Q f ds w → WC P n c d f ds w
 | .skip, _, _, hQ, f, ds, w, h => hQ _ f ds w h
 | .label _, _, _, hQ, f, ds, w, h => hQ _ f ds w h
 | .ret, _, _, hQ, f, ds, w, h => hQ _ f ds w h
 | .exit _, _, _, hQ, f, ds, w, h => hQ _ f ds w h
 | .goto _, _, _, _, _, _, _, h => h.elim
 | .refuse _, _, _, _, _, _, _, h => h.elim
 | .seq a b, _, _, hQ, f, ds, w, h => by
  refine WC_mono a ?_ f ds w h;intro e f ds w u;cases e with
  | normal => exact WC_mono b hQ f ds w u
  | _ => exact hQ _ f ds w u
 | .block id c, _, _, hQ, f, ds, w, h => by
  refine WC_mono c ?_ f ds w h;intro e f ds w u;cases e with
  | exit i =>
   simp only [BH] at u ⊢
   split at u
   ·rename_i hi; rw [if_pos hi]; exact hQ _ f ds w u
   ·rename_i hi; rw [if_neg hi]; exact hQ _ f ds w u
  | _ => exact hQ _ f ds w u
 | .scope c, _, _, hQ, f, ds, w, h => by
  refine WC_mono c ?_ f ds w h;intro e f ds w u;cases e with
  | goto _ => exact u
  | _ => exact hQ _ f ds w u
 | .cond c x y, _, _, hQ, f, ds, w, h => by
  simp only [WC] at h ⊢;cases hc : ev f c <;> simp only [hc] at h ⊢
  case bool b =>
   cases b with
   | true => exact WC_mono x hQ f ds w h
   | false => exact WC_mono y hQ f ds w h
 | .region id ops draw, _, _, hQ, f, ds, w, h => by
  cases draw with
  | false => exact WOps_mono (fun f ds w u => hQ _ f ds w u) (fun f ds c w u => hQ _ f ds w u) ops.toList f ds w h
  | true => exact fun a X W R => wpIn_mono (h a X W R) (lift_mono hQ)
 | .loop c, _, _, hQ, f, ds, w, h => by
  obtain ⟨α, I, μ, x, s, B⟩ := h;refine ⟨α, I, μ, x, s, fun x f ds w E => WC_mono c ?_ f ds w (B x f ds w E)⟩;intro e f ds w u;cases e with
  | normal => exact u
  | _ => exact hQ _ f ds w u
 | .rangeFunc g ps qs body, _, _, hQ, f, ds, w, h => fun a X W R => wpIn_mono (h a X W R) (lift_mono hQ)
def joinQ {α : Type} (L : α → List (Nat × Value)) (I : α → World → Prop) (ds : DS) (Q : DQ) : DQ
 | .normal => fun g a Z => ∃ x, a = ds ∧ agr (L x) g ∧ I x Z
 | e => Q e
section
variable {n : Cf} {Q : DQ} {f : Fr} {ds : DS} {w : World} {α : Type} {L : α → List (Nat × Value)} {I : α → World → Prop} {ds0 : DS}
theorem C_mid {a : Code} {K : Fr → DS → World → Prop} (L : α → List (Nat × Value)) (I : α → World → Prop) (X : WC P n a (joinQ L I ds Q) f ds w) (W : ∀ x w' g, I x w' → K (ov (L x) g) ds w') : WC P n a (Bi K Q) f ds w := by
 refine WC_mono a ?_ f ds w X;intro e g b w' u;cases e with
 | normal =>
  obtain ⟨x, rfl, H, E⟩ := u;have := W x w' g E;rw [ov_of_agr H] at this;exact this
 | _ => exact u
theorem Aw (x : α) (H : agr (L x) f) (E : I x w) : joinQ L I ds Q .normal f ds w := ⟨x, rfl, H, E⟩
instance : Nx (joinQ L I ds0 Q .ret f ds w) (0 = 0) (Q .ret f ds w) := ⟨fun _ h => h⟩
instance {i : Nat} : Nx (joinQ L I ds0 Q (.exit i) f ds w) (0 = 0) (Q (.exit i) f ds w) := ⟨fun _ h => h⟩
instance {c : List PanicEntry} : Nx (joinQ L I ds0 Q (.panic c) f ds w) (0 = 0) (Q (.panic c) f ds w) := ⟨fun _ h => h⟩
end
theorem fin_retA2 {P : Program} {fn : Func} {R : Value → World → Prop} {Y : List PanicEntry → World → Prop} {f : Fr} {w : World} {t u x T n b : Nat} {L : LV} [hT : AggT P T n] (B : fn.results.toList = [.cell t T, .tmp u, .tmp x]) (H : f t = .pointer (sm b)) (M : L.length = n) (a : Cells w b 0 L) (h : R (.tuple #[.agg L.toArray, f u, f x]) w) : Cq P fn R Y .ret f [] w :=
 ⟨rfl, by rw [B]; exact ⟨_, _, H, DY hT M a, h⟩⟩
attribute [irreducible] joinQ
end
section
variable {mk : Prop} [MK mk]
def zero8 : LV := [AI [], AI [], iV 0, iV 0, AI [], iV 0, iV 0, .slice none 0 0]
theorem signal_ok (E : Env) (N : Nat) : ItemR sgnR aggV E N 109 (body .signal) := by
 intro w ts h hN;have a9 := h.st.slt;unfold PDo;refine A5 Tryz.func109 rfl Tryz.ntmps109 nlr Dk (go ?_);refine AQ (fun Q D => ?_);have b1 : Blk Q w.heap.size 125 [AI [], .bool false, iV 0] := D.D;have z1 := D.size;have h1 := h.ext D.E;have k1 : Keep [E.s] w Q := D.E.any;refine go ?_;refine AC (B0 E Q ts [105, 110, 112, 117, 116] h1.st) rfl ?_;rintro _ z ⟨C, i, Z, rfl, l, q2⟩;have h2 := h1.next C q2
 have b2 := b1.E C Dm;have a3 := k1.trans C O;have z2 := C.size;refine go ?_;refine An (cs := [AI [], .bool i, iV 2]) rfl rfl Dn (by intro u r; simp at r; rcases r with rfl | rfl | rfl <;> rfl) (fun w3 e => ?_);have P := h2.ext e.E;have b3 := b2.E e.E O;have z3 := e.size;have e3 := e.D;have d := a3.ext e.E;refine go ?_
 refine C_mid (α := List Tok) (fun _ => [(0, pt E.s), (2, pt w.heap.size), (3, pt z.heap.size)])
  (fun t W => Run (if i then .ret () else Cz [111, 117, 116, 112, 117, 116] : G Unit) Z (.ok ((), t)) ∧ PW W E t ∧ Keep [E.s] w W ∧ w3.heap.size ≤ W.heap.size ∧ Blk W w.heap.size 125 [AI [], .bool false, iV 0] ∧ Blk W z.heap.size 125 [AI [], .bool i, iV 2]) ?_ ?_
 ·cases i with
  | true =>
   refine go ?_;exact Aw Z ⟨rfl, rfl, rfl, trivial⟩ ⟨Run.ret _ _, P, d, Nat.le_refl _, b3, e3⟩
  | false =>
   refine go ?_;refine Ap (Cy E w3 Z [111, 117, 116, 112, 117, 116] P.st) rfl ?_ ?_;rotate_left
   ·rintro F M ⟨L, K, I, rfl⟩;refine go ?_;exact Ai ⟨d.trans L O, K, l.bind (Run.bindE I), rfl⟩
   rintro v w4 ⟨R, _, t4, k, q4, rfl⟩;refine go ?_;exact Aw t4 ⟨rfl, rfl, rfl, trivial⟩ ⟨k, P.next R q4, d.trans R O, R.size, b3.E R Dm, e3.E R Dm⟩
 rintro t4 w4 f4 ⟨k, S, a0, z4, b4, e4⟩;refine go ?_;refine Ap (pname_ok E w4 t4 S.st S.gk) rfl ?_ ?_;rotate_left
 ·rintro F M ⟨L, K, I, rfl⟩;refine go ?_;exact Ai ⟨a0.trans L O, K, l.bind (k.bind (Run.bindE I)), rfl⟩
 rintro v w5 ⟨f, s, t5, g, q5, rfl, hs⟩;have h5 := S.next f q5
 have b5 := b4.E f Dm;have e5 := e4.E f Dm;have a4 := a0.trans f O;have z5 := f.size;refine go ?_;refine AN rfl rfl rfl e5 O (fun w6 p => ?_);have h6 := h5.E p.E Dm;have b6 := b5.E p.E Dm;have e6 : Blk w6 z.heap.size 125 [AI s, .bool i, iV 2] := p.D;have a5 := a4.trans p.E Dm;have z6 := p.size;refine go ?_;refine AC (B0 E w6 t5 [58] h6.st) rfl ?_;rintro _ w7 ⟨o, c, t7, rfl, H, q7⟩;have m := h6.next o q7
 have b7 := b6.E o Dm;have e7 := e6.E o Dm;have T := a5.trans o O;have z7 := o.size;refine go ?_
 refine C_mid (α := List Tok × Int) (fun _ => [(0, pt E.s), (2, pt w.heap.size), (3, pt z.heap.size)])
  (fun x W => Run ((BR [58]).bind fun b => if b then numberG else .ret 2) t5 (.ok (x.2, x.1)) ∧ PW W E x.1 ∧ Keep [E.s] w W ∧ w3.heap.size ≤ W.heap.size ∧ Blk W w.heap.size 125 [AI [], .bool false, iV 0] ∧ Blk W z.heap.size 125 [AI s, .bool i, iV x.2]) ?_ ?_
 ·cases c with
  | true =>
   refine go ?_;refine Ap (number_ok E w7 t7 m.st) rfl ?_ ?_;rotate_left
   ·rintro F M ⟨L, K, I, rfl⟩;refine go ?_;exact Ai ⟨T.trans L O, K, l.bind (k.bind (g.bind (Run.bindE (H.bind I)))), rfl⟩
   rintro v w8 ⟨q, n, t8, j, q8, rfl, a7, a8⟩;have B := m.next q q8
   have V := b7.E q Dm;have A := e7.E q Dm;have z8 := q.size;refine go ?_;refine AN rfl rfl rfl A O (fun w9 y => ?_);have z9 := y.size;refine go ?_;exact Aw (t8, n) ⟨rfl, rfl, rfl, trivial⟩ ⟨H.bind j, B.E y.E Dm, (T.trans q O).trans y.E Dm, by omega, V.E y.E Dm, y.D⟩
  | false =>
   refine go ?_;exact Aw (t7, 2) ⟨rfl, rfl, rfl, trivial⟩ ⟨H.bind (Run.ret _ _), m, T, by omega, b7, e7⟩
 rintro ⟨t8, n⟩ w8 f8 ⟨j, B, a1, z8, V, A⟩;simp only at j B A;refine go ?_;refine Ap (Cy E w8 t8 [59] B.st) rfl ?_ ?_;rotate_left
 ·rintro F M ⟨L, K, I, rfl⟩;refine go ?_;exact Ai ⟨a1.trans L O, K, l.bind (k.bind (g.bind (j.bind (Run.bindE I)))), rfl⟩
 rintro v w9 ⟨a, _, t9, r9, q9, rfl⟩;have b9 := V.E a Dm;have e9 := A.E a Dm;refine go ?_;refine AE (cs := [AI s, .bool i, iV n]) rfl rfl rfl (by intro u r; simp at r; rcases r with rfl | rfl | rfl <;> rfl) b9 O (fun a6 X => ?_);refine go ?_;have a2 : Blk a6 w.heap.size 125 [AI s, .bool i, iV n] := X.D;exact AT rfl rfl rfl a2.cells ⟨(a1.trans a O).trans X.E Dm, ⟨s, i, n⟩, t9, l.bind (k.bind (g.bind (j.bind (r9.bind (Run.ret _ _))))), q9.E X.E Dm, _, rfl, rfl⟩
theorem requirement_ok (E : Env) (N : Nat) : ItemR reqR aggV E N 198 (body .req) := by
 intro w ts h hN;have hsl := h.st.slt;unfold PDo;refine A5 Tryz.func198 rfl Tryz.ntmps198 nlr Dk (go ?_);refine AQ (fun Q B => ?_);have b1 : Blk Q w.heap.size 38 zero8 := B.D;have z1 := B.size;have h1 := h.ext B.E;have k1 : Keep [E.s] w Q := B.E.any;refine go ?_;refine An (cs := [AI [], AI [], iV 1, iV 0, AI [], iV 0, iV 0, .slice none 0 0]) rfl rfl Dn (by intro u r; simp at r; rcases r with rfl | rfl | rfl | rfl | rfl | rfl <;> rfl) (fun w3 e => ?_);have h3 := h1.ext e.E;have b3 := b1.E e.E O;have z3 := e.size;have e3 := e.D;have a8 := k1.ext e.E;refine go ?_;refine AC (B0 E w3 ts [97, 115, 115, 117, 109, 101] h3.st) rfl ?_;rintro _ w2 ⟨l, i, j, rfl, o, q2⟩;have F := h3.next l q2
 have b2 := b3.E l Dm;have e2 := e3.E l Dm;have H := a8.trans l O;have z2 := l.size;refine go ?_
 refine C_mid (α := List Tok × Int) (fun _ => [(0, pt E.s), (2, pt w.heap.size), (3, pt Q.heap.size)])
  (fun x W => Run (if i then .ret 1 else (Cz [103, 117, 97, 114, 97, 110, 116, 101, 101]).bind fun _ => .ret 2 : G Int) j (.ok (x.2, x.1)) ∧ PW W E x.1 ∧ Keep [E.s] w W ∧ w3.heap.size ≤ W.heap.size ∧ Blk W w.heap.size 38 zero8 ∧ Blk W Q.heap.size 38 [AI [], AI [], iV x.2, iV 0, AI [], iV 0, iV 0, .slice none 0 0]) ?_ ?_
 ·cases i with
  | true =>
   refine go ?_;exact Aw (j, 1) ⟨rfl, rfl, rfl, trivial⟩ ⟨Run.ret _ _, F, H, by omega, b2, e2⟩
  | false =>
   refine go ?_;refine Ap (Cy E w2 j [103, 117, 97, 114, 97, 110, 116, 101, 101] F.st) rfl ?_ ?_;rotate_left
   ·rintro D M ⟨L, K, I, rfl⟩;refine go ?_;exact Ai ⟨H.trans L O, K, o.bind (Run.bindE (Run.bindE I)), rfl⟩
   rintro v w4 ⟨R, _, t4, a, q4, rfl⟩;have p := e2.E R Dm;have z4 := R.size;refine go ?_;refine AN rfl rfl rfl p O (fun w5 A => ?_);have z5 := A.size;refine go ?_;exact Aw (t4, 2) ⟨rfl, rfl, rfl, trivial⟩ ⟨a.bind (Run.ret _ _), (F.next R q4).E A.E Dm, (H.trans R O).trans A.E Dm, by omega, (b2.E R Dm).E A.E Dm, A.D⟩
 rintro ⟨t4, k⟩ w4 f4 ⟨a, z, a1, z4, b4, p⟩;simp only at a z p;refine go ?_;refine Ap (pname_ok E w4 t4 z.st z.gk) rfl ?_ ?_;rotate_left
 ·rintro D M ⟨L, K, I, rfl⟩;refine go ?_;exact Ai ⟨a1.trans L O, K, o.bind (a.bind (Run.bindE I)), rfl⟩
 rintro v w5 ⟨f, s, t5, V, q5, rfl, hs⟩;have h5 := z.next f q5
 have b5 := b4.E f Dm;have e5 := p.E f Dm;have a9 := a1.trans f O;have z5 := f.size;refine go ?_;refine AN rfl rfl rfl e5 O (fun w6 m => ?_);have h6 := h5.E m.E Dm;have b6 := b5.E m.E Dm;have e6 : Blk w6 Q.heap.size 38 [AI [], AI s, iV k, iV 0, AI [], iV 0, iV 0, .slice none 0 0] := m.D;have a2 := a9.trans m.E Dm;have z6 := m.size;refine go ?_;refine Ap (Cy E w6 t5 [58] h6.st) rfl ?_ ?_;rotate_left
 ·rintro D M ⟨L, K, I, rfl⟩;refine go ?_;exact Ai ⟨a2.trans L O, K, o.bind (a.bind (V.bind (Run.bindE I))), rfl⟩
 rintro v w7 ⟨n, _, t7, r7, q7, rfl⟩;have h7 := h6.next n q7
 have b7 := b6.E n Dm;have e7 := e6.E n Dm;have a3 := a2.trans n O;have z7 := n.size;refine go ?_;refine Ap ((formulas_ok E t7.length).2.2.2 w7 t7 h7 (Nat.le_refl _)) rfl ?_ ?_;rotate_left
 ·rintro D M ⟨L, K, I, rfl⟩;refine go ?_;exact Ai ⟨a3.trans L O, K, o.bind (a.bind (V.bind (r7.bind (Run.callE I)))), rfl⟩
 rintro v w8 ⟨q, g, t8, r8, q8, P⟩;have b8 := b7.E q Dm;have e8 := e7.E q Dm;have b0 := a3.trans q O;have z8 := q.size;obtain ⟨t, rfl, a6, a0⟩ := P.cells;obtain ⟨X, c, d, Z, T, rfl⟩ := AX a6;refine go ?_;refine AE (cs := [X, c, d, Z, T]) rfl rfl rfl a0 e8 O (fun w9 y => ?_);have b9 := b8.E y.E Dm;have e9 : Blk w9 Q.heap.size 38 [AI [], AI s, iV k, X, c, d, Z, T] := y.D;have f9 := P.E y.E Dv;have z9 := y.size;refine go ?_
 have a7 : oneC [AI [], AI s, iV k, X, c, d, Z, T] := by
  intro u r;simp only [List.mem_cons, List.not_mem_nil, or_false] at r;rcases r with rfl | rfl | rfl | r
  ·rfl
  ·rfl
  ·rfl
  ·exact a0 u (by simp only [List.mem_cons, List.not_mem_nil, or_false]; exact r)
 refine AE (cs := [AI [], AI s, iV k, X, c, d, Z, T]) rfl rfl rfl a7 b9 (by simp [zero8]) (fun w10 C => go ?_);have a4 : Blk w10 w.heap.size 38 [AI [], AI s, iV k, X, c, d, Z, T] := C.D;have a5 := f9.E C.E Dv;exact AT rfl rfl rfl a4.cells ⟨(b0.trans y.E Dm).trans C.E Dm, ⟨[], s, k, g⟩, t8, o.bind (a.bind (V.bind (r7.bind (Run.call r8 (Run.ret _ _))))), (q8.E y.E Dm).E C.E Dm, _, rfl, [X, c, d, Z, T], rfl, rfl, a5.mono fun b S => by simp only [fresh] at S ⊢; omega⟩
theorem line_ok (E : Env) (N : Nat) : ItemR reqR aggV E N 167 (body .line) := by
 intro w m h M;have a0 := h.st.slt;unfold PDo;refine A5 Tryz.func167 rfl Tryz.ntmps167 nlr Dk (go ?_);refine AQ (fun Q f => ?_);have k : Blk Q w.heap.size 38 zero8 := f.D;have z1 := f.size;have X := h.ext f.E;have g : Keep [E.s] w Q := f.E.any;refine go ?_;refine Ap (requirement_ok E N Q m X M) rfl ?_ ?_;rotate_left
 ·rintro q wq ⟨L, K, I, rfl⟩;refine go ?_;exact Ai ⟨g.trans L O, K, Run.callE I, rfl⟩
 rintro v w2 ⟨l, r, j, i, a, c, rfl, T⟩;have G := X.next l a
 have n := k.E l Dm;have P := g.trans l O;have z2 := l.size;have o : c.length = 8 := reqR.len T;have z := reqR.one T;refine An (cs := c) rfl o Dn z (fun Z e => ?_);have H := G.ext e.E;have t := n.E e.E O;have B := reqR.ext T e.E;have z3 := e.size;have y := e.D;have d := P.ext e.E;refine go ?_;refine Ap (Cy E Z j [59] H.st) rfl ?_ ?_;rotate_left
 ·rintro q wq ⟨L, K, I, rfl⟩;refine go ?_;exact Ai ⟨d.trans L O, K, Run.call i (Run.bindE I), rfl⟩
 rintro v w4 ⟨R, _, V, u, C, rfl⟩;have p := t.E R Dm;have W := y.E R Dm;have D := reqR.E B R Dv;have z4 := R.size;refine go ?_;refine Bh rfl W o ?_;refine AE (cs := c) rfl rfl o z p (by simp [zero8]) (fun w5 A => go ?_)
 have x : Blk w5 w.heap.size 38 c := by
  have := A.D;rw [BN zero8 c o] at this;exact this
 have F := reqR.E D A.E Dv;exact AT rfl rfl o x.cells ⟨(d.trans R O).trans A.E Dm, r, V, Run.call i (u.bind (Run.ret _ _)), C.E A.E Dm, c, rfl, reqR.mono F fun b S => by simp only [fresh] at S ⊢; omega⟩
theorem run_sees2 (s t : LU) (m : List Tok) : Run (sees2 s t) m (.ok (Cw s (m.head?.map bare) || Cw t (m.head?.map bare), m)) := Run.look (Run.ret _ _)
theorem opened_ok (E : Env) (w : World) : MoreOk E w 111 [pt E.s] [] (sees2 [112, 97, 114, 116] [112, 97, 114, 116]) := by
 intro w m _ h;show Fn Zp _ [pt E.s] _ _;refine AG Tryz.func111 rfl Tryz.ntmps111 (go ?_);refine AC (sees_ok E w m [112, 97, 114, 116] h.st) rfl ?_;rintro v Z ⟨rfl, rfl⟩;refine go ?_;refine AA rfl ⟨_, rfl, ?_, rfl⟩;have := run_sees2 [112, 97, 114, 116] [112, 97, 114, 116] m
 rwa [Bool.or_self] at this
theorem required_ok (E : Env) (w : World) : MoreOk E w 166 [pt E.s] [] (sees2 [97, 115, 115, 117, 109, 101] [103, 117, 97, 114, 97, 110, 116, 101, 101]) := by
 intro w m _ h;show Fn Zp _ [pt E.s] _ _;refine AG Tryz.func166 rfl Tryz.ntmps166 (go ?_);refine AC (sees_ok E w m [97, 115, 115, 117, 109, 101] h.st) rfl ?_;rintro v Z ⟨rfl, rfl⟩;have B := run_sees2 [97, 115, 115, 117, 109, 101] [103, 117, 97, 114, 97, 110, 116, 101, 101] m;cases hb : Cw [97, 115, 115, 117, 109, 101] (m.head?.map bare) with
 | true =>
  refine go ?_;refine AA rfl ⟨_, rfl, ?_, rfl⟩;rw [hb] at B; exact B
 | false =>
  refine go ?_;refine AC (sees_ok E Z m [103, 117, 97, 114, 97, 110, 116, 101, 101] h.st) rfl ?_;rintro v a ⟨rfl, rfl⟩;refine go ?_;refine AA rfl ⟨_, rfl, ?_, rfl⟩;rw [hb] at B; exact B
theorem declared_ok (E : Env) (x : World) (n : Nat) (V : Blk x n 121 [pt E.s]) (H : n ≠ E.s) : MoreOk E x 106 [] [pt n] (sees2 [105, 110, 112, 117, 116] [111, 117, 116, 112, 117, 116]) := by
 intro w m P h;show Fn Zp _ [pt n] _ _;refine AG Tryz.func106 rfl Tryz.ntmps106 (go ?_);refine AC (sees_ok E w m [105, 110, 112, 117, 116] h.st) rfl ?_;rintro v Z ⟨rfl, rfl⟩;have B := run_sees2 [105, 110, 112, 117, 116] [111, 117, 116, 112, 117, 116] m;cases hc : Cw [105, 110, 112, 117, 116] (m.head?.map bare) with
 | true =>
  refine go ?_;refine AA rfl ⟨_, rfl, ?_, rfl⟩;rw [hc] at B; exact B
 | false =>
  refine go ?_;refine AC (sees_ok E Z m [111, 117, 116, 112, 117, 116] h.st) rfl ?_;rintro v a ⟨rfl, rfl⟩;refine go ?_;refine AA rfl ⟨_, rfl, ?_, rfl⟩;rw [hc] at B; exact B
theorem expect_inv {t : LU} {m s : List Tok} {u : Unit} (h : Run (Cz t) m (.ok (u, s))) : s.length + 1 = m.length := by
 cases hs : Cw t (m.head?.map bare) with
 | true =>
  have e := h.det (run_expect_t hs);cases e;cases m with
  | nil => simp [Cw] at hs
  | cons x l => rfl
 | false => have e := h.det (run_expect_f hs); cases e
theorem name_inv {m a : List Tok} {s : LU} (h : Run nameG m (.ok (s, a))) : a.length + 1 = m.length := by
 cases m with
 | nil => cases h.det (Run.look (Run.fail _))
 | cons x l =>
  cases hb : (decide (x.kind = 1) && CJ x.text) with
  | true =>
   have B : Run nameG (x :: l) (.ok (x.text, l)) := by
    refine Run.look ?_;show Run (if (decide (x.kind = 1) && CJ x.text) = true then _ else _) _ _;rw [if_pos hb]; exact Run.next (Run.ret _ _)
   cases h.det B; rfl
  | false =>
   have B : Run nameG (x :: l) (.error (x :: l)) := by
    refine Run.look ?_;show Run (if (decide (x.kind = 1) && CJ x.text) = true then _ else _) _ _;rw [hb]; exact Run.fail _
   cases h.det B
theorem Run.le {α : Type} {p : G α} {l A : List Tok} {a : α} (h : Run p l (.ok (a, A))) : A.length ≤ l.length := (show A <:+ l from h.suffix).length_le
theorem Co {α β : Type} {p : G α} {q : α → G β} {l A : List Tok} {b : β} (h : Run (p.bind q) l (.ok (b, A))) : ∃ a g, Run p l (.ok (a, g)) ∧ Run (q a) g (.ok (b, A)) := by
 rcases h.bind_inv with ⟨a, g, X, W⟩ | ⟨e, _, W⟩
 ·exact ⟨a, g, X, W⟩
 ·cases W
theorem call_ok {α : Type} {v : NT} {k : v.T → G α} {l A : List Tok} {b : α} (h : Run (.call v k) l (.ok (b, A))) : ∃ a g, RunN v l (.ok (a, g)) ∧ Run (k a) g (.ok (b, A)) := by
 rcases h.call_inv with ⟨a, g, X, W⟩ | ⟨e, _, W⟩
 ·exact ⟨a, g, X, W⟩
 ·cases W
theorem signal_less {t j : List Tok} {a : Sgn} (h : Run (body .signal) t (.ok (a, j))) : j.length < t.length := by
 exact FI
theorem req_less {t j : List Tok} {a : Rqm} (h : Run (body .req) t (.ok (a, j))) : j.length < t.length := by
 exact FI
theorem line_less {t j : List Tok} {a : Rqm} (h : Run (body .line) t (.ok (a, j))) : j.length < t.length := by
 obtain ⟨r, Z, o, h⟩ := call_ok h;have := req_less o; have := h.le;omega
theorem part_less {t j : List Tok} {a : List Rqm} (h : Run (body .part) t (.ok (a, j))) : j.length < t.length := by
 obtain ⟨_, Z, o, h⟩ := Co h;have := expect_inv o; have := h.le;omega
theorem whileP_sig : WhileP (sees2 [105, 110, 112, 117, 116] [111, 117, 116, 112, 117, 116]) (body .signal) (body .sigs) where
 done h := h.bind (Run.ret _ _)
 more h h1 h2 := h.bind (Run.call h1 (Run.call h2 (Run.ret _ _)))
 err1 h h1 := h.bind (Run.callE h1)
 err2 h h1 h2 := h.bind (Run.call h1 (Run.callE h2))
 less _ h := signal_less h
theorem whileP_lines : WhileP (sees2 [97, 115, 115, 117, 109, 101] [103, 117, 97, 114, 97, 110, 116, 101, 101]) (body .line) (body .lines) where
 done h := h.bind (Run.ret _ _)
 more h h1 h2 := h.bind (Run.call h1 (Run.call h2 (Run.ret _ _)))
 err1 h h1 := h.bind (Run.callE h1)
 err2 h h1 h2 := h.bind (Run.call h1 (Run.callE h2))
 less _ h := line_less h
theorem whileP_parts : WhileP (sees2 [112, 97, 114, 116] [112, 97, 114, 116]) (body .part) (body .parts) where
 done h := h.bind (Run.ret _ _)
 more h h1 h2 := h.bind (Run.call h1 (Run.call h2 (Run.ret _ _)))
 err1 h h1 := h.bind (Run.callE h1)
 err2 h h1 h2 := h.bind (Run.call h1 (Run.callE h2))
 less _ h := part_less h
theorem own_blkN {w : World} {B e n size : Nat} {a : Option Addr} {cap : Nat} {xs : LV} (h : w.ownsRow B e size (.slice a n cap) n xs) (G : 0 < n) :
  ∃ g L, a = some ⟨g, 0, none⟩ ∧ B ≤ g ∧ Blk w g e L ∧ n * size ≤ L.length ∧ ∀ w' i u, Put w w' g e (L.set i u) → w'.ownsRow B e size (.slice a n cap) n (xs.set i u) := by
 obtain ⟨M, q⟩ := h;rcases q with ⟨_, rfl⟩ | ⟨g, Q, o, q, c, z, X, W, R, b⟩
 ·omega
 ·cases q;refine ⟨g, o.toList, rfl, c, by simpa [Blk] using z, ?_, fun w' i u v => ⟨by simpa using M, .inr ⟨g, cap, (o.toList.set i u).toArray, rfl, c, v.D, X, W, by simpa using R, ?_⟩⟩⟩
  ·have := congrArg List.length b;simp at this;rw [M] at this;simp; omega
  ·show ((o.toList.set i u).toArray.toList.take (n * size)) = _;rw [← b, List.take_set]
theorem flatten_set (n : Nat) (u : Value) : ∀ (L : List (LV)) (k j : Nat) (c : LV), (∀ c ∈ L, c.length = n) → L[k]? = some c → j < n → L.flatten.set (k * n + j) u = (L.set k (c.set j u)).flatten
 | [], k, j, c, _, h, _ => by simp at h
 | d :: L, 0, j, c, h5, h, hj => by
  simp at h; subst h;have := h5 d O;rw [Nat.zero_mul, Nat.zero_add, List.flatten_cons, List.set_append_left _ _ U];rfl
 | d :: L, k + 1, j, c, h5, h, hj => by
  have C := h5 d O;rw [List.flatten_cons, List.set_append_right _ _ (by rw [C, Nat.succ_mul]; omega), C, show (k + 1) * n + j - n = k * n + j by rw [Nat.succ_mul]; omega];rw [flatten_set n u L k j c (fun c T => h5 c Dw) Dy hj];rfl
def inPart (s : LU) (r : Rqm) : Rqm := ⟨s, r.name, r.kind, r.formula⟩
def upTo {α : Type} (f : α → α) (k : Nat) (l : List α) : List α := (l.take k).map f ++ l.drop k
theorem upTo_get {α : Type} (f : α → α) {k : Nat} {l : List α} (P : k ≤ l.length) (i : Nat) : (upTo f k l)[i]? = if i < k then (l[i]?).map f else l[i]? := by
 unfold upTo
 split
 ·rename_i h;rw [List.getElem?_append_left Dl, List.getElem?_map, List.getElem?_take, if_pos h]
 ·rename_i h;rw [List.getElem?_append_right Dl, List.getElem?_drop]
  congr 1
  simp; omega
theorem upTo_len {α : Type} (f : α → α) (k : Nat) (l : List α) (P : k ≤ l.length) : (upTo f k l).length = l.length := by simp [upTo]; omega
theorem part_ok (E : Env) (N : Nat) : ItemR reqsR oneV E N 112 (body .part) := by
 intro w ts h hN;have b9 := h.st.slt;unfold PDo;refine A5 Tryz.func112 rfl Tryz.ntmps112 nlr Dk (go ?_);refine Ap (Cy E w ts [112, 97, 114, 116] h.st) rfl ?_ ?_;rotate_left
 ·rintro q A ⟨e, K, I, rfl⟩;refine go ?_;exact Ai ⟨(Keep.refl [E.s] w).trans e O, K, Run.bindE I, rfl⟩
 rintro v w1 ⟨B, _, t1, o, q1, rfl⟩;have X := h.next B q1
 refine go ?_;refine Ap (pname_ok E w1 t1 X.st X.gk) rfl ?_ ?_;rotate_left
 ·rintro q A ⟨e, K, I, rfl⟩;refine go ?_;exact Ai ⟨B.trans e O, K, o.bind (Run.bindE I), rfl⟩
 rintro v w2 ⟨k2, s, t2, t, q2, rfl, hs⟩;have H := X.next k2 q2
 have a4 := B.trans k2 O;refine go ?_;refine Ap (Cy E w2 t2 [123] H.st) rfl ?_ ?_;rotate_left
 ·rintro q A ⟨e, K, I, rfl⟩;refine go ?_;exact Ai ⟨a4.trans e O, K, o.bind (t.bind (Run.bindE I)), rfl⟩
 rintro v u ⟨G, _, t3, Q, q3, rfl⟩;have R := H.next G q3
 have F := a4.trans G O;refine go ?_;refine Ap (whileReq_ok E t3.length _ _ [pt E.s] [] _ _ _ whileP_lines u t3 (required_ok E u) (line_ok E _) R (Nat.le_refl _)) rfl ?_ ?_;rotate_left
 ·rintro q A ⟨e, K, I, rfl⟩;refine go ?_;exact Ai ⟨F.trans e O, K, o.bind (t.bind (Q.bind (Run.callE I))), rfl⟩
 rintro v w4 ⟨k4, l, t4, r4, q4, L, p, F4⟩;have T := R.next k4 q4
 have a5 := F.trans k4 O
 obtain ⟨a, c, rfl⟩ : ∃ a c, v = .slice a l.length c := by
  rcases p.2 with ⟨rfl, h0⟩ | ⟨g, b4, b5, rfl, _⟩
  ·exact ⟨none, 0, by rw [h0]⟩
  ·exact ⟨_, _, rfl⟩
 have b8 : l.length ≤ 9223372036854775807 := by
  obtain ⟨_, _, hv, g1, g2, _⟩ := AV (ok := AZ) p fun _ _ => trivial;cases hv; omega
 refine go ?_;refine Ap (Cy E w4 t4 [125] T.st) rfl ?_ ?_;rotate_left
 ·rintro q A ⟨e, K, I, rfl⟩;refine go ?_;exact Ai ⟨a5.trans e O, K, o.bind (t.bind (Q.bind (Run.call r4 (Run.bindE I)))), rfl⟩
 rintro v w5 ⟨f, _, t5, r5, q5, rfl⟩;have h5 := T.next f q5
 have b3 := a5.trans f O;have c0 := F.size;have a2 : ∀ g, (Value.slice a l.length c).ownBlock = some g → u.heap.size ≤ g ∧ g < w4.heap.size := fun g z => Ab p z;have o5 := Ad p f (fun g z => by have := a2 g z; simp; omega);have F5 := F4.E f (fun b S => by have := S.1; simp [fresh] at this ⊢; omega);refine go ?_
 refine Ah (α := Nat) (fun k => [(3, AI s), (4, .slice a l.length c), (20, iV (l.length : Int)), (21, iV (k : Int))])
  (fun k W => k ≤ l.length ∧ Keep [E.s] w W ∧ PSt W E t5 ∧ ∃ M, W.ownsRow u.heap.size 38 8 (.slice a l.length c) l.length M.flatten ∧ RsAt reqR (fun b => fresh u b ∧ (Value.slice a l.length c).ownBlock ≠ some b) W M (upTo (inPart s) k l)) (fun k => l.length - k) 0 ⟨rfl, rfl, rfl, rfl, trivial⟩
  ⟨by omega, b3, q5, L, o5, by simpa [upTo] using F5⟩ ?_
 rintro k w6 f6 ⟨P, k6, q6, M, o6, j⟩;refine go ?_;by_cases y : k < l.length
 ·obtain ⟨g, Lc, rfl, hB, S, b6, b0⟩ := own_blkN o6 U;have b7 : k * 8 + 8 ≤ l.length * 8 := by omega
  have a3 := upTo_len (inPart s) k l P;obtain ⟨n, D⟩ : ∃ n, M[k]? = some n := ⟨_, List.getElem?_eq_getElem (by rw [j.1, a3]; exact y)⟩;obtain ⟨r, hr⟩ : ∃ r, l[k]? = some r := ⟨_, List.getElem?_eq_getElem y⟩;have b1 : (upTo (inPart s) k l)[k]? = some r := by rw [upTo_get _ P, if_neg U, hr]
  have a8 := j.2 k n r D b1;refine go ?_;refine AN (v := AI s) rfl rfl rfl S U (fun w7 m => go ?_);have e0 : 0 + k * 8 + 0 = k * 8 + 0 := by omega
  rw [e0] at m;have o7 := b0 w7 _ _ m;have a9 := flatten_set 8 (AI s) M k 0 n j.len D U;rw [a9] at o7;have z3 := G.size;refine ⟨k + 1, ⟨rfl, ⟨rfl, rfl, rfl, ?_, trivial⟩, ⟨by omega, k6.trans m.E (fun x V y => by simp at V; omega), q6.E m.E (fun x V => by simp at V; omega), _, o7, ?_⟩⟩, by omega⟩
  ·show iV ((k : Int) + 1) = _;rw [Int.natCast_add]; rfl
  ·refine ⟨by rw [List.length_set, j.1, upTo_len _ _ _ P, upTo_len _ _ _ U], fun i d x C V => ?_⟩;have a0 : ∀ b, (fresh u b ∧ (Value.slice (sm g) l.length c).ownBlock ≠ some b) → b ∉ [g] := fun b S V => S.2 (by simp at V; subst V; rfl);rw [upTo_get _ U] at V;rw [List.getElem?_set] at C;by_cases Z : k = i
   ·subst Z;rw [if_pos rfl, if_pos (by rw [j.1, a3]; exact y)] at C;cases C;rw [if_pos U, hr] at V;cases V;obtain ⟨d, rfl, a6, a7⟩ := a8;exact ⟨d, rfl, a6, a7.E m.E a0⟩
   ·rw [if_neg Z] at C
    have b2 : (upTo (inPart s) k l)[i]? = some x := by
     rw [upTo_get _ P];by_cases X : i < k
     ·rw [if_pos X]; rwa [if_pos U] at V
     ·rw [if_neg X]; rwa [if_neg U] at V
    exact reqR.E (j.2 i d x C b2) m.E a0
 ·obtain rfl : k = l.length := by omega
  refine go ?_;have hm : upTo (inPart s) l.length l = l.map (inPart s) := by simp [upTo]
  rw [hm] at j;have S6 := AV (ok := fresh w) o6 (fun g z => by have := a2 g z; simp only [fresh]; omega);have a1 : (l.map (inPart s)).length = l.length := by simp
  refine AA rfl ⟨k6, l.map (inPart s), t5, o.bind (t.bind (Q.bind (Run.call r4 (r5.bind (Run.ret _ _))))), q6, [.slice a l.length c], rfl, _, rfl, a, c, M, by rw [a1], by rw [a1]; exact S6, j.mono fun b S => by have := S.1; simp only [fresh] at this ⊢; omega⟩
theorem sees2_inv {s t : LU} {m a : List Tok} {b : Bool} (h : Run (sees2 s t) m (.ok (b, a))) : a = m := by
 cases h.det (run_sees2 s t m); rfl
theorem lines_cnt : ∀ (n : Nat) (t T : List Tok) (l : List Rqm), t.length ≤ n → Run (body .lines) t (.ok (l, T)) → l.length + T.length ≤ t.length := by
 intro n
 induction n with
 | zero =>
  intro t T l G h;obtain ⟨b, Z, o, h⟩ := Co h;have e := sees2_inv o;subst e;cases b with
  | true =>
   obtain ⟨r, j, a, h⟩ := call_ok h;have := line_less a; omega
  | false => cases h.det (Run.ret _ _); simp
 | succ n ih =>
  intro t T l G h;obtain ⟨b, Z, o, h⟩ := Co h;have e := sees2_inv o;subst e;cases b with
  | true =>
   obtain ⟨r, j, a, h⟩ := call_ok h;obtain ⟨m, z, Q, h⟩ := call_ok h;have W := line_less a;have R := ih j z m U Q;cases h.det (Run.ret _ _);simp; omega
  | false => cases h.det (Run.ret _ _); simp
theorem part_cnt {t T : List Tok} {l : List Rqm} (h : Run (body .part) t (.ok (l, T))) : l.length + T.length < t.length := by
 obtain ⟨_, Z, o, h⟩ := Co h;obtain ⟨_, j, a, h⟩ := Co h;obtain ⟨_, z, Q, h⟩ := Co h;obtain ⟨m, w, u, h⟩ := call_ok h;obtain ⟨_, s, g, h⟩ := Co h;cases h.det (Run.ret _ _);have := expect_inv o; have := a.le; have := Q.le; have := lines_cnt _ _ _ _ (Nat.le_refl _) u; have := g.le;simp; omega
theorem parts_cnt : ∀ (n : Nat) (t T : List Tok) (l : List (List Rqm)), t.length ≤ n → Run (body .parts) t (.ok (l, T)) → l.flatten.length + T.length ≤ t.length := by
 intro n
 induction n with
 | zero =>
  intro t T l G h;obtain ⟨b, Z, o, h⟩ := Co h;have e := sees2_inv o;subst e;cases b with
  | true =>
   obtain ⟨r, j, a, h⟩ := call_ok h;have := part_less a; omega
  | false => cases h.det (Run.ret _ _); simp
 | succ n ih =>
  intro t T l G h;obtain ⟨b, Z, o, h⟩ := Co h;have e := sees2_inv o;subst e;cases b with
  | true =>
   obtain ⟨r, j, a, h⟩ := call_ok h;obtain ⟨m, z, Q, h⟩ := call_ok h;have W := part_cnt a;have R := ih j z m U Q;cases h.det (Run.ret _ _);simp only [List.flatten_cons, List.length_append]; omega
  | false => cases h.det (Run.ret _ _); simp
theorem spec_ok (E : Env) (N : Nat) : ItemR spcR aggV E N 64 (body .spec) := by
 intro w ts h hN;have c3 := h.st.slt;unfold PDo;refine A5 Tryz.func64 rfl Tryz.ntmps64 nlr Dk (go ?_);refine Aj (L := [pt E.s]) rfl (fun j n1 => ?_);refine AQ (fun D X => ?_);have z1 := n1.size;have z2 := X.size;have x2 : Blk D w.heap.size 121 [pt E.s] := n1.D.E X.E O;have b2 : Blk D j.heap.size 54 [.slice none 0 0, .slice none 0 0] := X.D;have h2 := (h.ext n1.E).ext X.E;have k2 : Keep [E.s] w D := (n1.E.trans X.E).any;refine go ?_;refine Ap (whileSgn_ok E ts.length _ _ [] [pt w.heap.size] _ _ _ whileP_sig D ts (declared_ok E D _ x2 U) (signal_ok E _) h2 (Nat.le_refl _)) rfl ?_ ?_;rotate_left
 ·rintro ch wq ⟨kq, lq, rq, rfl⟩;refine go ?_;exact Ai ⟨k2.trans kq O, lq, Run.callE rq, rfl⟩
 rintro sv F ⟨P, l, t3, r3, q3, L, o3, F3⟩;have h3 := h2.next P q3
 have k13 := k2.trans P O;have z3 := P.size;have x3 := x2.E P Dm;have b3 := b2.E P Dm;have S3 := AV (ok := fun b => D.heap.size ≤ b ∧ b < F.heap.size) o3 (fun g z => by have := Ab o3 z; omega);obtain ⟨sa, sc, rfl, _⟩ := id S3;refine go ?_;refine An (cs := [.slice sa l.length sc, .slice none 0 0]) rfl rfl Dn EI (fun p K => ?_);have h4 := h3.ext K.E;have a8 := k13.ext K.E;have z4 := K.size;have x4 := x3.E K.E O;have b4 := b3.E K.E O;have e4 := K.D;have S4 := S3.ext K.E;have F4 := F3.ext K.E;refine go ?_;refine Ap (whileReqs_ok E t3.length _ _ [pt E.s] [] _ _ _ whileP_parts p t3 (opened_ok E p) (part_ok E _) h4 (Nat.le_refl _)) rfl ?_ ?_;rotate_left
 ·rintro ch wq ⟨kq, lq, rq, rfl⟩;refine go ?_;exact Ai ⟨a8.trans kq O, lq, Run.call r3 (Run.callE rq), rfl⟩
 rintro pv n ⟨I, m, t5, r5, q5, M, o5, F5⟩;have h5 := h4.next I q5
 have k15 := a8.trans I O;have z5 := I.size;have b5 := b4.E I Dm;have e5 := e4.E I Dm;have S5 := S4.E I (fun b S => by simp; omega);have t := AV (ok := fun b => p.heap.size ≤ b ∧ b < n.heap.size) o5 (fun g z => Ab o5 z);have a9 : RsAt reqsR (fun b => p.heap.size ≤ b ∧ b < n.heap.size) n M m := F5.lt.mono fun b S => ⟨S.1.1, S.2⟩;obtain ⟨pa, pc, rfl, _⟩ := id t;have c4 := h.st.cnt;have b8 := (show t3 <:+ ts from Run.suffix r3).length_le;have c0 := parts_cnt _ _ _ _ (Nat.le_refl _) r5
 have c2 : m.length ≤ 9223372036854775807 := by
  obtain ⟨_, _, hv, g1, g2, _⟩ := id t;cases hv; omega
 refine go ?_
 refine Ah (α := Nat × Value × List (LV)) (fun x => [(2, pt j.heap.size), (4, pt F.heap.size), (17, .slice pa m.length pc), (18, iV (m.length : Int)), (19, iV (x.1 : Int))])
  (fun x W => x.1 ≤ m.length ∧ Keep [E.s] w W ∧ PSt W E t5 ∧ n.heap.size ≤ W.heap.size ∧ Blk W j.heap.size 54 [.slice none 0 0, .slice none 0 0] ∧ Blk W F.heap.size 54 [.slice sa l.length sc, x.2.1] ∧
   Sl (fun b => D.heap.size ≤ b ∧ b < F.heap.size) W (.slice sa l.length sc) l.length L.flatten ∧ Sl (fun b => p.heap.size ≤ b ∧ b < n.heap.size) W (.slice pa m.length pc) m.length M.flatten ∧ RsAt reqsR (fun b => p.heap.size ≤ b ∧ b < n.heap.size) W M m ∧
   W.ownsRow n.heap.size 38 8 x.2.1 (m.take x.1).flatten.length x.2.2.flatten ∧ RsAt reqR (fun b => p.heap.size ≤ b ∧ b < n.heap.size) W x.2.2 (m.take x.1).flatten) (fun x => m.length - x.1) (0, .slice none 0 0, []) ⟨rfl, rfl, rfl, rfl, rfl, trivial⟩
  ⟨by simp, k15, q5, Nat.le_refl _, b5, e5, S5, t, a9, ⟨by simp, .inl ⟨rfl, rfl⟩⟩, RsAt.nil⟩ ?_
 rintro ⟨k, rv, Q⟩ w6 f6 ⟨hk, k6, q6, z6, b6, e6, S6, P6, F6, C, q⟩;simp only at hk C q e6 ⊢;refine go ?_;have b7 : j.heap.size < F.heap.size := by omega
 by_cases a1 : k < m.length
 ·obtain ⟨c, T⟩ : ∃ c, M[k]? = some c := ⟨_, List.getElem?_eq_getElem (by rw [F6.1]; exact a1)⟩;obtain ⟨Z, a7⟩ : ∃ Z, m[k]? = some Z := ⟨_, List.getElem?_eq_getElem a1⟩;obtain ⟨pv, rfl, va, vc, V, rfl, SV, FV⟩ := F6.2 k c Z T a7
  obtain ⟨b, o, rfl, S, b9⟩ : ∃ b o, pa = some ⟨b, o, none⟩ ∧ (p.heap.size ≤ b ∧ b < n.heap.size) ∧ w6.cell? ⟨b, o + k, none⟩ = some (.slice va Z.length vc) := by
   obtain ⟨a', a5, hv, g1, g2, g3, g4⟩ := id P6;cases hv;obtain ⟨b, o, rfl, S, hcc⟩ := g4.resolve_left U;refine ⟨b, o, rfl, S, hcc k _ ?_⟩;have := CH 1 M k 0 _ _ F6.len T rfl;simpa using this
  have a6 : m.take (k + 1) = m.take k ++ [Z] := by rw [List.take_add_one, a7]; rfl
  have c1 : (m.take (k + 1)).flatten.length ≤ m.flatten.length := by
   have e1 := congrArg (fun x => x.flatten.length) (List.take_append_drop (k + 1) m);simp only [List.flatten_append, List.length_append] at e1; omega
  have etl : (m.take (k + 1)).flatten.length = (m.take k).flatten.length + Z.length := by rw [a6]; simp
  obtain ⟨H, B, rfl⟩ : ∃ H B, rv = .slice H (m.take k).flatten.length B := by
   rcases C.2 with ⟨rfl, h0⟩ | ⟨g, a5, b1, rfl, _⟩
   ·exact ⟨none, 0, by rw [h0]⟩
   ·exact ⟨_, _, rfl⟩
  have a2 : ∀ x ∈ (Value.slice H (m.take k).flatten.length B).ownBlock.toList, n.heap.size ≤ x := fun x e => (Ab C (Option.mem_toList.1 e)).1;refine go ?_;refine Ak (v := .slice H (m.take k).flatten.length B) (sv := .slice va Z.length vc) rfl rfl C SV U rfl FV.flat FV.oneC U U U (fun v7 w7 y => ?_);have o7 := y.own;have z7 := y.E.size;have G : ∀ b, b < n.heap.size → b ∉ (Value.slice H (m.take k).flatten.length B).ownBlock.toList := fun b S e => by have := a2 b e; omega
  have e7 := e6.E y.E (G _ U);have R := b6.E y.E (G _ U);have S7 := S6.E y.E (fun b S => G b U);have P7 := P6.E y.E (fun b S => G b S.2);have F7 := F6.E y.E (fun b S => G b S.2);have G7 := (q.app FV).E y.E (fun b S => G b S.2);have k7 := k6.trans y.E (fun x e a1 => by have := a2 x e; omega);have q7 := q6.E y.E (fun x e => by have := a2 x e; omega)
  obtain ⟨a3, a4, rfl⟩ : ∃ a3 a4, v7 = .slice a3 ((m.take k).flatten.length + Z.length) a4 := by
   rcases o7.2 with ⟨rfl, h0⟩ | ⟨g, a5, b1, rfl, _⟩
   ·exact ⟨none, 0, by rw [h0]⟩
   ·exact ⟨_, _, rfl⟩
  refine go ?_;refine AN rfl rfl rfl e7 O (fun w8 A => ?_);have z8 := A.size;have f : ∀ b, b ≠ F.heap.size → b ∉ [F.heap.size] := fun b S e => S (by simpa using e);refine go ?_;refine ⟨(k + 1, .slice a3 ((m.take k).flatten.length + Z.length) a4, Q ++ V), ⟨rfl, ⟨rfl, rfl, rfl, rfl, ?_, trivial⟩, ⟨by simp only; omega, k7.trans A.E Dm, q7.E A.E Dm, by omega, R.E A.E (f _ U), A.D, S7.E A.E (fun b S => f _ U), P7.E A.E (fun b S => f _ U), F7.E A.E (fun b S => f _ U), ?_, ?_⟩⟩, by simp only; omega⟩
  ·show iV ((k : Int) + 1) = _;rw [Int.natCast_add]; rfl
  ·have := Ad o7 A.E (fun g z => f g (by have := Ab o7 z; omega));simp only [etl, List.flatten_append];exact this
  ·simp only [a6, List.flatten_append];have := G7.E A.E (fun b S => f _ U);simpa using this
 ·obtain rfl : k = m.length := by omega
  rw [List.take_length] at C q;refine go ?_;have hr6 := AV (ok := fresh w) C (fun g z => by have := Ab C z; simp only [fresh]; omega);obtain ⟨H, B, rfl, _⟩ := id hr6;refine go ?_;refine AE (cs := [.slice sa l.length sc, .slice H m.flatten.length B]) rfl rfl rfl EI b6 O (fun w7 d => ?_);refine go ?_;have R : Blk w7 j.heap.size 54 [.slice sa l.length sc, .slice H m.flatten.length B] := d.D;have a0 : ∀ b, b ≠ j.heap.size → b ∉ [j.heap.size] := fun b S e => S (by simpa using e);have b0 : RsAt sgnR (fun b => b ≠ j.heap.size ∧ fresh w b) w6 L l := ⟨F4.1, fun i c a T ha => F4.2 i c a T ha⟩;have R7 := AV (ok := fun b => b ≠ j.heap.size ∧ fresh w b) C (fun g z => by have := Ab C z; simp only [fresh]; omega);refine AT rfl rfl rfl R.cells ⟨k6.trans d.E Dm, ⟨l, m.flatten⟩, t5, Run.call r3 (Run.call r5 (Run.ret _ _)), q6.E d.E Dm, _, rfl, _, _, rfl, ⟨_, _, L, rfl, ?_, ?_⟩, ⟨_, _, Q, rfl, ?_, ?_⟩⟩
  ·exact (S6.mono (ok' := fun b => b ≠ j.heap.size ∧ fresh w b) (fun b S => by simp only [fresh]; omega)).E d.E (fun b S => a0 b S.1) |>.mono fun b S => S.2
  ·exact (b0.E d.E (fun b S => a0 b S.1)).mono fun b S => S.2
  ·exact (R7.E d.E (fun b S => a0 b S.1)).mono fun b S => S.2
  ·exact ((q.mono (ok' := fun b => b ≠ j.heap.size ∧ fresh w b) (fun b S => by simp only [fresh]; omega)).E d.E (fun b S => a0 b S.1)).mono fun b S => S.2
theorem infixes_ok (w : World) : Fn Zp 104 [] w fun v w' => ∃ m, v = .map (some m) ∧ w.heap.size ≤ m ∧ Ext w w' ∧ SMap w' m (tabV infixT) := by
 refine AG Tryz.func104 rfl Tryz.ntmps104 (go ?_);refine W_makeMapS (fun Q X e k => go ?_);refine CX (x := [85]) (y := oprV ⟨9, 0, 0⟩) rfl rfl rfl k rfl (fun L a c b => go ?_);refine CX (x := [82]) (y := oprV ⟨10, 0, 0⟩) rfl rfl rfl b rfl (fun u g B t => go ?_);refine CX (x := [83]) (y := oprV ⟨16, 16, 0⟩) rfl rfl rfl t rfl (fun p R d l => go ?_);refine CX (x := [84]) (y := oprV ⟨17, 17, 1⟩) rfl rfl rfl l rfl (fun W f h o => go ?_);exact AA rfl ⟨w.heap.size, rfl, Nat.le_refl _, (((X.E a O).E g O).E R O).E f O, o⟩
theorem prefixes_ok (w : World) : Fn Zp 103 [] w fun v w' => ∃ m, v = .map (some m) ∧ w.heap.size ≤ m ∧ Ext w w' ∧ SMap w' m (tabV prefixT) := by
 refine AG Tryz.func103 rfl Tryz.ntmps103 (go ?_);refine W_makeMapS (fun Q X e k => go ?_);refine CX (x := [33]) (y := oprV ⟨4, 0, 0⟩) rfl rfl rfl k rfl (fun L h C b => go ?_);refine CX (x := [88]) (y := oprV ⟨8, 0, 0⟩) rfl rfl rfl b rfl (fun u g B t => go ?_);refine CX (x := [89]) (y := oprV ⟨15, 0, 0⟩) rfl rfl rfl t rfl (fun j i D l => go ?_);refine CX (x := [90]) (y := oprV ⟨15, 0, 1⟩) rfl rfl rfl l rfl (fun W f E o => go ?_);refine CX (x := [79]) (y := oprV ⟨18, 0, 0⟩) rfl rfl rfl o rfl (fun r S z P => go ?_);refine CX (x := [72]) (y := oprV ⟨19, 0, 0⟩) rfl rfl rfl P rfl (fun A n F R => go ?_);refine CX (x := [70]) (y := oprV ⟨11, 13, 0⟩) rfl rfl rfl R rfl (fun s q G V => go ?_);refine CX (x := [71]) (y := oprV ⟨12, 14, 0⟩) rfl rfl rfl V rfl (fun d a c p => go ?_);exact AA rfl ⟨w.heap.size, rfl, Nat.le_refl _, (((((((X.E h O).E g O).E i O).E f O).E S O).E n O).E q O).E a O, p⟩
theorem takeWhile_all {p : UInt8 → Bool} : ∀ {l : LU}, (l.takeWhile p).length = l.length → ∀ c ∈ l, p c = true
 | [], _, c, T => by cases T
 | x :: l, h, c, T => by
  rw [List.takeWhile_cons] at h;cases hp : p x with
  | false => rw [hp] at h; simp at h
  | true =>
   rw [hp] at h;simp at h;rcases List.mem_cons.1 T with rfl | T
   ·exact hp
   ·exact takeWhile_all h c T
theorem Alone.wf {k : Int} {y : LU} (h : Alone k y) : k = 2 → 1 ≤ y.length ∧ y.length ≤ 4 ∧ ∀ c ∈ y, A8 c = true := by
 rintro rfl;obtain ⟨X, W, R⟩ := h;refine ⟨X, ?_⟩;unfold CA at R
 split at R
 ·simp [blankM] at R
 ·simp [commM] at R
 ·unfold nameM at R
  split at R
  ·cases R
  ·have := (addM_le R).1; simp at this
 ·unfold numM at R
  split at R
  ·cases R
  ·rename_i hb;have e := C3 R;have C : ((y.takeWhile A8).length) = y.length := by simpa [Ay] using e.symm
   refine ⟨?_, takeWhile_all C⟩;have n : Bc y 0 = false := by simpa using hb
   unfold Bc at n;rw [← e] at n;simp at n;omega
 ·unfold symM at R
  split at R
  ·have := (addM_le R).1; simp at this
  ·cases R
 ·cases R
theorem Reach1.cap {t : LU} {a b : Nat} {m y : List Tok} (h : Reach1 t a m b y) (T : m.length ≤ 2000) : y.length ≤ 2000 := by
 induction h with
 | refl => exact T
 | step h hs hr ih =>
  rename_i a a1 b m ts1 y;refine ih ?_;rcases step_shape hs with rfl | ⟨k, rfl⟩
  ·exact T
  ·have : m.length ≠ 2000 := by
    intro e;unfold CA at hs
    split at hs
    ·simp [blankM] at hs
    ·simp [commM] at hs
    ·unfold nameM at hs
     split at hs
     ·cases hs
     ·exact (addM_le hs).2 e
    ·unfold numM at hs
     split at hs
     ·cases hs
     ·exact (addM_le hs).2 e
    ·unfold symM at hs
     split at hs
     ·exact (addM_le hs).2 e
     ·cases hs
    ·cases hs
   simp; omega
theorem lexM_toks {t : LU} {m : List Tok} (h : lexM t = .ok m) : t.length ≤ 6000 ∧ m.length ≤ 2000 ∧ ∀ x ∈ m, TokWf x := by
 obtain ⟨M, B⟩ := lexM_ok h;exact ⟨M, B.cap O, fun x V => ((B.alone (Nat.le_refl _) (fun x V => by cases V)) x V).wf⟩
end
end Go.Proofs.YtohodbnnhlddpaaGreatDoor
