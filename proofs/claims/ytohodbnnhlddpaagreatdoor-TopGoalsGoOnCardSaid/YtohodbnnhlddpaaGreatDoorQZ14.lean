/- TopGoalsGoOn, part 14 of 16: rules, lemmas, walks. Conditions: none. -/
import Derived.Test.YtohodbnnhlddpaaGreatDoorQZ13
namespace Go.Proofs.YtohodbnnhlddpaaGreatDoor
open Go.RowKit
set_option linter.unusedVariables false
abbrev Pn := Nat × Nat × Fml
def ptrV (p : Pn) : Value := .pointer (some ⟨p.1, p.2.1, none⟩)
abbrev cok (i : Nat → Prop) (A E : Nat) (v : Value) (b : Nat) : Prop := (i b ∨ A ≤ b) ∧ b ≠ E ∧ v.ownBlock ≠ some b
structure Cpy (ok0 : Nat → Prop) (A B c2 : Nat) (T2 : TypeId) (zs : LV) (fx : List (Nat × Value)) (roots ps : List Pn) (W : World) (v : Value) : Prop where
 own : W.ownsRow B 96 1 v ps.length (ps.map ptrV)
 all : ∀ p, p ∈ roots ∨ p ∈ ps → PF (cok ok0 A c2 v) W p.1 p.2.1 p.2.2
 mine : ∀ p ∈ ps, A ≤ p.1 ∧ ∃ T L, Blk W p.1 T L
 D : Blk W c2 T2 zs
 ab : A < B
 fix : ∀ q ∈ fx, W.cell? ⟨A, q.1, none⟩ = some q.2
 nsl : ∀ q ∈ fx, ∀ a n c, q.2 ≠ .slice a n c
section
variable {ok0 : Nat → Prop} {A B c2 : Nat} {T2 : TypeId} {zs : LV} {fx : List (Nat × Value)} {roots ps : List Pn} {W W' : World} {v : Value}
theorem Cpy.ext (h : Cpy ok0 A B c2 T2 zs fx roots ps W v) (e : Ext W W') : Cpy ok0 A B c2 T2 zs fx roots ps W' v :=
 ⟨Aa h.own e, fun p a => (h.all p a).E e (fun _ _ => by simp), fun p a => ⟨(h.mine p a).1, by obtain ⟨T, L, S⟩ := (h.mine p a).2; exact ⟨T, L, S.E e O⟩⟩, h.D.E e O, h.ab, fun q H => e.cell (h.fix q H) O, h.nsl⟩
theorem Cpy.pop {p : Pn} (h : Cpy ok0 A B c2 T2 zs fx roots (ps ++ [p]) W v) : ∃ a cap, v = .slice a (ps.length + 1) cap ∧ Cpy ok0 A B c2 T2 zs fx (p :: roots) ps W (.slice a ps.length cap) ∧ A ≤ p.1 ∧ ∃ T L, Blk W p.1 T L := by
 have f := h.own;rw [List.length_append, List.map_append] at f;obtain ⟨a, cap, rfl, _⟩ := AV (ok := AZ) f fun _ _ => trivial;refine ⟨a, cap, by simp, ⟨own_pop (u := ptrV p) (by simpa using f), fun q H => ?_, fun q H => h.mine q (by simp [H]), h.D, h.ab, h.fix, h.nsl⟩, h.mine p O⟩
 have b : q ∈ roots ∨ q ∈ ps ++ [p] := by
  rcases H with H | H
  ·rcases List.mem_cons.1 H with rfl | H
   ·exact .inr O
   ·exact .inl H
  ·exact .inr (by simp [H])
 have e : (Value.slice a (ps.length + 1) cap).ownBlock = (Value.slice a ps.length cap).ownBlock := by cases a <;> rfl
 have := h.all q b;simp only [List.length_cons, List.length_nil, Nat.zero_add] at this;unfold cok at this ⊢
 rwa [e] at this
theorem Cpy.push {p : Pn} {W1 s : World} {i : Value} (h : Cpy ok0 A B c2 T2 zs fx roots ps W v) (e : Ext W W1) (c : Apd W1 s B 96 1 v i (ps.length + 1) (ps.map ptrV ++ [ptrV p])) (j : PF (cok ok0 A c2 v) W p.1 p.2.1 p.2.2) (a : A ≤ p.1 ∧ ∃ T L, Blk W p.1 T L) (m : v.ownBlock ≠ some c2) : Cpy ok0 A B c2 T2 zs fx roots (ps ++ [p]) s i := by
 have z := e.size
 have l : ∀ g, i.ownBlock = some g → v.ownBlock = some g ∨ g = W1.heap.size := fun g f => by
  rcases c.D with e | e
  ·exact .inl (by rw [← e]; exact f)
  ·rw [e] at f; exact .inr (Option.some.inj f).symm
 have d : ∀ y, y ∈ v.ownBlock.toList → v.ownBlock = some y := fun y K => Option.mem_toList.1 K
 have Z : ∀ {b o : Nat} {x : Fml}, PF (cok ok0 A c2 v) W b o x → PF (cok ok0 A c2 i) s b o x := fun I => by
  refine (((I.lt).E e (fun _ _ => by simp)).E c.E fun b S a => S.1.2.2 (d b a)).mono fun b S => ⟨S.1.1, S.1.2.1, fun e => ?_⟩;rcases l b e with e | e
  ·exact S.1.2.2 e
  ·have := S.2; omega
 have k : ∀ {b : Nat}, v.ownBlock ≠ some b → (∃ T L, Blk W b T L) → ∃ T L, Blk s b T L := fun hne ⟨T, L, S⟩ => ⟨T, L, (S.E e O).E c.E fun a => hne (d _ a)⟩;refine ⟨by have := c.own; simpa using this, fun q H => ?_, fun q H => ?_, (h.D.E e O).E c.E fun a => m (d _ a), h.ab, fun q H => c.E.cell (e.cell (h.fix q H) O) fun a => by have := (Ab h.own (d _ a)).1; have := h.ab; omega, h.nsl⟩
 ·rcases H with H | H
  ·exact Z (h.all q (.inl H))
  ·rcases List.mem_append.1 H with H | H
   ·exact Z (h.all q (.inr H))
   ·simp at H; rw [H]; exact Z j
 ·rcases List.mem_append.1 H with H | H
  ·exact ⟨(h.mine q H).1, k (h.all q (.inr H)).1.2.2 (h.mine q H).2⟩
  ·simp at H; rw [H]; exact ⟨a.1, k j.1.2.2 a.2⟩
end
theorem Blk.un {w : World} {b i : Nat} {T : TypeId} {L : LV} {u : Value} (h : Blk w b T L) (r : w.cell? ⟨b, i, none⟩ = some u) : L[i]? = some u := by
 unfold Blk at h;simp only [World.cell?, h] at r;simpa using r
theorem Rtg.of_put {ok : Nat → Prop} {W x : World} {g o : Nat} {T : TypeId} {L : LV} {v d : Value} (S : Blk W g T L) (q : W.cell? ⟨g, o, none⟩ = some v) (D : ∃ a n c, v = .slice a n c) (p : Put W x g T (L.set o d))
  (f : ∀ (n : Nat) (L : List (LV)), L.flatten.length = n * 5 → Sl ok W v n L.flatten → Sl ok x d n L.flatten) : Rtg ok W x g o v d := by
 have y := (List.getElem?_eq_some_iff.1 (S.un q)).1;refine ⟨D, q, p.D.cell (by simp [y]), fun b i u H r => ?_, f⟩;by_cases s : b = g
 ·subst s;have F : ¬ i = o := fun e => H ⟨rfl, e⟩;exact p.D.cell (by rw [List.getElem?_set_ne U]; exact S.un r)
 ·exact p.E.cell r (by simpa using s)
theorem Cpy.store {i : Nat → Prop} {A B E : Nat} {d T : TypeId} {k L : LV} {S : List (Nat × Value)} {j ps : List Pn} {W x : World} {v v0 t : Value} {g o : Nat} (h : Cpy i A B E d k S j ps W v) (R : Rtg (cok i A E v) W x g o v0 t) (p : Put W x g T L) (X : g ≠ E) (r : v.ownBlock ≠ some g) : Cpy i A B E d k S j ps x v := by
 refine ⟨Ad h.own p.E fun y K f => ?_, fun q H => (h.all q H).rtg R, fun q H => ⟨(h.mine q H).1, ?_⟩, h.D.E p.E ?_, h.ab, fun q H => R.oth _ _ _ (fun F => ?_) (h.fix q H), h.nsl⟩
 ·rw [List.mem_singleton] at f; rw [f] at K; exact r K
 ·obtain ⟨m, l, s⟩ := (h.mine q H).2;by_cases z : q.1 = g
  ·rw [z]; exact ⟨_, _, p.D⟩
  ·exact ⟨m, l, s.E p.E EC⟩
 ·rw [List.mem_singleton]; exact fun e => X e.symm
 ·have b := h.fix q H;rw [F.1, F.2, R.old] at b;obtain ⟨a, n, c, e⟩ := R.sl;exact h.nsl q H a n c (by rw [← Option.some.inj b]; exact e)
theorem cpy_of {ok g : Nat → Prop} {W W1 : World} {D u : Value} {l : LF} {L0 : List (LV)} (p : Sl ok W D l.length L0.flatten) (s : L0.flatten.length = l.length * 5) (r : Sl g W1 u l.length L0.flatten) (n : Nat) (L : List (LV)) (f : L.flatten.length = n * 5) (h : Sl ok W D n L.flatten) : Sl g W1 u n L.flatten := by
 obtain ⟨a, A, rfl, v, E, c, C⟩ := p;obtain ⟨y, Q, e, o, F, H, q⟩ := h;cases e
 have : L.flatten = L0.flatten := by
  by_cases G : l.length = 0
  ·have d : L.flatten = [] := List.eq_nil_of_length_eq_zero (by rw [f, G]);have x : L0.flatten = [] := List.eq_nil_of_length_eq_zero (by rw [s, G]);rw [d, x]
  ·obtain ⟨b, B, d, _, T⟩ := C.resolve_left G;obtain ⟨z, w, x, _, m⟩ := q.resolve_left G;rw [d] at x;cases x;refine List.ext_getElem (by rw [f, s]) fun i X j => ?_;have t := T i _ (List.getElem?_eq_getElem j);have k := m i _ (List.getElem?_eq_getElem X);rw [t] at k;exact (Option.some.inj k).symm
 rw [this];exact r
theorem PF.child {ok : Nat → Prop} {W : World} {g o n q k : Nat} {N : Option Addr} {x y : Fml} (h : PF ok W g o x) (T : W.cell? ⟨g, o + 4, none⟩ = some (.slice N n q)) (P : x.args[k]? = some y) : ∃ i r, N = some ⟨i, r, none⟩ ∧ PF ok W i (r + k * 5) y := by
 obtain ⟨S, a, c, L, A, m, l⟩ := h.form;have e := A 4 _ rfl;rw [T] at e;cases e;have f := (List.getElem?_eq_some_iff.1 P).1;have C : L[k]? = some (L[k]'(by rw [l.1]; exact f)) := List.getElem?_eq_getElem _;obtain ⟨b, p, d, j, z⟩ := m.fml l.2.1 C f;exact ⟨b, p, d, j, _, l.2.1 _ (List.getElem_mem _), z, l.2.2 k _ y C P⟩
def dtyR : Rp Dty where
 fits ok w c x := ∃ r a b, c = r ++ (iV x.since :: (a ++ b)) ∧ reqR.fits ok w r x.req ∧ fmlR.fits ok w a x.first ∧ fmlR.fits ok w b x.now
 size := 19
 len h := by
  obtain ⟨r, a, b, rfl, X, W, R⟩ := h;have d : r.length = 8 := reqR.len X;have g : a.length = 5 := fmlR.len W;have z : b.length = 5 := fmlR.len R;simp [d, g, z]
 one h := by
  obtain ⟨r, a, b, rfl, X, W, R⟩ := h;refine oneC_app (reqR.one X) fun u f => ?_;rcases List.mem_cons.1 f with rfl | f
  ·rfl
  ·exact oneC_app (fmlR.one W) (fmlR.one R) u f
 E h k hX := by obtain ⟨r, a, b, e, X, W, R⟩ := h; exact ⟨r, a, b, e, reqR.E X k hX, fmlR.E W k hX, fmlR.E R k hX⟩
 lt h := by obtain ⟨r, a, b, e, X, W, R⟩ := h; exact ⟨r, a, b, e, reqR.lt X, fmlR.lt W, fmlR.lt R⟩
 mono h hk := by obtain ⟨r, a, b, e, X, W, R⟩ := h; exact ⟨r, a, b, e, reqR.mono X hk, fmlR.mono W hk, fmlR.mono R hk⟩
def wchR : Rp (Dty × Fml) where
 fits ok w c x := ∃ a b, c = a ++ b ∧ dtyR.fits ok w a x.1 ∧ fmlR.fits ok w b x.2
 size := 24
 len h := by
  obtain ⟨a, b, rfl, X, W⟩ := h;have d : a.length = 19 := dtyR.len X;have f : b.length = 5 := fmlR.len W;simp [d, f]
 one h := by obtain ⟨a, b, rfl, X, W⟩ := h; exact oneC_app (dtyR.one X) (fmlR.one W)
 E h k hX := by obtain ⟨a, b, e, X, W⟩ := h; exact ⟨a, b, e, dtyR.E X k hX, fmlR.E W k hX⟩
 lt h := by obtain ⟨a, b, e, X, W⟩ := h; exact ⟨a, b, e, dtyR.lt X, fmlR.lt W⟩
 mono h hk := by obtain ⟨a, b, e, X, W⟩ := h; exact ⟨a, b, e, dtyR.mono X hk, fmlR.mono W hk⟩
theorem dty_cells {ok : Nat → Prop} {w : World} {c : LV} {x : Dty} (h : dtyR.fits ok w c x) : ∃ q a b, c = [AI x.req.part, AI x.req.name, iV x.req.kind] ++ q ++ (iV x.since :: (a ++ b)) ∧ q.length = 5 ∧ a.length = 5 ∧ b.length = 5 ∧ FAt ok w (.agg q.toArray) x.req.formula ∧ FAt ok w (.agg a.toArray) x.first ∧ FAt ok w (.agg b.toArray) x.now := by
 obtain ⟨r, a, b, rfl, ⟨q, rfl, d, X⟩, ⟨H, W⟩, ⟨S, R⟩⟩ := h;exact ⟨q, a, b, rfl, d, H, S, X, W, R⟩
def wtP (ps : List Pn) : Nat := (ps.map fun p => szF p.2.2).sum
theorem wtP_app (ps qs : List Pn) : wtP (ps ++ qs) = wtP ps + wtP qs := by simp [wtP]
theorem wtP_len : ∀ ps : List Pn, ps.length ≤ wtP ps
 | [] => Nat.le_refl _
 | p :: ps => by
  have X := wtP_len ps;have W := Bd p.2.2;simp only [wtP, List.map_cons, List.sum_cons, List.length_cons] at X ⊢;omega
theorem last_of {α : Type} {l : List α} (h : l ≠ []) : ∃ m a, l = m ++ [a] := ⟨l.dropLast, l.getLast h, (List.dropLast_concat_getLast h).symm⟩
def chP (b o : Nat) : Nat → LF → List Pn
 | _, [] => []
 | i, x :: l => (b, o + i * 5, x) :: chP b o (i + 1) l
theorem chP_snoc (b o : Nat) (x : Fml) : ∀ (l : LF) (i : Nat), chP b o i (l ++ [x]) = chP b o i l ++ [(b, o + (i + l.length) * 5, x)]
 | [], i => by simp [chP]
 | y :: l, i => by
  have := chP_snoc b o x l (i + 1);simp only [List.cons_append, chP, this, List.length_cons];rw [show i + 1 + l.length = i + (l.length + 1) by omega]
theorem chP_wt (b o : Nat) : ∀ (l : LF) (i : Nat), wtP (chP b o i l) = szL l
 | [], i => by simp [chP, wtP, szL]
 | y :: l, i => by
  have := chP_wt b o l (i + 1);simp only [chP, wtP, List.map_cons, List.sum_cons, szL] at this ⊢;rw [this]
theorem chP_len (b o : Nat) : ∀ (l : LF) (i : Nat), (chP b o i l).length = l.length
 | [], i => rfl
 | y :: l, i => by simp [chP, chP_len b o l (i + 1)]
theorem mcopied_ok (w : World) (v : Value) (f : Fml) (i : Nat → Prop) (hf : FAt i w v f) (hz : szF f ≤ 1000000) :
  Fn Zp 60 [v] w fun u w' => Ext w w' ∧ FAt (fun b => i b ∨ w.heap.size ≤ b) w' u f := by
 obtain ⟨c, rfl, c5, b3⟩ := hf.cells;obtain ⟨x0, x1, x2, x3, x4, rfl⟩ := AX c5;have c9 := hf.lt;refine AG Tryz.func60 rfl Tryz.ntmps60 (go ?_);refine Aj (L := [x0, x1, x2, x3, x4]) rfl (fun Q n1 => ?_);refine AQ (L := zero5) (fun t X => ?_);have z1 := n1.size;have z2 := X.size;have kk := n1.E.trans X.E;have b1 : Blk t w.heap.size 36 [x0, x1, x2, x3, x4] := n1.D.E X.E O;refine go ?_;refine Ce (out := [pt w.heap.size]) rfl U rfl rfl (fun w3 B => ?_);have z3 := B.size;have k3 := kk.trans B.E
 have l : Cpy i w.heap.size t.heap.size Q.heap.size 36 zero5 [] [(w.heap.size, 0, f)] [(w.heap.size, 0, f)] w3 (.slice (sm t.heap.size) 1 1) := by
  have hp : PF (cok i w.heap.size Q.heap.size (Value.slice (sm t.heap.size) 1 1)) w3 w.heap.size 0 f := ⟨⟨.inr (Nat.le_refl _), by omega, by simp [Value.ownBlock]; omega⟩, _, rfl, (b1.E B.E O).cells, (c9.ext k3).mono fun b S => ⟨.inl S.1, by have := S.2; omega, by have := S.2; simp [Value.ownBlock]; omega⟩⟩;refine ⟨B.own (n := 1) (size := 1) rfl Dq (Nat.le_refl _), fun p q => ?_, fun p q => ?_, X.D.E B.E O, by omega, by simp, by simp⟩
  ·rcases q with q | q <;> (simp at q; rw [q]; exact hp)
  ·simp at q; rw [q]; exact ⟨Nat.le_refl _, _, _, b1.E B.E O⟩
 refine go ?_
 refine Ah (α := List Pn × List Pn × Value) (fun y => [(1, pt w.heap.size), (2, pt Q.heap.size), (3, y.2.2)])
  (fun y W => Ext w W ∧ (∀ p ∈ [(w.heap.size, 0, f)], p ∈ y.2.1) ∧ wtP y.1 ≤ 1000000 ∧ Cpy i w.heap.size t.heap.size Q.heap.size 36 zero5 [] y.2.1 y.1 W y.2.2) (fun y => wtP y.1) ([(w.heap.size, 0, f)], [(w.heap.size, 0, f)], .slice (sm t.heap.size) 1 1) ag ⟨k3, fun p h => h, by simpa [wtP] using hz, l⟩ ?_
 rintro ⟨ps, rs, v⟩ W fr ⟨kW, hr, hw, l⟩;simp only at hr hw l;have ho := l.own;obtain ⟨va, G, rfl, e6, e7, e8, d7⟩ := AV (ok := AZ) ho fun _ _ => trivial;refine go ?_;by_cases s : ps ≠ []
 ·obtain ⟨a, p, rfl⟩ := last_of s;have hl : (a ++ [p]).length = a.length + 1 := by simp
  obtain ⟨a2, e1, E, M, hA, T, L, S⟩ := l.pop;rw [hl] at E;cases E;obtain ⟨D, P, rfl, -, d8⟩ := d7.resolve_left U;have e4 : W.cell? ⟨D, P + a.length, none⟩ = some (ptrV p) := d8 _ _ O;have hj : (((a ++ [p]).length : Nat) : Int) - 1 = (a.length : Int) := by omega
  obtain ⟨g, o, x⟩ := p;have a5 := M.all (g, o, x) (.inl O);simp only at a5 hA S;obtain ⟨hok, d, C, c6, hfx⟩ := id a5;obtain ⟨d9, E, H, a0, a4, a3, b6⟩ := hfx.form;obtain ⟨d0, d1, d2, d3, d4, rfl⟩ := AX C;simp only [Value.agg.injEq, List.toArray_eq_iff, List.cons.injEq, and_true] at E;obtain ⟨rfl, rfl, rfl, rfl, rfl⟩ := E;obtain ⟨aa, cc, rfl, r1, r2, r3, r4⟩ := id a0;have a6 : W.cell? ⟨g, o + 4, none⟩ = some (.slice aa x.args.length cc) := c6 4 _ rfl;have b8 : FsAt (cok i w.heap.size Q.heap.size (Value.slice (some ⟨D, P, none⟩) a.length G)) W H x.args := ⟨a4, a3, b6⟩;have f2 : wtP a + szF x = wtP (a ++ [(g, o, x)]) := by rw [wtP_app]; simp [wtP]
  have f4 := Bd x;have f5 := Bv x.args;have hql := wtP_len a;refine go ?_;have ht : ((((a ++ [(g, o, x)]).length : Nat) : Int) - 1).toNat = a.length := by omega
  rw [ht];refine AC (clone_ok W aa cc x.args H _ a0 b8 U) rfl ?_;rintro u w4 ⟨R, o4⟩;have hu : Sl (fun b => W.heap.size ≤ b) w4 u x.args.length H.flatten := AV o4 fun b S => (Ab o4 S).1;obtain ⟨N, Z, rfl, u1, u2, u3, u4⟩ := id hu;have c1 := M.ext R;have a7 := S.E R O;have e9 : (Value.slice (some ⟨D, P, none⟩) a.length G).ownBlock ≠ some Q.heap.size := fun e => by have := (Ab M.own e).1; omega
  have e2 := S.lt;have zW := kW.size;have f0 : Q.heap.size < W.heap.size := l.D.lt;have b9 := S.un a6;have c0 := (List.getElem?_eq_some_iff.1 b9).1;refine go ?_;refine AN (v := .slice N x.args.length Z) rfl rfl rfl a7 c0 (fun w5 F => ?_)
  have c8 : ∀ (n : Nat) (L : List (LV)), L.flatten.length = n * 5 → Sl (cok i w.heap.size Q.heap.size (Value.slice (some ⟨D, P, none⟩) a.length G)) w4 (.slice aa x.args.length cc) n L.flatten → Sl (cok i w.heap.size Q.heap.size (Value.slice (some ⟨D, P, none⟩) a.length G)) w5 (.slice N x.args.length Z) n L.flatten := fun n L hL h => by
   refine cpy_of (a0.ext R) (by rw [CC 5 H a3, a4]) ?_ n L hL h;exact (hu.E F.E (fun b S m => by rw [List.mem_singleton] at m; omega)).mono fun b S => ⟨.inr U, by omega, fun e => by have := (Ab M.own e).2; omega⟩
  have hR := Rtg.of_put a7 (R.cell a6 O) ⟨_, _, _, rfl⟩ F c8;have c2 := c1.store hR F hok.2.1 hok.2.2;have c7 : w5.cell? ⟨g, o + 4, none⟩ = some (.slice N x.args.length Z) := hR.new;have e5 : Ext w w5 := (kW.trans R).E F.E Dl
  obtain ⟨j, r, b4⟩ : ∃ j r, 0 < x.args.length → N = some ⟨j, r, none⟩ ∧ w.heap.size ≤ j ∧ ∃ T L, Blk w5 j T L := by
   by_cases f3 : x.args.length = 0
   ·exact ⟨0, 0, fun h => by omega⟩
   ·rcases o4.2 with ⟨_, h⟩ | ⟨g', e0, b5, e, h1, h2, -⟩
    ·omega
    ·cases e;have hne : g' ≠ g := fun e => by omega
     have c4 : Blk w4 g' 36 b5.toList := by simpa [Blk] using h2
     exact ⟨g', 0, fun _ => ⟨rfl, by omega, _, _, c4.E F.E (by simpa using hne)⟩⟩
  refine go ?_
  refine Ah (α := Nat × Value) (fun y => [(1, pt w.heap.size), (2, pt Q.heap.size), (3, y.2), (4, .pointer (some ⟨g, o, none⟩)), (33, iV (x.args.length : Int)), (34, iV (y.1 : Int))])
   (fun y V => y.1 ≤ x.args.length ∧ Ext w V ∧ V.cell? ⟨g, o + 4, none⟩ = some (.slice N x.args.length Z) ∧ (0 < x.args.length → ∃ T L, Blk V j T L) ∧ Cpy i w.heap.size t.heap.size Q.heap.size 36 zero5 [] ((g, o, x) :: rs) (a ++ chP j r 0 (x.args.take y.1)) V y.2) (fun y => x.args.length - y.1) (0, .slice (some ⟨D, P, none⟩) a.length G) ag ⟨by simp, e5, c7, fun h => (b4 h).2.2, by simpa [chP] using c2⟩ ?_
  rintro ⟨k, v⟩ V fr ⟨hk, kV, a1, a9, A⟩;simp only at hk a1 A;refine go ?_;by_cases hlt : k < x.args.length
  ·obtain ⟨y, K⟩ := gl hlt;obtain ⟨rfl, d5, -⟩ := b4 U;have b2 := A.all (g, o, x) (.inl O);obtain ⟨f6, f7, e, b0⟩ := b2.child a1 K;cases e;have hgo := b2.1.2.2;have d6 := b0.1.2.2;refine go ?_;refine Ce (out := [.pointer (some ⟨j, r + k * 5, none⟩)]) rfl U rfl rfl (fun w6 z => ?_);have e3 : (a ++ chP j r 0 (x.args.take k)).length = a.length + k := by rw [List.length_append, chP_len, List.length_take]; omega
   have hX : ∀ y, y ∈ v.ownBlock.toList → v.ownBlock = some y := fun y K => Option.mem_toList.1 K;have z6 := z.size;have zV : t.heap.size ≤ V.heap.size := by have := A.D.lt; omega
   refine Ak (v := v) rfl rfl (Aa A.own z.E) (AV (ok := AZ) (z.own (n := 1) (size := 1) rfl Dq (Nat.le_refl _)) fun _ _ => trivial) U rfl rfl (AU rfl) U U U (fun v8 w8 I => ?_);have b7 := A.push (p := (j, r + k * 5, y)) z.E I b0 ⟨d5, a9 U⟩ fun e => by have := (Ab A.own e).1; omega
   have c3 : ∀ y ∈ v.ownBlock.toList, w.heap.size ≤ y := fun y K => by have := (Ab A.own (hX y K)).1; have := l.ab; omega
   refine go ?_;refine ⟨(k + 1, v8), ⟨rfl, ag, ⟨by simp only; omega, (kV.trans z.E).E I.E c3, I.E.cell (z.E.cell a1 O) (fun m => hgo (hX _ m)), fun h => ?_, ?_⟩⟩, by simp only; omega⟩
   ·obtain ⟨T, L, S⟩ := a9 h;exact ⟨T, L, (S.E z.E O).E I.E fun m => d6 (hX _ m)⟩
   ·simp only;have htk : x.args.take (k + 1) = x.args.take k ++ [y] := by rw [List.take_add_one, K]; rfl
    rw [htk, chP_snoc, List.length_take, Nat.min_eq_left hk, Nat.zero_add, ← List.append_assoc];exact b7
  ·obtain rfl : k = x.args.length := by omega
   rw [List.take_length] at A;refine go ?_;have f1 : wtP (a ++ chP j r 0 x.args) = wtP a + szL x.args := by rw [wtP_app, chP_wt]
   exact ⟨(a ++ chP j r 0 x.args, (g, o, x) :: rs, v), ⟨rfl, ag, ⟨kV, fun p hp => List.mem_cons_of_mem _ (hr p hp), by simp only; omega, A⟩⟩, by simp only; omega⟩
 ·have s : ps = [] := Classical.not_not.1 s;subst s;have hl : ([] : List Pn).length = 0 := rfl;refine go ?_;obtain ⟨⟨hok, -, -⟩, d, C, hc, hff⟩ := l.all (w.heap.size, 0, f) (.inl (hr _ O));obtain ⟨d', e, _, b3⟩ := hff.cells;obtain rfl : d = d' := by simpa using e
  refine AR (L := d) rfl C hc ?_;refine AE (cs := d) rfl rfl C b3 l.D Dp (fun w9 p9 => ?_);have a8 := p9.D;rw [BN zero5 d (by rw [C]; rfl)] at a8;refine go ?_;exact AT rfl rfl C a8.cells ⟨kW.E p9.E Dl, (hff.E p9.E (fun b S m => by rw [List.mem_singleton] at m; exact S.2.1 m)).mono fun b S => S.1⟩
theorem mapStart_ok (w : World) (a : Option Addr) (c : Nat) (l : List (Rqm)) (F : FuncId) [hF : AD Zp F] (v1 v2 : LV) (g : Rqm → Dty) (N : SlAt reqR AZ w (.slice a l.length c) l) (hn : l.length ≤ 1000)
  (I : ∀ (W : World) (d : LV) (x : Rqm), x ∈ l → Ext w W → (reqR).fits (fun b => b < w.heap.size) W d x → Fn Zp F (v1 ++ [.agg d.toArray] ++ v2) W fun u r => ∃ e : LV, u = .agg e.toArray ∧ Ext W r ∧ (dtyR).fits (fun b => b < w.heap.size ∨ W.heap.size ≤ b) r e (g x)) :
  Fn Zp 58 [.slice a l.length c, .func (.func F) v1.toArray v2.toArray] w fun u w' => Ext w w' ∧ SlAt dtyR AZ w' u (l.map g) := by
 have Q := (N.lt (show 0 < (reqR).size by decide)).mono (ok' := fun b => b < w.heap.size) fun b S => S.2;have a1 : (dtyR).size = 19 := rfl;refine AG Tryz.func58 rfl Tryz.ntmps58 (go ?_);refine W_make0S (n := l.length) (DV _ _) rfl rfl rfl rfl U U (fun w1 n1 z1 o1 => go ?_);refine Ah (α := Nat × Value) (fun y => [(1, .func (.func F) v1.toArray v2.toArray), (5, y.2), (11, .slice a l.length c), (12, iV (l.length : Int)), (13, iV (y.1 : Int))]) (fun y W => y.1 ≤ l.length ∧ Ext w W ∧ w.heap.size < W.heap.size ∧ Acc AZ dtyR 40 19 w.heap.size W y.2 ((l.take y.1).map g)) (fun y => l.length - y.1) (0, .slice (sm w.heap.size) 0 l.length) ag ⟨by omega, n1, by omega, ⟨[], o1, RsAt.nil⟩⟩ ?_;rintro ⟨k, v⟩ W fr ⟨P, T, zW, G⟩;simp only at P T G;refine go ?_;by_cases R : k < l.length
 ·obtain ⟨x, q⟩ := gl R;obtain ⟨b, o, d, rfl, S, C, X⟩ := Q.at (sz := 8) rfl q;have B := C.E T O;have H := (reqR).E X T (fun _ _ => by simp);have E : d.length = 8 := (reqR).len X;have D := (reqR).one X;refine go ?_;refine AR (L := d) rfl E B ?_;refine An (cs := d) rfl E rfl D (fun w2 V => ?_);have z := V.D;refine go ?_;refine Bh rfl z E ?_;have z2 := V.size;refine Av (v1 := v1) (v2 := v2) (vs := [.agg d.toArray]) rfl (I w2 d x (List.mem_of_getElem? q) (T.trans V.E) ((reqR).E H V.E (fun _ _ => by simp))) rfl ?_;rintro u w3 ⟨e, rfl, t, m⟩;exact EM
 ·exact Ey
theorem mapWatch_ok (w : World) (a : Option Addr) (c : Nat) (l : List (Dty)) (F : FuncId) [hF : AD Zp F] (v1 v2 : LV) (g : Dty → Dty × Fml) (N : SlAt dtyR AZ w (.slice a l.length c) l) (hn : l.length ≤ 1000)
  (I : ∀ (W : World) (d : LV) (x : Dty), x ∈ l → Ext w W → (dtyR).fits (fun b => b < w.heap.size) W d x → Fn Zp F (v1 ++ [.agg d.toArray] ++ v2) W fun u r => ∃ e : LV, u = .agg e.toArray ∧ Ext W r ∧ (wchR).fits (fun b => b < w.heap.size ∨ W.heap.size ≤ b) r e (g x)) :
  Fn Zp 39 [.slice a l.length c, .func (.func F) v1.toArray v2.toArray] w fun u w' => Ext w w' ∧ SlAt wchR AZ w' u (l.map g) := by
 have Q := (N.lt (show 0 < (dtyR).size by decide)).mono (ok' := fun b => b < w.heap.size) fun b S => S.2;have a1 : (wchR).size = 24 := rfl;refine AG Tryz.func39 rfl Tryz.ntmps39 (go ?_);refine W_make0S (n := l.length) (DV _ _) rfl rfl rfl rfl U U (fun w1 n1 z1 o1 => go ?_);refine Ah (α := Nat × Value) (fun y => [(1, .func (.func F) v1.toArray v2.toArray), (5, y.2), (11, .slice a l.length c), (12, iV (l.length : Int)), (13, iV (y.1 : Int))]) (fun y W => y.1 ≤ l.length ∧ Ext w W ∧ w.heap.size < W.heap.size ∧ Acc AZ wchR 84 24 w.heap.size W y.2 ((l.take y.1).map g)) (fun y => l.length - y.1) (0, .slice (sm w.heap.size) 0 l.length) ag ⟨by omega, n1, by omega, ⟨[], o1, RsAt.nil⟩⟩ ?_;rintro ⟨k, v⟩ W fr ⟨P, T, zW, G⟩;simp only at P T G;refine go ?_;by_cases R : k < l.length
 ·obtain ⟨x, q⟩ := gl R;obtain ⟨b, o, d, rfl, S, C, X⟩ := Q.at (sz := 19) rfl q;have B := C.E T O;have H := (dtyR).E X T (fun _ _ => by simp);have E : d.length = 19 := (dtyR).len X;have D := (dtyR).one X;refine go ?_;refine AR (L := d) rfl E B ?_;refine An (cs := d) rfl E rfl D (fun w2 V => ?_);have z := V.D;refine go ?_;refine Bh rfl z E ?_;have z2 := V.size;refine Av (v1 := v1) (v2 := v2) (vs := [.agg d.toArray]) rfl (I w2 d x (List.mem_of_getElem? q) (T.trans V.E) ((dtyR).E H V.E (fun _ _ => by simp))) rfl ?_;rintro u w3 ⟨e, rfl, t, m⟩;have M : e.length = 24 := (wchR).len m;refine AL (out := e) rfl U (fill_one ED M) (fun w4 K => ?_);obtain ⟨L, f, A⟩ := G.ex;have s := (V.E.trans t).trans K.E;have z3 := s.size;have z4 := K.size;have z5 := t.size;have a0 : ((l.take k).map g).length = k := by rw [List.length_map, List.length_take]; omega
  have p : ∀ b, v.ownBlock = some b → w.heap.size ≤ b ∧ b < W.heap.size := fun b S => Ab f S;refine Ak (ok := AZ) (v := v) rfl rfl (Aa f s) (AV (K.own (n := 1) (size := 24) U Dq (Nat.le_refl _)) fun _ _ => trivial) U Dn U ((wchR).one m) U U U (fun v8 w8 j => ?_);have h : ∀ y ∈ v.ownBlock.toList, w.heap.size ≤ y := fun y hy => (Ab f (Option.mem_toList.1 hy)).1;have i := Acc.push f A s ((wchR).E ((wchR).mono m (ok' := fun b => AZ b ∧ v.ownBlock ≠ some b) fun b S => ⟨trivial, fun e => by have := p b e; omega⟩) K.E (fun _ _ => by simp)) j;refine go ?_;have z8 := j.E.size;refine ⟨(k + 1, v8), ⟨rfl, ag, ⟨by simp only; omega, (T.trans s).E j.E h, by omega, ?_⟩⟩, by simp only; omega⟩;simp only;have Z : l.take (k + 1) = l.take k ++ [x] := by rw [List.take_add_one, q]; rfl
  rw [Z, List.map_append];exact i
 ·exact Ey
theorem mapNext_ok (w : World) (a : Option Addr) (c : Nat) (l : List (Dty × Fml)) (F : FuncId) [hF : AD Zp F] (v1 v2 : LV) (g : Dty × Fml → Dty) (N : SlAt wchR AZ w (.slice a l.length c) l) (hn : l.length ≤ 1000)
  (I : ∀ (W : World) (d : LV) (x : Dty × Fml), x ∈ l → Ext w W → (wchR).fits (fun b => b < w.heap.size) W d x → Fn Zp F (v1 ++ [.agg d.toArray] ++ v2) W fun u r => ∃ e : LV, u = .agg e.toArray ∧ Ext W r ∧ (dtyR).fits (fun b => b < w.heap.size ∨ W.heap.size ≤ b) r e (g x)) :
  Fn Zp 44 [.slice a l.length c, .func (.func F) v1.toArray v2.toArray] w fun u w' => Ext w w' ∧ SlAt dtyR AZ w' u (l.map g) := by
 have Q := (N.lt (show 0 < (wchR).size by decide)).mono (ok' := fun b => b < w.heap.size) fun b S => S.2;have a1 : (dtyR).size = 19 := rfl;refine AG Tryz.func44 rfl Tryz.ntmps44 (go ?_);refine W_make0S (n := l.length) (DV _ _) rfl rfl rfl rfl U U (fun w1 n1 z1 o1 => go ?_);refine Ah (α := Nat × Value) (fun y => [(1, .func (.func F) v1.toArray v2.toArray), (5, y.2), (11, .slice a l.length c), (12, iV (l.length : Int)), (13, iV (y.1 : Int))]) (fun y W => y.1 ≤ l.length ∧ Ext w W ∧ w.heap.size < W.heap.size ∧ Acc AZ dtyR 40 19 w.heap.size W y.2 ((l.take y.1).map g)) (fun y => l.length - y.1) (0, .slice (sm w.heap.size) 0 l.length) ag ⟨by omega, n1, by omega, ⟨[], o1, RsAt.nil⟩⟩ ?_;rintro ⟨k, v⟩ W fr ⟨P, T, zW, G⟩;simp only at P T G;refine go ?_;by_cases R : k < l.length
 ·obtain ⟨x, q⟩ := gl R;obtain ⟨b, o, d, rfl, S, C, X⟩ := Q.at (sz := 24) rfl q;have B := C.E T O;have H := (wchR).E X T (fun _ _ => by simp);have E : d.length = 24 := (wchR).len X;have D := (wchR).one X;refine go ?_;refine AR (L := d) rfl E B ?_;refine An (cs := d) rfl E rfl D (fun w2 V => ?_);have z := V.D;refine go ?_;refine Bh rfl z E ?_;have z2 := V.size;refine Av (v1 := v1) (v2 := v2) (vs := [.agg d.toArray]) rfl (I w2 d x (List.mem_of_getElem? q) (T.trans V.E) ((wchR).E H V.E (fun _ _ => by simp))) rfl ?_;rintro u w3 ⟨e, rfl, t, m⟩;exact EM
 ·exact Ey
theorem dty19 {ok : Nat → Prop} {w : World} {c : LV} {x : Dty} (h : dtyR.fits ok w c x) : ∃ q0 q1 q2 q3 q4 k n m C D l d e t f, c = [AI x.req.part, AI x.req.name, iV x.req.kind, q0, q1, q2, q3, q4, iV x.since, k, n, m, C, D, l, d, e, t, f] ∧ FAt ok w (.agg [q0, q1, q2, q3, q4].toArray) x.req.formula ∧ FAt ok w (.agg [k, n, m, C, D].toArray) x.first ∧ FAt ok w (.agg [l, d, e, t, f].toArray) x.now := by
 obtain ⟨q, a, b, rfl, g, H, S, X, W, R⟩ := dty_cells h;obtain ⟨q0, q1, q2, q3, q4, rfl⟩ := AX g;obtain ⟨k, n, m, C, D, rfl⟩ := AX H;obtain ⟨l, d, e, t, f, rfl⟩ := AX S;exact ⟨q0, q1, q2, q3, q4, k, n, m, C, D, l, d, e, t, f, rfl, X, W, R⟩
theorem dty_of {ok : Nat → Prop} {w : World} {p n : LU} {k t : Int} {f a b : Fml} {q0 q1 q2 q3 q4 c d m C D l e g h i : Value} (X : FAt ok w (.agg [q0, q1, q2, q3, q4].toArray) f) (W : FAt ok w (.agg [c, d, m, C, D].toArray) a) (R : FAt ok w (.agg [l, e, g, h, i].toArray) b) :
  dtyR.fits ok w [AI p, AI n, iV k, q0, q1, q2, q3, q4, iV t, c, d, m, C, D, l, e, g, h, i] ⟨⟨p, n, k, f⟩, t, a, b⟩ :=
 ⟨[AI p, AI n, iV k, q0, q1, q2, q3, q4], [c, d, m, C, D], [l, e, g, h, i], rfl, ⟨[q0, q1, q2, q3, q4], rfl, rfl, X⟩, ⟨rfl, W⟩, ⟨rfl, R⟩⟩
theorem wch_of {ok : Nat → Prop} {w : World} {p n : LU} {k t : Int} {f a b g : Fml} {q0 q1 q2 q3 q4 c d m C D l e h i j X G E Z T : Value} (o : FAt ok w (.agg [q0, q1, q2, q3, q4].toArray) f) (W : FAt ok w (.agg [c, d, m, C, D].toArray) a) (R : FAt ok w (.agg [l, e, h, i, j].toArray) b) (q : FAt ok w (.agg [X, G, E, Z, T].toArray) g) :
  wchR.fits ok w [AI p, AI n, iV k, q0, q1, q2, q3, q4, iV t, c, d, m, C, D, l, e, h, i, j, X, G, E, Z, T] (⟨⟨p, n, k, f⟩, t, a, b⟩, g) :=
 ⟨_, [X, G, E, Z, T], rfl, dty_of o W R, ⟨rfl, q⟩⟩
theorem wch24 {ok : Nat → Prop} {w : World} {c : LV} {x : Dty × Fml} (h : wchR.fits ok w c x) : ∃ q0 q1 q2 q3 q4 k n m C D l d e t f X G E Z T, c = [AI x.1.req.part, AI x.1.req.name, iV x.1.req.kind, q0, q1, q2, q3, q4, iV x.1.since, k, n, m, C, D, l, d, e, t, f, X, G, E, Z, T] ∧ FAt ok w (.agg [q0, q1, q2, q3, q4].toArray) x.1.req.formula ∧ FAt ok w (.agg [k, n, m, C, D].toArray) x.1.first ∧ FAt ok w (.agg [l, d, e, t, f].toArray) x.1.now ∧ FAt ok w (.agg [X, G, E, Z, T].toArray) x.2 := by
 obtain ⟨a, b, rfl, g, ⟨S, W⟩⟩ := h;obtain ⟨q0, q1, q2, q3, q4, k, n, m, C, D, l, d, e, t, f, rfl, r, p, A⟩ := dty19 g;obtain ⟨X, G, E, Z, T, rfl⟩ := AX S;exact ⟨q0, q1, q2, q3, q4, k, n, m, C, D, l, d, e, t, f, X, G, E, Z, T, rfl, r, p, A, W⟩
theorem watch_ok (w : World) (sa : Option Addr) (sc : Nat) (S : List Sgn) (d : LV) (y : Dty) (x : Int) (b3 : Nat → Prop) (hS : SlAt sgnR AZ w (.slice sa S.length sc) S) (hd : dtyR.fits b3 w d y) (c9 : szF y.req.formula ≤ 1000000) (d0 : szF y.first ≤ 1000000) (hG : GF w) (hK : KY w) (hN : 10 ≤ w.heap.size) :
  Fn Zp 41 [.slice sa S.length sc, .agg d.toArray, iV x] w fun u w' => ∃ e : LV, u = .agg e.toArray ∧ Ext w w' ∧ wchR.fits (fun b => b3 b ∨ w.heap.size ≤ b) w' e (y, Ca S y.now x) := by
 have hone := dtyR.one hd;have hd := dtyR.lt hd;obtain ⟨P, Q, a, R, T, H, N, m, C, D, j, o, q, r, s, rfl, f1, f2, f3⟩ := dty19 hd;refine AG Tryz.func41 rfl Tryz.ntmps41 (go ?_);refine Aj (L := [AI y.req.part, AI y.req.name, iV y.req.kind, P, Q, a, R, T, iV y.since, H, N, m, C, D, j, o, q, r, s]) rfl (fun w1 n1 => ?_);refine AQ (fun w2 i => ?_);have z1 := n1.size;have z2 := i.size;have e2 : Ext w w2 := n1.E.trans i.E;have B1 := n1.D.E i.E O;have B2 := i.D;refine go ?_;refine AW (rd 0 5 (.alt 5 (.read 6 (.alt 7 (.alt 8 .done .stop) .stop)) (.alt 7 (.alt 5 (.read 6 (.alt 8 .done .stop)) .stop) .stop))) Al Dk (fun K kd I => ⟨Ext K, ?_, ?_⟩)
 ·exact EZ
 have a0 := B1.E kd O;have d2 := B2.E kd O;have c3 : Cells K w.heap.size (0 + 14) [j, o, q, r, s] := a0.cells.part 14 5;have I := e2.trans kd;obtain ⟨X, a3⟩ : ∃ X : LV, Blk w2 w1.heap.size 84 X ∧ X.length = 24 := ⟨_, B2, rfl⟩;have b1 := a3.1.E kd O;obtain ⟨A, hA⟩ : ∃ A : LV, A = [AI y.req.part, AI y.req.name, iV y.req.kind, P, Q, a, R, T, iV y.since, H, N, m, C, D, j, o, q, r, s] := ⟨_, rfl⟩;refine go ?_;refine D_R (v := .agg [j, o, q, r, s].toArray) rfl rfl (fun V hV => by refine AR (L := [j, o, q, r, s]) rfl rfl (c3.E hV O) ?_; exact AH ⟨rfl, rfl, rfl⟩) ?_;refine go ?_;have a6 := hG.ext I;have a7 := hK.E I O;have a8 := Nat.le_trans hN I.size;have a9 := hS.ext I;have a4 : FAt AZ K (.agg [j, o, q, r, s].toArray) y.now := (f3.ext I).mono fun _ _ => trivial
 refine D_leaf (α := Nat × Value × Value × Value × Value × Value) (.alt 8 .done .stop) (fun u => [(4, pt w.heap.size), (6, pt w1.heap.size), (7, pt u.1), (14, .agg [AI y.req.part, AI y.req.name, iV y.req.kind, P, Q, a, R, T, iV y.since, H, N, m, C, D, j, o, q, r, s, u.2.1, u.2.2.1, u.2.2.2.1, u.2.2.2.2.1, u.2.2.2.2.2].toArray)])
  (fun u V => Ext K V ∧ K.heap.size ≤ u.1 ∧ (∃ X, Blk V u.1 84 X ∧ X.length = 24) ∧ FAt (fun b => K.heap.size ≤ b ∧ b ≠ u.1) V (.agg [u.2.1, u.2.2.1, u.2.2.2.1, u.2.2.2.2.1, u.2.2.2.2.2].toArray) (Ca S y.now x)) ?_ (fun b2 => ?_)
 ·rintro ⟨c7, F, B, M, z, E⟩ f' V ⟨G, h7, ⟨z7, B7, b0⟩, fs⟩;simp only at h7 B7 fs;have c8 : oneC [F, B, M, z, E] := fmlR.one (c := [F, B, M, z, E]) ⟨rfl, fs⟩;have c6 : oneC [AI y.req.part, AI y.req.name, iV y.req.kind, P, Q, a, R, T, iV y.since, H, N, m, C, D, j, o, q, r, s, F, B, M, z, E] := oneC_app (l := [AI y.req.part, AI y.req.name, iV y.req.kind, P, Q, a, R, T, iV y.since, H, N, m, C, D, j, o, q, r, s]) hone c8;refine D_E rfl ?_;refine AE (cs := [AI y.req.part, AI y.req.name, iV y.req.kind, P, Q, a, R, T, iV y.since, H, N, m, C, D, j, o, q, r, s, F, B, M, z, E]) rfl rfl rfl c6 B7 (by simp [b0]) (fun W4 p4 => ?_);have g4 := p4.D;rw [BN z7 _ (by rw [b0]; rfl)] at g4;have zd := kd.size;have W : Ext K W4 := G.E p4.E Dl;have b5 := I.trans W;have z4 := W.size;have b8 := fs.E p4.E (fun b f g => by rw [List.mem_singleton] at g; exact f.2 g);have h1 := (a0.E W O);have cq : Cells W4 w.heap.size (0 + 0 + 3) [P, Q, a, R, T] := h1.cells.part 3 5;have d7 := b1.E W O;refine wNl W ?_;refine go ?_;refine AR (L := [P, Q, a, R, T]) rfl rfl cq ?_;refine AC (mcopied_ok W4 _ y.req.formula _ (f1.ext b5) c9) rfl ?_;rintro u5 W5 ⟨k5, r5⟩;obtain ⟨d5, rfl, c1, ho5⟩ := r5.cells;obtain ⟨u0, u1, u2, u3, u4, rfl⟩ := AX c1;have g5 := g4.E k5 O;refine go ?_;refine AE (cs := [u0, u1, u2, u3, u4]) rfl rfl rfl ho5 g5 O (fun W6 p6 => ?_);have g6 : Blk W6 c7 84 [AI y.req.part, AI y.req.name, iV y.req.kind, u0, u1, u2, u3, u4, iV y.since, H, N, m, C, D, j, o, q, r, s, F, B, M, z, E] := p6.D;have b4 := k5.any.trans p6.E (fun x h _ => h);have e6 : Ext K W6 := (W.trans k5).E p6.E Dl;have b6 := I.trans e6;have d4 : c7 < W4.heap.size := g4.lt;have r6 := r5.E p6.E (fun b f g => by rw [List.mem_singleton] at g; simp only at g; rcases f with f | f <;> omega);have d8 := b4.size;have c0 := a0.E e6 O;have ca : Cells W6 w.heap.size (0 + 9) [H, N, m, C, D] := c0.cells.part 9 5;have b9 := (b8.ext k5).E p6.E (fun b f g => by rw [List.mem_singleton] at g; exact f.2 g);refine go ?_;refine AR (L := [H, N, m, C, D]) rfl rfl ca ?_;refine AC (mcopied_ok W6 _ y.first _ (f2.ext b6) d0) rfl ?_;rintro u7 W7 ⟨k7, r7⟩;obtain ⟨d6, rfl, c2, c4⟩ := r7.cells;obtain ⟨v0, v1, v2, v3, v4, rfl⟩ := AX c2;have g7 := g6.E k7 O;refine go ?_;refine AE (cs := [v0, v1, v2, v3, v4]) rfl rfl rfl c4 g7 O (fun W8 p8 => ?_);have g8 : Blk W8 c7 84 [AI y.req.part, AI y.req.name, iV y.req.kind, u0, u1, u2, u3, u4, iV y.since, v0, v1, v2, v3, v4, j, o, q, r, s, F, B, M, z, E] := p8.D;have e8 : Ext K W8 := (e6.trans k7).E p8.E Dl;have a1 := I.trans e8;have d1 := b1.E e8 O;refine go ?_;have r8 := (r6.ext k7).E p8.E (fun b f g => by rw [List.mem_singleton] at g; simp only at g; rcases f with f | f <;> omega);have r9 := r7.E p8.E (fun b f g => by rw [List.mem_singleton] at g; simp only at g; rcases f with f | f <;> omega);have a5 := (b9.ext k7).E p8.E (fun b f g => by rw [List.mem_singleton] at g; exact f.2 g);have c5 : oneC [AI y.req.part, AI y.req.name, iV y.req.kind, u0, u1, u2, u3, u4, iV y.since, v0, v1, v2, v3, v4, j, o, q, r, s, F, B, M, z, E] := wchR.one (wch_of (p := y.req.part) (n := y.req.name) (k := y.req.kind) (t := y.since) (r8.mono fun _ _ => trivial) (r9.mono fun _ _ => trivial) ((f3.ext a1).mono (ok' := AZ) fun _ _ => trivial) (a5.mono fun _ _ => trivial));refine AE (cs := [AI y.req.part, AI y.req.name, iV y.req.kind, u0, u1, u2, u3, u4, iV y.since, v0, v1, v2, v3, v4, j, o, q, r, s, F, B, M, z, E]) rfl rfl rfl c5 d1 (by simp [a3.2]) (fun W9 Z => ?_);have g9 := Z.D;rw [BN X _ (by rw [a3.2]; rfl)] at g9;have b7 : Ext w W9 := a1.E Z.E Dl;have d3 : w1.heap.size < w2.heap.size := by omega
  refine go ?_;refine AT rfl rfl rfl g9.cells ⟨_, rfl, b7, ?_⟩;refine wch_of ((r8.E Z.E ?_).mono ?_) ((r9.E Z.E ?_).mono ?_) (((f3.ext a1).E Z.E ?_).mono ?_) ((a5.lt.E Z.E ?_).mono ?_)
  ·intro b f g; rw [List.mem_singleton] at g; rcases f with f | f <;> omega
  ·intro b f; rcases f with f | f
   ·exact .inl f.1
   ·exact .inr U
  ·intro b f g; rw [List.mem_singleton] at g; rcases f with f | f <;> omega
  ·intro b f; rcases f with f | f
   ·exact .inl f.1
   ·exact .inr U
  ·intro b f g; rw [List.mem_singleton] at g; omega
  ·exact fun b f => .inl f.1
  ·intro b f g; rw [List.mem_singleton] at g; have := f.1.1; omega
  ·exact fun b f => .inr (by have := f.1.1; have := I.size; omega)
 refine D_A rfl ?_ ?_
 ·refine AC (Step_ok K sa sc S _ y.now x a9 a4 a6 a7 a8) rfl ?_;rintro u V ⟨G, fV⟩;obtain ⟨cs, rfl, a2, -⟩ := fV.cells;obtain ⟨F, B, M, z, E, rfl⟩ := AX a2;refine wNl G ?_;refine go ?_;refine D_E rfl ?_;refine AQ (fun V2 i => ?_);refine wNl (G.trans i.E) ?_;have := G.size;have := I.size;exact b2 (V.heap.size, F, B, M, z, E) _ _ ag ⟨G.trans i.E, by simp only; omega, ⟨_, i.D, rfl⟩, (fV.lt.ext i.E).mono fun b f => ⟨by have := f.1.1; omega, by have := f.2; simp only; omega⟩⟩
 ·refine D_E rfl ?_;refine AQ (fun V2 i => ?_);have z2 := i.size;refine wNl i.E ?_;refine D_E rfl ?_;refine AC (Step_ok V2 sa sc S _ y.now x (a9.ext i.E) (a4.ext i.E) (a6.ext i.E) (a7.E i.E O) (Nat.le_trans a8 i.E.size)) rfl ?_;rintro u V ⟨G, fV⟩;obtain ⟨cs, rfl, a2, -⟩ := fV.cells;obtain ⟨F, B, M, z, E, rfl⟩ := AX a2;refine wNl (i.E.trans G) ?_;refine go ?_;have := I.size;exact b2 (K.heap.size, F, B, M, z, E) _ _ ag ⟨i.E.trans G, Nat.le_refl _, ⟨_, i.D.E G O, rfl⟩, fV.mono fun b f => ⟨by have := f.1; omega, by have := f.1; simp only; omega⟩⟩
theorem req8 {ok : Nat → Prop} {w : World} {c : LV} {x : Rqm} (h : reqR.fits ok w c x) : ∃ q0 q1 q2 q3 q4, c = [AI x.part, AI x.name, iV x.kind, q0, q1, q2, q3, q4] ∧ FAt ok w (.agg [q0, q1, q2, q3, q4].toArray) x.formula := by
 obtain ⟨d, rfl, C, I⟩ := h;obtain ⟨q0, q1, q2, q3, q4, rfl⟩ := AX C;exact ⟨q0, q1, q2, q3, q4, rfl, I⟩
theorem mstart1_ok (w : World) (tb : Nat) (t : Int) (d : LV) (r : Rqm) (ok0 : Nat → Prop) (Z : reqR.fits ok0 w d r) (ht : Blk w tb 3 [iV t]) (b9 : szF r.formula ≤ 1000000) (D : GF w) (W : KY w) (X : 10 ≤ w.heap.size) :
  Fn Zp 59 [.agg d.toArray, pt tb] w fun u w' => ∃ e : LV, u = .agg e.toArray ∧ Ext w w' ∧ dtyR.fits (fun b => ok0 b ∨ w.heap.size ≤ b) w' e (strD t r) := by
 have Z := reqR.lt Z;obtain ⟨o, v, a, c, C, rfl, f1⟩ := req8 Z;refine AG Tryz.func59 rfl Tryz.ntmps59 (go ?_);refine Aj (L := [AI r.part, AI r.name, iV r.kind, o, v, a, c, C]) rfl (fun w1 E => ?_);refine AQ (fun I V => ?_);have z1 := E.size;have z2 := V.size;have j : Ext w I := E.E.trans V.E;have B1 := E.D.E V.E O;have s := V.D;obtain ⟨P, c1, hzl⟩ : ∃ P : LV, Blk I w1.heap.size 40 P ∧ P.length = 19 := ⟨_, s, rfl⟩;clear s;have cq : Cells I w.heap.size (0 + 3) [o, v, a, c, C] := B1.cells.part 3 5;have a8 := f1.ext j;refine go ?_;refine AR (L := [o, v, a, c, C]) rfl rfl cq ?_;refine AC (gkernel_ok I _ r.formula (a8.mono fun _ _ => trivial) (D.ext j) (W.E j O) (Nat.le_trans X j.size)) rfl ?_;rintro u w3 ⟨cu, rfl, k3, fk⟩;obtain ⟨Q, rfl, hcs, b7⟩ := fk.cells;obtain ⟨y0, y1, y2, y3, y4, rfl⟩ := AX hcs;refine go ?_;refine An (cs := [y0, y1, y2, y3, y4]) rfl rfl Dn b7 (fun w4 K => ?_);have z4 := K.size;have R := k3.trans K.E;have e4 := j.trans R;have a9 := fk.ext K.E;have B4 := K.D;have m := B1.E R O;have a7 : Cells w4 w.heap.size (0 + 3) [o, v, a, c, C] := m.cells.part 3 5;refine go ?_;refine AR (L := [o, v, a, c, C]) rfl rfl a7 ?_;refine AC (mcopied_ok w4 _ r.formula _ (f1.ext e4) b9) rfl ?_;rintro u5 w5 ⟨f, r5⟩;obtain ⟨c5, rfl, hc5, b5⟩ := r5.cells;obtain ⟨B, G, i, F, H, rfl⟩ := AX hc5;have B15 := m.E f O;have e5 := e4.trans f;refine go ?_;refine AE (cs := [B, G, i, F, H]) rfl rfl rfl b5 B15 O (fun w6 g => ?_);have a5 : Blk w6 w.heap.size 38 [AI r.part, AI r.name, iV r.kind, B, G, i, F, H] := g.D;have e6 : Ext w w6 := e5.E g.E O;have d0 := R.size;have z5 := f.size;have z6 := g.size;have z3 := k3.size;have a6 := (B4.E f O).E g.E Dl;have c2 := ((c1.E R O).E f O).E g.E Dl;have r6 := r5.E g.E (fun b S A => by rw [List.mem_singleton] at A; rcases S with S | S <;> omega);have fk6 := (a9.ext f).E g.E (fun b S A => by rw [List.mem_singleton] at A; omega);have b8 := ht.E e6 O;refine go ?_;refine AW (rd 0 3 (.read 4 (.alt 3 (.alt 5 (.read 6 (.alt 7 .done .stop)) .stop) .stop))) Al Dk (fun wd N ed => ⟨Keep [w1.heap.size] wd, ?_, ?_⟩)
 ·exact Ep
 have c3 := a5.E N O;have c4 := a6.E N O;have c8 := b8.E N O;have c9 := ht.lt;refine go ?_;have z := e6.trans N;have fkd := (fk6.ext N).mono (ok' := AZ) fun _ _ => trivial;refine D_E rfl ?_;refine AC (BL wd _ _ fkd (D.ext z) (W.E z O) (Nat.le_trans X z.size)) rfl ?_;rintro ua Va ⟨l, fa⟩;obtain ⟨c6, rfl, hca, -⟩ := fa.cells;obtain ⟨a0, a1, a2, a3, a4, rfl⟩ := AX hca;refine wNl l.any ?_;refine D_E rfl ?_;have q := z.trans l;refine AC (BL Va _ _ (fkd.ext l) (D.ext q) (W.E q O) (Nat.le_trans X q.size)) rfl ?_;rintro ub Vb ⟨kb, T⟩;obtain ⟨c7, rfl, hcb, -⟩ := T.cells;obtain ⟨b0, b1, b2, b3, b4, rfl⟩ := AX hcb;have eb := q.trans kb;have M := l.trans kb;refine wNl M.any ?_;refine go ?_;refine D_E rfl ?_;have c0 := (c2.E N O).E M O;have rb := (r6.ext N).ext M;have fab := fa.ext kb;have zd := N.size;have za := l.size;have b6 : oneC [AI r.part, AI r.name, iV r.kind, B, G, i, F, H, iV t, a0, a1, a2, a3, a4, b0, b1, b2, b3, b4] := dtyR.one (dty_of (p := r.part) (n := r.name) (k := r.kind) (t := t) (rb.mono (ok' := AZ) fun _ _ => trivial) (fab.mono fun _ _ => trivial) (T.mono fun _ _ => trivial));refine AE (cs := [AI r.part, AI r.name, iV r.kind, B, G, i, F, H, iV t, a0, a1, a2, a3, a4, b0, b1, b2, b3, b4]) rfl rfl rfl b6 c0 (by simp [hzl]) (fun W9 y => ?_);have g9 := y.D;rw [BN P _ (by rw [hzl]; rfl)] at g9;have e9 : Ext w W9 := eb.E y.E Dl;refine wNl (M.any.trans y.E (fun x h _ => h)) ?_;refine go ?_;refine AT rfl rfl rfl g9.cells ⟨_, rfl, e9, ?_⟩;refine dty_of ((rb.E y.E ?_).mono ?_) ((fab.E y.E ?_).mono ?_) ((T.E y.E ?_).mono ?_)
 ·intro b S A; rw [List.mem_singleton] at A; rcases S with S | S <;> omega
 ·intro b S; rcases S with S | S
  ·exact .inl S.1
  ·exact .inr U
 ·intro b S A; rw [List.mem_singleton] at A; omega
 ·exact fun b S => .inr U
 ·intro b S A; rw [List.mem_singleton] at A; omega
 ·exact fun b S => .inr U
theorem tick1_ok (w : World) (t h : Nat) (M : Option Addr) (l : Nat) (S : List Sgn) (d : LV) (y : Dty) (x : Int) (i : Nat → Prop) (f : Blk w t 22 [.slice M S.length l]) (N : Blk w h 3 [iV x]) (H : SlAt sgnR AZ w (.slice M S.length l) S) (C : dtyR.fits i w d y) (o : szF y.req.formula ≤ 1000000) (q : szF y.first ≤ 1000000) (D : GF w) (G : KY w) (c : 10 ≤ w.heap.size) :
  Fn Zp 40 [.agg d.toArray, pt t, pt h] w fun u w' => ∃ e : LV, u = .agg e.toArray ∧ Ext w w' ∧ wchR.fits (fun b => i b ∨ w.heap.size ≤ b) w' e (y, Ca S y.now x) := by
 have I : d.length = 19 := dtyR.len C;have K := dtyR.lt C;refine AG Tryz.func40 rfl Tryz.ntmps40 (go ?_);refine Aj (L := d) rfl (fun Q E => ?_);refine AQ (fun m V => ?_);have W := E.size;have X := V.size;have j : Ext w m := E.E.trans V.E;have v := E.D.E V.E O;have s := V.D;obtain ⟨a, B, R⟩ : ∃ a : LV, Blk m Q.heap.size 84 a ∧ a.length = 24 := ⟨_, s, rfl⟩;clear s;have z := f.E j O;have P := N.E j O;refine go ?_;refine Bh rfl v I (go ?_);refine AC (watch_ok m M l S d y x _ (H.ext j) (dtyR.ext K j) o q (D.ext j) (G.E j O) (Nat.le_trans c j.size)) rfl ?_;rintro u T ⟨e, rfl, g, F⟩;have r : e.length = 24 := wchR.len F;refine AE (cs := e) rfl rfl r (wchR.one F) (B.E g O) U (fun p k => ?_);have n := k.D;rw [BN a _ U] at n;refine go ?_;refine AT rfl rfl r n.cells ⟨_, rfl, (j.trans g).E k.E Dl, wchR.mono (wchR.E F k.E ?_) ?_⟩
 ·intro b f A; rw [List.mem_singleton] at A; rcases f with f | f <;> omega
 ·intro b f; rcases f with f | f
  ·exact .inl f.1
  ·exact .inr U
theorem gone_ok (w : World) (d : LV) (y : Dty × Fml) (h : wchR.fits AZ w d y) : Fn Zp 43 [.agg d.toArray] w fun u w' => u = .bool (decide (y.2.op = 0)) ∧ Ext w w' := by
 obtain ⟨S, v, a, c, i, k, n, m, C, D, l, e, b, t, f, X, G, g, Z, T, rfl, -, -, -, I⟩ := wch24 h;obtain rfl := I.op0;refine AG Tryz.func43 rfl Tryz.ntmps43 (go ?_);refine Aj (L := [AI y.1.req.part, AI y.1.req.name, iV y.1.req.kind, S, v, a, c, i, iV y.1.since, k, n, m, C, D, l, e, b, t, f, iV y.2.op, G, g, Z, T]) rfl (fun Q E => go ?_);by_cases s : y.2.op = 0
 ·rw [s] at E;refine go ?_;exact AA rfl ⟨by rw [decide_eq_true s]; rfl, E.E⟩
 ·refine go ?_;exact AA rfl ⟨by rw [decide_eq_false s]; rfl, E.E⟩
theorem advanced_ok (w : World) (d : LV) (y : Dty × Fml) (i : Nat → Prop) (j : wchR.fits i w d y) : Fn Zp 45 [.agg d.toArray] w fun u w' => ∃ e : LV, u = .agg e.toArray ∧ Ext w w' ∧ dtyR.fits (fun b => i b ∨ w.heap.size ≤ b) w' e (y.1.to y.2) := by
 have j := wchR.lt j;have a1 := wchR.one j;obtain ⟨S, v, a, c, h, f, g, m, C, D, P, Q, R, W, b4, X, G, E, Z, T, rfl, f1, f2, -, I⟩ := wch24 j;refine AG Tryz.func45 rfl Tryz.ntmps45 (go ?_);refine Aj (L := [AI y.1.req.part, AI y.1.req.name, iV y.1.req.kind, S, v, a, c, h, iV y.1.since, f, g, m, C, D, P, Q, R, W, b4, X, G, E, Z, T]) rfl (fun w1 r => ?_);refine AQ (fun B V => ?_);have z1 := r.size;have z2 := V.size;have e2 : Ext w B := r.E.trans V.E;have H := r.D.E V.E O;have s := V.D;obtain ⟨q, a0, M⟩ : ∃ q : LV, Blk B w1.heap.size 40 q ∧ q.length = 19 := ⟨_, s, rfl⟩;clear s;have cc : Cells B w.heap.size (0 + 19) [X, G, E, Z, T] := H.cells.part 19 5;refine go ?_;refine AR (L := [X, G, E, Z, T]) rfl rfl cc (go ?_);refine AE (cs := [X, G, E, Z, T]) rfl rfl rfl (fmlR.one ⟨rfl, I⟩) H O (fun F o => ?_);have N : Blk F w.heap.size 84 [AI y.1.req.part, AI y.1.req.name, iV y.1.req.kind, S, v, a, c, h, iV y.1.since, f, g, m, C, D, X, G, E, Z, T, X, G, E, Z, T] := o.D;have ch : Cells F w.heap.size (0 + 0) [AI y.1.req.part, AI y.1.req.name, iV y.1.req.kind, S, v, a, c, h, iV y.1.since, f, g, m, C, D, X, G, E, Z, T] := N.cells.part 0 19;have z3 := o.size;have z : Ext w F := e2.E o.E O;refine go ?_;refine AR (L := [AI y.1.req.part, AI y.1.req.name, iV y.1.req.kind, S, v, a, c, h, iV y.1.since, f, g, m, C, D, X, G, E, Z, T]) rfl rfl ch ?_;have l := dty_of (p := y.1.req.part) (n := y.1.req.name) (k := y.1.req.kind) (t := y.1.since) (f1.ext z) (f2.ext z) (I.ext z);refine AE (cs := [AI y.1.req.part, AI y.1.req.name, iV y.1.req.kind, S, v, a, c, h, iV y.1.since, f, g, m, C, D, X, G, E, Z, T]) rfl rfl rfl (dtyR.one l) (a0.E o.E Dl) (by simp [M]) (fun w4 A => ?_);have x := A.D;rw [BN q _ (by rw [M]; rfl)] at x;refine go ?_;refine AT rfl rfl rfl x.cells ⟨_, rfl, z.E A.E Dl, dtyR.mono (dtyR.E l A.E ?_) ?_⟩
 ·intro b K hm; rw [List.mem_singleton] at hm; omega
 ·exact fun b K => .inl K.1
theorem fidx_hit {α : Type} {l : List α} {p : α → Bool} {k : Nat} {x : α} (V : l[k]? = some x) (v : p x = true) (a : ∀ (j : Nat) (y : α), j < k → l[j]? = some y → p y = false) : l.findIdx? p = some k := by
 have P := (List.getElem?_eq_some_iff.1 V).1;refine List.findIdx?_eq_some_iff_getElem.2 ⟨P, ?_, fun j E => ?_⟩
 ·have := (List.getElem?_eq_some_iff.1 V).2;rw [this]; exact v
 ·rw [a j _ E (List.getElem?_eq_getElem U)]; simp
theorem fidx_miss {α : Type} {l : List α} {p : α → Bool} (a : ∀ (j : Nat) (y : α), j < l.length → l[j]? = some y → p y = false) : l.findIdx? p = none := by
 refine List.findIdx?_eq_none_iff.2 fun x V => ?_;obtain ⟨i, F⟩ := List.getElem?_of_mem V;exact a i x (List.getElem?_eq_some_iff.1 F).1 F
def fidxI {α : Type} (l : List α) (p : α → Bool) : Int := match l.findIdx? p with | some j => (j : Int) | none => -1
theorem fidx_any {α : Type} (l : List α) (p : α → Bool) : decide (0 ≤ fidxI l p) = l.any p := by
 unfold fidxI;cases h : l.findIdx? p with
 | none =>
  have := List.findIdx?_eq_none_iff.1 h;simp only;rw [decide_eq_false U]
  symm
  rw [List.any_eq_false];exact fun x V => by simpa using this x V
 | some j =>
  obtain ⟨X, W, _⟩ := List.findIdx?_eq_some_iff_getElem.1 h;simp only;rw [decide_eq_true U];exact (List.any_eq_true.2 ⟨_, List.getElem_mem X, W⟩).symm
theorem idxW_ok (w : World) (a : Option Addr) (c : Nat) (l : List (Dty × Fml)) (F : FuncId) [hF : AD Zp F] (v1 v2 : LV) (p : Dty × Fml → Bool) (M : SlAt wchR AZ w (.slice a l.length c) l) (G : l.length ≤ 100000)
  (i : ∀ (W : World) (d : LV) (x : Dty × Fml), x ∈ l → Ext w W → (wchR).fits AZ W d x → Fn Zp F (v1 ++ [.agg d.toArray] ++ v2) W fun u e => u = .bool (p x) ∧ Ext W e) :
  Fn Zp 76 [.slice a l.length c, .func (.func F) v1.toArray v2.toArray] w fun u w' => u = iV (fidxI l p) ∧ Ext w w' := by
 refine AG Tryz.func76 rfl Tryz.ntmps76 (go ?_);refine Ah (α := Nat) (fun k => [(0, .slice a l.length c), (1, .func (.func F) v1.toArray v2.toArray), (7, iV (l.length : Int)), (8, iV (k : Int))]) (fun k W => k ≤ l.length ∧ Ext w W ∧ ∀ (j : Nat) (y : Dty × Fml), j < k → l[j]? = some y → p y = false) (fun k => l.length - k) 0 ag ⟨by omega, Ext.refl _, fun j y h => by omega⟩ ?_;rintro k W Z ⟨P, T, I⟩;refine go ?_;by_cases q : k < l.length
 ·obtain ⟨x, V⟩ := gl q;obtain ⟨b, o, d, rfl, S, C, X⟩ := M.at (sz := 24) rfl V;have f := C.E T O;have n := (wchR).E X T (fun _ _ => by simp);have E : d.length = 24 := (wchR).len X;refine go ?_;refine AR (L := d) rfl E f ?_;refine Av (v1 := v1) (v2 := v2) (vs := [.agg d.toArray]) rfl (i W d x (List.mem_of_getElem? V) T n) rfl ?_;rintro _ s ⟨rfl, g⟩;cases hp : p x with
  | true =>
   exact FJ
  | false =>
   refine go ?_;refine ⟨k + 1, ⟨rfl, ag, ⟨by omega, T.trans g, fun j y r K => ?_⟩⟩, by omega⟩;by_cases m : j = k
   ·subst m; rw [V] at K; cases K; exact hp
   ·exact I j y U K
 ·exact Ex
theorem hasW_ok (w : World) (a : Option Addr) (c : Nat) (l : List (Dty × Fml)) (F : FuncId) [hF : AD Zp F] (v1 v2 : LV) (p : Dty × Fml → Bool) (M : SlAt wchR AZ w (.slice a l.length c) l) (G : l.length ≤ 100000)
  (I : ∀ (W : World) (d : LV) (x : Dty × Fml), x ∈ l → Ext w W → (wchR).fits AZ W d x → Fn Zp F (v1 ++ [.agg d.toArray] ++ v2) W fun u b => u = .bool (p x) ∧ Ext W b) :
  Fn Zp 42 [.slice a l.length c, .func (.func F) v1.toArray v2.toArray] w fun u w' => u = .bool (l.any p) ∧ Ext w w' := by
 have j := fidx_any l p;refine AG Tryz.func42 rfl Tryz.ntmps42 (go ?_);refine AC (idxW_ok w a c l F v1 v2 p M G I) rfl ?_;rintro _ Q ⟨rfl, X⟩;by_cases s : 0 ≤ fidxI l p
 ·rw [decide_eq_true s] at j;exact FO
 ·rw [decide_eq_false s] at j;exact FO
theorem idxF_ok (w : World) (a : Option Addr) (c : Nat) (l : List (Fml)) (F : FuncId) [hF : AD Zp F] (v1 v2 : LV) (p : Fml → Bool) (M : SlAt fmlR AZ w (.slice a l.length c) l) (G : l.length ≤ 100000)
  (i : ∀ (W : World) (d : LV) (x : Fml), x ∈ l → Ext w W → (fmlR).fits AZ W d x → Fn Zp F (v1 ++ [.agg d.toArray] ++ v2) W fun u e => u = .bool (p x) ∧ Ext W e) :
  Fn Zp 345 [.slice a l.length c, .func (.func F) v1.toArray v2.toArray] w fun u w' => u = iV (fidxI l p) ∧ Ext w w' := by
 refine AG Tryz.func345 rfl Tryz.ntmps345 (go ?_);refine Ah (α := Nat) (fun k => [(0, .slice a l.length c), (1, .func (.func F) v1.toArray v2.toArray), (7, iV (l.length : Int)), (8, iV (k : Int))]) (fun k W => k ≤ l.length ∧ Ext w W ∧ ∀ (j : Nat) (y : Fml), j < k → l[j]? = some y → p y = false) (fun k => l.length - k) 0 ag ⟨by omega, Ext.refl _, fun j y h => by omega⟩ ?_;rintro k W Z ⟨P, T, I⟩;refine go ?_;by_cases q : k < l.length
 ·obtain ⟨x, V⟩ := gl q;obtain ⟨b, o, d, rfl, S, C, X⟩ := M.at (sz := 5) rfl V;have f := C.E T O;have n := (fmlR).E X T (fun _ _ => by simp);have E : d.length = 5 := (fmlR).len X;refine go ?_;refine AR (L := d) rfl E f ?_;refine Av (v1 := v1) (v2 := v2) (vs := [.agg d.toArray]) rfl (i W d x (List.mem_of_getElem? V) T n) rfl ?_;rintro _ s ⟨rfl, g⟩;cases hp : p x with
  | true =>
   exact FJ
  | false =>
   refine go ?_;refine ⟨k + 1, ⟨rfl, ag, ⟨by omega, T.trans g, fun j y r K => ?_⟩⟩, by omega⟩;by_cases m : j = k
   ·subst m; rw [V] at K; cases K; exact hp
   ·exact I j y U K
 ·exact Ex
theorem hasF_ok (w : World) (a : Option Addr) (c : Nat) (l : List (Fml)) (F : FuncId) [hF : AD Zp F] (v1 v2 : LV) (p : Fml → Bool) (M : SlAt fmlR AZ w (.slice a l.length c) l) (G : l.length ≤ 100000)
  (I : ∀ (W : World) (d : LV) (x : Fml), x ∈ l → Ext w W → (fmlR).fits AZ W d x → Fn Zp F (v1 ++ [.agg d.toArray] ++ v2) W fun u b => u = .bool (p x) ∧ Ext W b) :
  Fn Zp 342 [.slice a l.length c, .func (.func F) v1.toArray v2.toArray] w fun u w' => u = .bool (l.any p) ∧ Ext w w' := by
 have j := fidx_any l p;refine AG Tryz.func342 rfl Tryz.ntmps342 (go ?_);refine AC (idxF_ok w a c l F v1 v2 p M G I) rfl ?_;rintro _ Q ⟨rfl, X⟩;by_cases s : 0 ≤ fidxI l p
 ·rw [decide_eq_true s] at j;exact FO
 ·rw [decide_eq_false s] at j;exact FO
theorem idxD_ok (w : World) (a : Option Addr) (c : Nat) (l : List (Dty)) (F : FuncId) [hF : AD Zp F] (v1 v2 : LV) (p : Dty → Bool) (M : SlAt dtyR AZ w (.slice a l.length c) l) (G : l.length ≤ 100000)
  (i : ∀ (W : World) (d : LV) (x : Dty), x ∈ l → Ext w W → (dtyR).fits AZ W d x → Fn Zp F (v1 ++ [.agg d.toArray] ++ v2) W fun u e => u = .bool (p x) ∧ Ext W e) :
  Fn Zp 73 [.slice a l.length c, .func (.func F) v1.toArray v2.toArray] w fun u w' => u = iV (fidxI l p) ∧ Ext w w' := by
 refine AG Tryz.func73 rfl Tryz.ntmps73 (go ?_);refine Ah (α := Nat) (fun k => [(0, .slice a l.length c), (1, .func (.func F) v1.toArray v2.toArray), (7, iV (l.length : Int)), (8, iV (k : Int))]) (fun k W => k ≤ l.length ∧ Ext w W ∧ ∀ (j : Nat) (y : Dty), j < k → l[j]? = some y → p y = false) (fun k => l.length - k) 0 ag ⟨by omega, Ext.refl _, fun j y h => by omega⟩ ?_;rintro k W Z ⟨P, T, I⟩;refine go ?_;by_cases q : k < l.length
 ·obtain ⟨x, V⟩ := gl q;obtain ⟨b, o, d, rfl, S, C, X⟩ := M.at (sz := 19) rfl V;have f := C.E T O;have n := (dtyR).E X T (fun _ _ => by simp);have E : d.length = 19 := (dtyR).len X;refine go ?_;refine AR (L := d) rfl E f ?_;refine Av (v1 := v1) (v2 := v2) (vs := [.agg d.toArray]) rfl (i W d x (List.mem_of_getElem? V) T n) rfl ?_;rintro _ s ⟨rfl, g⟩;cases hp : p x with
  | true =>
   exact FJ
  | false =>
   refine go ?_;refine ⟨k + 1, ⟨rfl, ag, ⟨by omega, T.trans g, fun j y r K => ?_⟩⟩, by omega⟩;by_cases m : j = k
   ·subst m; rw [V] at K; cases K; exact hp
   ·exact I j y U K
 ·exact Ex
theorem mtick_ok (w : World) (b : Option Addr) (e : Nat) (S : List Sgn) (a : Option Addr) (c : Nat) (l : List Dty) (x : Int) (h : SlAt sgnR AZ w (.slice b S.length e) S) (v : SlAt dtyR AZ w (.slice a l.length c) l) (G : l.length ≤ 1000) (n : ∀ y ∈ l, szF y.req.formula ≤ 1000000 ∧ szF y.first ≤ 1000000) (D : GF w) (r : KY w) (t : 10 ≤ w.heap.size) :
  Fn Zp 13 [.slice b S.length e, .slice a l.length c, iV x] w fun u w' => Ext w w' ∧ SlAt dtyR AZ w' u (tickF S l x) := by
 refine AG Tryz.func13 rfl Tryz.ntmps13 (go ?_);refine Aj (L := [.slice b S.length e]) rfl (fun Q E => ?_);refine Aj (L := [iV x]) rfl (fun A V => ?_);have i := E.E.trans V.E;have q := E.D.E V.E O;have s := V.D;refine go ?_;refine AC (mapWatch_ok A a c l 40 [] [pt w.heap.size, pt Q.heap.size] (fun y => (y, Ca S y.now x)) (v.ext i) G (fun W d y K M C => ?_)) rfl ?_
 ·have H := i.trans M;exact tick1_ok W w.heap.size Q.heap.size b e S d y x _ (q.E M O) (s.E M O) (h.ext H) C (n y K).1 (n y K).2 (D.ext H) (r.E H O) (Nat.le_trans t H.size)
 rintro u B ⟨g, R⟩;have z := i.trans g;obtain ⟨k, Z, rfl, _⟩ := R.len;refine go ?_;refine AC (hasW_ok B k Z _ 43 [] [] (fun p => decide (p.2.op = 0)) R (by rw [List.length_map]; omega) (fun W d y K M C => gone_ok W d y C)) rfl ?_;rintro _ F ⟨rfl, o⟩;have m := z.trans o;have j : ((l.map fun y => (y, Ca S y.now x)).any fun p => decide (p.2.op = 0)) = l.any fun y => decide ((Ca S y.now x).op = 0) := by rw [List.any_map]; rfl
 rw [j];unfold tickF;cases hc : l.any fun y => decide ((Ca S y.now x).op = 0) with
 | true =>
  rw [if_pos rfl];refine go ?_;exact AA rfl ⟨m, none, 0, [], rfl, ⟨none, 0, rfl, Nat.le_refl _, by omega, fun _ => rfl, .inl rfl⟩, RsAt.nil⟩
 | false =>
  rw [if_neg O];refine go ?_;refine AC (mapNext_ok F k Z _ 45 [] [] (fun p => p.1.to p.2) (R.ext o) (by rw [List.length_map]; omega) (fun W d y K M C => advanced_ok W d y _ C)) rfl ?_;rintro u I ⟨f, P⟩;refine go ?_;refine AA rfl ⟨m.trans f, ?_⟩;rw [List.map_map] at P;exact P
theorem mstart_ok (w : World) (M : Option Addr) (a : Nat) (H : Option Addr) (B : Nat) (s : Spc) (t : Int) (ht : 0 ≤ t) (X : SlAt sgnR AZ w (.slice M s.sigs.length a) s.sigs) (p : SlAt reqR AZ w (.slice H s.reqs.length B) s.reqs) (hz : ∀ r ∈ s.reqs, szF r.formula ≤ 1000000) (D : GF w) (m : KY w) (c : 10 ≤ w.heap.size) :
  Fn Zp 21 [.agg #[.slice M s.sigs.length a, .slice H s.reqs.length B], iV t] w fun u w' => ∃ (v : Value) (e : Int), u = .tuple #[v, iV e] ∧ Ext w w' ∧ (e = 0 ↔ chkB s = true) ∧ (chkB s = true → SlAt dtyR AZ w' v (CW s t)) := by
 refine AG Tryz.func21 rfl Tryz.ntmps21 (go ?_);refine Aj (L := [.slice M s.sigs.length a, .slice H s.reqs.length B]) rfl (fun Q E => ?_);refine Aj (L := [iV t]) rfl (fun w2 j => ?_);have x := E.E.trans j.E;have A := E.D.E j.E O;have R := j.D;refine go ?_;refine AC (check_ok w2 M a H B s (X.ext x) (p.ext x) (D.ext x) (m.E x O) (Nat.le_trans c x.size)) rfl ?_;rintro v q ⟨g, n, xs, f, a5, a9, C, P⟩;have z := x.trans g;have a3 := A.E g O;have I := R.E g O;have hs : Sl AZ q v n xs := AV f fun _ _ => trivial;obtain ⟨va, vc, rfl, a6, a7, a8, a1⟩ := hs;refine go ?_;by_cases Z : n = 0;rotate_left
 ·have T : ¬ chkB s = true := fun h => Z (C.2 h);obtain ⟨e, F, a2⟩ := P Z;obtain ⟨b, o, rfl, -, a0⟩ := a1.resolve_left Z;have G := a0 1 _ a2;refine go ?_;refine AW (rd 0 6 .done) Al Dk (fun K N ed => ⟨Ext K, ?_, ?_⟩)
  ·exact EZ
  have q1 : ∀ V, Ext K V → V.cell? ⟨b, o + 0 * 2 + 1, none⟩ = some (iV e) := fun V k => k.cell (N.cell (by simpa using G) O) O;refine go ?_;exact Cv rfl ⟨_, e, rfl, z.trans N, by simp [F, T], fun h => absurd h T⟩
 ·have T := C.1 Z;have a4 : s.reqs.length ≤ 16 := by simp [chkB] at T; omega
  subst Z;refine go ?_;refine AC (mapStart_ok q H B s.reqs 59 [] [pt Q.heap.size] (strD t) (p.ext z) U (fun W d y hy l hd => ?_)) rfl ?_
  ·have i := z.trans l;exact mstart1_ok W Q.heap.size t d y _ hd (I.E l O) (hz y hy) (D.ext i) (m.E i O) (Nat.le_trans c i.size)
  rintro u w4 ⟨k4, S⟩;refine go ?_;exact Cv rfl ⟨_, 0, rfl, z.trans k4, by simp [T], fun _ => S⟩
abbrev tok (c : Nat) (v1 v2 : Value) (b : Nat) : Prop := b ≠ c ∧ v1.ownBlock ≠ some b ∧ v2.ownBlock ≠ some b
structure TwoA (B c : Nat) (W : World) (v1 v2 : Value) (l1 l2 : LF) : Prop where
 o1 : ∃ L, W.ownsRow B 36 5 v1 l1.length L.flatten ∧ FsAt (tok c v1 v2) W L l1
 o2 : ∃ L, W.ownsRow B 36 5 v2 l2.length L.flatten ∧ FsAt (tok c v1 v2) W L l2
 ne : ∀ g, v1.ownBlock = some g → v2.ownBlock ≠ some g
 cB : c < B
theorem TwoA.start {B c : Nat} (W : World) (h : c < B) : TwoA B c W (.slice none 0 0) (.slice none 0 0) [] [] :=
 ⟨⟨[], ⟨rfl, .inl ⟨rfl, rfl⟩⟩, FsAt.nil _ _⟩, ⟨[], ⟨rfl, .inl ⟨rfl, rfl⟩⟩, FsAt.nil _ _⟩, fun g h => by simp [Value.ownBlock] at h, h⟩
theorem TwoA.swap {B c : Nat} {W : World} {v1 v2 : Value} {a d : LF} (h : TwoA B c W v1 v2 a d) : TwoA B c W v2 v1 d a := by
 obtain ⟨⟨e, Q, M⟩, ⟨v, C, T⟩, K, V⟩ := h;exact ⟨⟨v, C, T.mono fun b S => ⟨S.1, S.2.2, S.2.1⟩⟩, ⟨e, Q, M.mono fun b S => ⟨S.1, S.2.2, S.2.1⟩⟩, fun g X f => K g f X, V⟩
theorem TwoA.E {X : List Nat} {B c : Nat} {W a : World} {v1 v2 : Value} {e j : LF} (h : TwoA B c W v1 v2 e j) (k : Keep X W a) (d : ∀ x ∈ X, x = c) : TwoA B c a v1 v2 e j := by
 obtain ⟨⟨l, Q, M⟩, ⟨m, C, T⟩, K, V⟩ := h;have q : ∀ {v : Value} {n : Nat} {i : LV}, W.ownsRow B 36 5 v n i → a.ownsRow B 36 5 v n i := fun f => Ad f k fun g z A => by have := (Ab f z).1; have := d g A; omega
 exact ⟨⟨l, q Q, M.E k fun b S A => S.1 (d b A)⟩, ⟨m, q C, T.E k fun b S A => S.1 (d b A)⟩, K, V⟩
theorem TwoA.sl {B c : Nat} {W : World} {v1 v2 : Value} {g f : LF} (h : TwoA B c W v1 v2 g f) : ∃ a c, v1 = .slice a g.length c ∧ SlAt fmlR AZ W v1 g := by
 exact Ej
theorem TwoA.push {B c : Nat} {W x s : World} {v1 v2 i : Value} {n t : LF} {o : List (LV)} {cs : LV} {f : Fml} (h : TwoA B c W v1 v2 n t) (Q : W.ownsRow B 36 5 v1 n.length o.flatten) (u : FsAt (tok c v1 v2) W o n)
  (M : Ext W x) (I : FAt (tok c v1 v2) x (.agg cs.toArray) f) (w : cs.length = 5) (m : c < W.heap.size) (k : Apd x s B 36 5 v1 i (n.length + 1) (o.flatten ++ cs)) : TwoA B c s i v2 (n ++ [f]) t := by
 obtain ⟨-, ⟨v, C, T⟩, K, V⟩ := h;have z := M.size;have E : ∀ g, v1.ownBlock = some g → B ≤ g ∧ g < W.heap.size := fun g d => Ab Q d;have j : ∀ g, v2.ownBlock = some g → B ≤ g ∧ g < W.heap.size := fun g d => Ab C d
 have p : ∀ g, i.ownBlock = some g → v1.ownBlock = some g ∨ g = x.heap.size := fun g d => by
  rcases k.D with e | e
  ·exact .inl (by rw [← e]; exact d)
  ·rw [e] at d; exact .inr (Option.some.inj d).symm
 have q : ∀ y, y ∈ v1.ownBlock.toList → v1.ownBlock = some y := fun y D => Option.mem_toList.1 D
 have Z : ∀ {L : List (LV)} {l : LF}, FsAt (tok c v1 v2) W L l → FsAt (tok c i v2) s L l := fun I => by
  refine ((I.lt.ext M).E k.E fun b S A => S.1.2.1 (q b A)).mono fun b S => ⟨S.1.1, fun e => ?_, S.1.2.2⟩;rcases p b e with e | e
  ·exact S.1.2.1 e
  ·have := S.2; omega
 have a : FAt (tok c i v2) s (.agg cs.toArray) f := by
  refine (I.lt.E k.E fun b S A => S.1.2.1 (q b A)).mono fun b S => ⟨S.1.1, fun e => ?_, S.1.2.2⟩;rcases p b e with e | e
  ·exact S.1.2.1 e
  ·have := S.2; omega
 refine ⟨⟨o ++ [cs], ?_, (Z u).snoc a w⟩, ⟨v, Ad (Aa C M) k.E fun g d A => K g (q g A) d, Z T⟩, fun g d r => ?_, V⟩
 ·have := k.own;simpa using this
 ·rcases p g d with e | e
  ·exact K g e r
  ·have := (j g r).2; omega
theorem sl_new {w w' : World} {T : TypeId} {X G E Z a : Value} (n : New w w' T [X, G, E, Z, a]) : Sl AZ w' (.slice (sm w.heap.size) 1 1) 1 [X, G, E, Z, a] :=
 AV (n.own (n := 1) (size := 5) rfl Dq (Nat.le_refl _)) fun _ _ => trivial
theorem asms_snoc {l : List Dty} {k : Nat} {x : Dty} (h : l[k]? = some x) : asmsF (l.take (k + 1)) = asmsF (l.take k) ++ (if asmD x = true then [notR x.now] else []) ∧ gusF (l.take (k + 1)) = gusF (l.take k) ++ (if asmD x = true then [] else [x.now]) ∧ (l.take (k + 1)).all kindD = ((l.take k).all kindD && kindD x) := by
 have S : l.take (k + 1) = l.take k ++ [x] := by rw [List.take_add_one, h]; rfl
 rw [S];unfold asmsF gusF;rw [List.filter_append, List.filter_append];cases hx : asmD x <;> simp [hx]
theorem asms_len (l : List Dty) : (asmsF l).length ≤ l.length ∧ (gusF l).length ≤ l.length := by
 unfold asmsF gusF;rw [List.length_map, List.length_map];exact ⟨List.length_filter_le _ _, List.length_filter_le _ _⟩
set_option maxHeartbeats 1000000 in
theorem mgoal_ok (w : World) (a : Option Addr) (c : Nat) (l : List Dty) (hl : SlAt dtyR AZ w (.slice a l.length c) l) (hn : l.length ≤ 100) (hG : GF w) (hK : KY w) (hN : 10 ≤ w.heap.size) :
  Fn Zp 15 [.slice a l.length c] w fun u w' => Ext w w' ∧ FAt (fun b => w.heap.size ≤ b) w' u (C0 l) := by
 have d3 := (hl.lt (show 0 < dtyR.size by decide)).mono (ok' := fun b => b < w.heap.size) fun b n => n.2;refine AG Tryz.func15 rfl Tryz.ntmps15 (go ?_);refine AQ (L := zero5) (fun w1 n1 => go ?_);refine AQ (L := [.slice none 0 0, .slice none 0 0, .slice none 0 0, .slice none 0 0]) (fun w2 n2 => ?_);have z1 := n1.size;have z2 := n2.size;have e2 := n1.E.trans n2.E;have B1 := n1.D.E n2.E O;have B2 := n2.D;refine go ?_
 refine Ah (α := Nat × Value × Value) (fun y => [(2, pt w.heap.size), (3, pt w1.heap.size), (7, .slice a l.length c), (8, iV (l.length : Int)), (9, iV (y.1 : Int))])
  (fun y W => y.1 ≤ l.length ∧ Ext w W ∧ Blk W w.heap.size 36 zero5 ∧ Blk W w1.heap.size 93 [.slice none 0 0, y.2.1, y.2.2, .slice none 0 0] ∧ w2.heap.size ≤ W.heap.size ∧ TwoA w2.heap.size w1.heap.size W y.2.1 y.2.2 (asmsF (l.take y.1)) (gusF (l.take y.1)) ∧ (l.take y.1).all kindD = true) (fun y => l.length - y.1) (0, .slice none 0 0, .slice none 0 0) ag ⟨by simp, e2, B1, B2, Nat.le_refl _, TwoA.start _ U, rfl⟩ ?_
 rintro ⟨k, R, v2⟩ W fr ⟨d2, T, C1, C2, zW, C, hall⟩;simp only at d2 T C1 C2 zW C hall;refine go ?_;by_cases d4 : k < l.length
 ·obtain ⟨x, hx⟩ := gl d4;obtain ⟨b0, b1, b2⟩ := asms_snoc hx;obtain ⟨b, o, d, rfl, n, hd, hfx⟩ := d3.at (sz := 19) rfl hx;obtain ⟨q0, q1, q2, q3, q4, a0, a1, a2, a3, a4, s, B, E, t, H, rfl, -, -, f3⟩ := dty19 hfx;have a7 := dtyR.one hfx;have hdW := hd.E T O;refine go ?_;refine AR (L := [AI x.req.part, AI x.req.name, iV x.req.kind, q0, q1, q2, q3, q4, iV x.since, a0, a1, a2, a3, a4, s, B, E, t, H]) rfl rfl hdW ?_;refine An (cs := [AI x.req.part, AI x.req.name, iV x.req.kind, q0, q1, q2, q3, q4, iV x.since, a0, a1, a2, a3, a4, s, B, E, t, H]) rfl rfl Dn a7 (fun w5 n5 => ?_);have z5 := n5.size;have e5 := T.trans n5.E;have D1 := C1.E n5.E O;have D2 := C2.E n5.E O;have B5 := n5.D;have c1 := C.E n5.E O;have a8 := f3.ext e5;have cn : Cells w5 W.heap.size (0 + 14) [s, B, E, t, H] := B5.cells.part 14 5;have e1 : kindD x = true ∨ kindD x = false := by cases kindD x <;> simp
  by_cases X : x.req.kind = 1
  ·have ha : asmD x = true := by unfold asmD; exact decide_eq_true X
   have hkx : kindD x = true := by unfold kindD; rw [decide_eq_true X]; rfl
   refine go ?_;refine AW (.read 0 (.read 2 (.read 3 (.alt 1 (.alt 4 (.alt 5 (.alt 6 (.read 7 (.alt 8 .done .stop)) .stop) .stop) .stop) (.alt 4 (.alt 1 (.alt 5 (.alt 6 (.read 7 (.alt 8 .done .stop)) .stop) .stop) (.alt 5 (.alt 1 (.alt 6 (.read 7 (.alt 8 .done .stop)) .stop) .stop) .stop)) .stop))))) Al Dk (fun p N ed => ⟨Keep (w1.heap.size :: R.ownBlock.toList) p, ?_, ?_⟩)
   ·exact Ep
   have zd := N.size;have a5 := e5.trans N;have D := c1.E N O;have E1 := D1.E N O;have E2 := D2.E N O;have E5 := B5.E N O;have b6 := a8.ext N;have b8 := hG.ext a5;have b9 := hK.E a5 O;have c0 := Nat.le_trans hN a5.size;have c5 : Cells p W.heap.size (0 + 14) [s, B, E, t, H] := E5.cells.part 14 5;obtain ⟨L1, Q, fs1⟩ := id D.o1;have a6 := (asms_len (l.take k)).1;have d5 : (asmsF (l.take k)).length ≤ k := by rw [List.length_take] at a6; omega
   have d8 : ∀ y ∈ R.ownBlock.toList, w2.heap.size ≤ y ∧ y < p.heap.size ∧ y ≠ W.heap.size := fun y K => by
    have X := Ab Q (Option.mem_toList.1 K);obtain ⟨e0, d9, -⟩ := C.o1;have h2 := Ab d9 (Option.mem_toList.1 K);exact ⟨X.1, X.2, by omega⟩
   have d6 : W.heap.size ∉ w1.heap.size :: R.ownBlock.toList := fun A => by
    rcases List.mem_cons.1 A with h | h
    ·omega
    ·exact (d8 _ h).2.2 rfl
   refine go ?_;refine D_R (v := .agg [s, B, E, t, H].toArray) rfl rfl (fun V hV => by refine AR (L := [s, B, E, t, H]) rfl rfl (c5.E hV d6) ?_; exact AH ⟨rfl, rfl, rfl⟩) ?_;refine go ?_
   refine D_leaf (α := Nat × Value × Value × Value × Value × Value) (.alt 6 (.read 7 (.alt 8 .done .stop)) .stop) (fun u => [(2, pt w.heap.size), (3, pt w1.heap.size), (7, .slice (some ⟨b, o, none⟩) l.length c), (8, iV (l.length : Int)), (9, iV (k : Int)), (20, R), (24, .slice (sm u.1) 1 1)])
    (fun u V => Ext p V ∧ Blk V u.1 36 [u.2.1, u.2.2.1, u.2.2.2.1, u.2.2.2.2.1, u.2.2.2.2.2] ∧ FAt (fun b => p.heap.size ≤ b) V (.agg [u.2.1, u.2.2.1, u.2.2.2.1, u.2.2.2.2.1, u.2.2.2.2.2].toArray) (notR x.now)) ?_ (fun b3 => ?_)
   ·rintro ⟨g, F, P, M, z, Z⟩ f' V ⟨eV, bV, I⟩;simp only at bV I;have hos : oneC [F, P, M, z, Z] := fmlR.one (c := [F, P, M, z, Z]) ⟨rfl, I⟩;have zV := eV.size;refine D_E rfl ?_;refine Ak (ok := AZ) (v := R) rfl rfl (Aa Q eV) ⟨some ⟨g, 0, none⟩, 1, rfl, Nat.le_refl _, by omega, (fun h => by cases h), .inr ⟨g, 0, rfl, trivial, bV.cells⟩⟩ U rfl rfl hos U U U (fun i w8 S => ?_);have r : ∀ y ∈ (R).ownBlock.toList, w2.heap.size ≤ y := fun y K => (Ab (Aa Q eV) (Option.mem_toList.1 K)).1;have F1 := (E1.E eV O).E S.E (fun A => by have := r _ A; omega);have F2 := (E2.E eV O).E S.E (fun A => by have := r _ A; omega);have hTp := D.push Q fs1 eV (I.mono fun b n => ⟨by omega, fun e => by have := (Ab Q e).2; omega, fun e => by obtain ⟨L2, o2, -⟩ := D.o2; have := (Ab o2 e).2; omega⟩) rfl U S;refine wNl (eV.any.trans S.E (fun y K _ => List.mem_cons_of_mem _ K)) ?_;refine go ?_;refine D_E rfl ?_;refine AN (v := i) rfl rfl (Cs S.own) F2 O (fun w9 m => ?_);have j : Ext w w9 := ((a5.trans eV).E S.E (fun y K => by have := r y K; omega)).E m.E Dl;refine wNl ((eV.any.trans S.E (fun y K _ => List.mem_cons_of_mem _ K)).trans m.E (fun y K _ => by rw [List.mem_singleton] at K; rw [K]; exact List.mem_cons_self ..)) ?_;have z8 := S.E.size;have z9 := m.size;refine go ?_;refine ⟨(k + 1, i, v2), ⟨rfl, ag, ⟨by simp only; omega, j, F1.E m.E Dl, m.D, by omega, ?_, ?_⟩⟩, by simp only; omega⟩
    ·simp only;rw [b0, b1, if_pos ha, if_pos ha, List.append_nil];exact hTp.E m.E O
    ·simp only;rw [b2, hall, hkx]; rfl
   have K0 : ∀ {V}, Ext p V → Keep (w1.heap.size :: R.ownBlock.toList) p V := fun e => e.any;have d1 := E2.cell (o := 0 + 1) rfl;refine D_A rfl ?_ (D_E rfl ?_)
   ·refine AM rfl d1 ?_;refine wNl (Keep.refl _ _) ?_;refine go ?_;refine D_E rfl ?_;refine AC (not_ok p _ x.now ((b6.ext (Ext.refl p)).mono fun _ _ => trivial) (b8.ext (Ext.refl p)) (b9.E (Ext.refl p) O) (Nat.le_trans c0 ((Ext.refl p)).size)) rfl ?_;rintro u V ⟨G, I⟩;obtain ⟨cs, rfl, hcs, hos⟩ := I.cells;obtain ⟨F, P, M, z, Z, rfl⟩ := AX hcs;refine wNl ((Ext.trans (Ext.refl p) G).any) ?_;exact Em
   ·refine AC (not_ok p _ x.now ((b6.ext (Ext.refl p)).mono fun _ _ => trivial) (b8.ext (Ext.refl p)) (b9.E (Ext.refl p) O) (Nat.le_trans c0 ((Ext.refl p)).size)) rfl ?_;rintro u V ⟨G, I⟩;obtain ⟨cs, rfl, hcs, hos⟩ := I.cells;obtain ⟨F, P, M, z, Z, rfl⟩ := AX hcs;refine wNl ((Ext.trans (Ext.refl p) G).any) ?_;refine go ?_;refine D_A rfl ?_ (D_E rfl ?_)
    ·refine AM rfl (G.cell d1 O) ?_;refine wNl G.any ?_;exact Em
    ·refine AL (out := [F, P, M, z, Z]) rfl U Dr (fun V2 q => ?_);refine wNl ((Ext.trans G q.E).any) ?_;refine go ?_;refine D_E rfl ?_;refine AM rfl ((G.trans q.E).cell d1 O) ?_;refine wNl ((G.trans q.E).any) ?_;exact b3 (V.heap.size, F, P, M, z, Z) _ _ ag ⟨G.trans q.E, q.D, (I.ext q.E).mono fun b n => n⟩
  ·have ha : asmD x = false := by unfold asmD; exact decide_eq_false X
   have D := c1;obtain ⟨L1, Q, fs1⟩ := id D.swap.o1;have a6 := (asms_len (l.take k)).2;have d5 : (gusF (l.take k)).length ≤ k := by rw [List.length_take] at a6; omega
   by_cases b7 : x.req.kind = 2 ∨ x.req.kind = 3
   ·have hkx : kindD x = true := by unfold kindD; rcases b7 with h | h <;> rw [h] <;> rfl
    have c3 : oneC [s, B, E, t, H] := fmlR.one (c := [s, B, E, t, H]) ⟨rfl, f3⟩;rcases b7 with h2 | h2
    ·refine go ?_;refine AR (L := [s, B, E, t, H]) rfl rfl cn ?_;refine AL (out := [s, B, E, t, H]) rfl U Dr (fun w7 f => ?_);have z7 := f.size;refine Ak (ok := AZ) (v := v2) rfl rfl (Aa Q f.E) (sl_new f) U rfl rfl c3 U U U (fun i w8 S => ?_);have r : ∀ y ∈ (v2).ownBlock.toList, w2.heap.size ≤ y := fun y K => (Ab (Aa Q f.E) (Option.mem_toList.1 K)).1;have F1 := (D1.E f.E O).E S.E (fun A => by have := r _ A; omega);have F2 := (D2.E f.E O).E S.E (fun A => by have := r _ A; omega);have hTp := D.swap.push Q fs1 f.E ((a8.ext f.E).mono fun b n => ⟨by omega, fun e => by have := (Ab Q e).1; omega, fun e => by obtain ⟨L2, o2, -⟩ := D.o1; have := (Ab o2 e).1; omega⟩) rfl U S;have z8 := S.E.size;refine go ?_;refine AN (v := i) rfl rfl (Cs S.own) F2 O (fun w9 m => ?_);have z9 := m.size;refine go ?_;refine ⟨(k + 1, R, i), ⟨rfl, ag, ⟨by simp only; omega, ((e5.trans f.E).E S.E (fun y K => by have := r y K; omega)).E m.E Dl, F1.E m.E Dl, m.D, by omega, ?_, ?_⟩⟩, by simp only; omega⟩
     ·exact Fa
     ·simp only;rw [b2, hall, hkx]; rfl
    ·refine go ?_;refine AR (L := [s, B, E, t, H]) rfl rfl cn ?_;refine AL (out := [s, B, E, t, H]) rfl U Dr (fun w7 f => ?_);have z7 := f.size;refine Ak (ok := AZ) (v := v2) rfl rfl (Aa Q f.E) (sl_new f) U rfl rfl c3 U U U (fun i w8 S => ?_);have r : ∀ y ∈ (v2).ownBlock.toList, w2.heap.size ≤ y := fun y K => (Ab (Aa Q f.E) (Option.mem_toList.1 K)).1;have F1 := (D1.E f.E O).E S.E (fun A => by have := r _ A; omega);have F2 := (D2.E f.E O).E S.E (fun A => by have := r _ A; omega);have hTp := D.swap.push Q fs1 f.E ((a8.ext f.E).mono fun b n => ⟨by omega, fun e => by have := (Ab Q e).1; omega, fun e => by obtain ⟨L2, o2, -⟩ := D.o1; have := (Ab o2 e).1; omega⟩) rfl U S;have z8 := S.E.size;refine go ?_;refine AN (v := i) rfl rfl (Cs S.own) F2 O (fun w9 m => ?_);have z9 := m.size;refine go ?_;refine ⟨(k + 1, R, i), ⟨rfl, ag, ⟨by simp only; omega, ((e5.trans f.E).E S.E (fun y K => by have := r y K; omega)).E m.E Dl, F1.E m.E Dl, m.D, by omega, ?_, ?_⟩⟩, by simp only; omega⟩
     ·exact Fa
     ·simp only;rw [b2, hall, hkx]; rfl
   ·have hkx : kindD x = false := by unfold kindD; rw [decide_eq_false X, decide_eq_false U, decide_eq_false U]; rfl
    refine go ?_;refine AE (cs := zero5) rfl rfl rfl (AU rfl) D1 Dp (fun w9 m => ?_)
    have d0 : l.all kindD = false := by
     rw [List.all_eq_false];exact ⟨x, List.mem_of_getElem? hx, by simp [hkx]⟩
    refine go ?_;refine AT rfl rfl rfl m.D.cells ⟨e5.E m.E O, ?_⟩;unfold C0;rw [d0];exact FAt.leaf _ _ 0 [] 0 0
 ·obtain rfl : k = l.length := by omega
  rw [List.take_length] at C hall;obtain ⟨a6, hl2'⟩ := asms_len l;obtain ⟨a2, c2, rfl, c7⟩ := C.swap.sl;refine go ?_;refine AC (andor_ok W 5 a2 c2 (gusF l) c7 U (hG.ext T) (hK.E T O) (Nat.le_trans hN T.size)).1 rfl ?_;rintro u4 w4 ⟨k4, f4⟩;obtain ⟨cs, rfl, hcs, a7⟩ := f4.cells;obtain ⟨y0, y1, y2, y3, y4, rfl⟩ := AX hcs;refine An (cs := [y0, y1, y2, y3, y4]) rfl rfl Dn a7 (fun w6 n6 => ?_);have k6 := k4.trans n6.E;have e6 := T.trans k6;have z6 := k6.size;have G1 := C1.E k6 O;have G2 := C2.E k6 O;have B6 : Blk w6 w4.heap.size 36 [y0, y1, y2, y3, y4] := n6.D;have f6 := f4.ext n6.E;obtain ⟨L1, Q, fs1⟩ := id C.o1;refine go ?_;refine AL (out := [y0, y1, y2, y3, y4]) rfl U Dr (fun w7 f => ?_);have k7 := k6.trans f.E;have z7 := f.size;have zz := k7.size;refine Ak (ok := AZ) (v := R) rfl rfl (Aa Q k7) (sl_new f) U rfl rfl a7 U U U (fun i w8 S => ?_);have r : ∀ y ∈ (R).ownBlock.toList, w2.heap.size ≤ y := fun y K => (Ab (Aa Q k7) (Option.mem_toList.1 K)).1;have hT9 := C.push Q fs1 k7 ((f6.ext f.E).mono fun b n => ⟨by have := n.1; omega, fun e => by have := (Ab Q e).2; have := n.1; omega, fun e => by obtain ⟨L2, o2, -⟩ := C.o2; have := (Ab o2 e).2; have := n.1; omega⟩) rfl U S;have j : Ext w w8 := (T.trans k7).E S.E (fun y K => by have := r y K; omega);obtain ⟨a9, c9, rfl, c8⟩ := hT9.sl;have H1 := (C1.E k7 O).E S.E (fun A => by have := r _ A; omega);refine AC (andor_ok w8 6 a9 c9 (asmsF l ++ [Ck 5 (gusF l)]) c8 Dl (hG.ext j) (hK.E j O) (Nat.le_trans hN j.size)).2 rfl ?_;rintro e3 e4 ⟨c4, b5⟩;obtain ⟨cs, rfl, hcs, d7⟩ := b5.cells;obtain ⟨t0, t1, t2, t3, t4, rfl⟩ := AX hcs;refine AE (cs := [t0, t1, t2, t3, t4]) rfl rfl rfl d7 (H1.E c4 O) Dp (fun w11 b4 => ?_);have c6 := j.trans c4;have z9 := j.size;refine go ?_;refine AT rfl rfl rfl b4.D.cells ⟨c6.E b4.E O, ?_⟩;unfold C0;rw [if_pos hall];exact (b5.E b4.E (fun b n A => by rw [List.mem_singleton] at A; have := n.1; have := H1.lt; omega)).mono fun b n => by have := n.1; omega
section
variable {mk : Prop} [MK mk]
theorem shape1_ok : ∀ (n : Nat) (w : World) (B : Nat) (d : LV) (f : Fml), szF f ≤ n → n ≤ 1000000 → Blk w B 50 [.func (.func 344) #[] #[pt B]] → FAt AZ w (.agg d.toArray) f → d.length = 5 →
  Fn Zp 344 [.agg d.toArray, pt B] w fun u w' => Ext w w' ∧ FAt (fun b => w.heap.size ≤ b) w' u (C9 f) := by
 intro n
 induction n with
 | zero => intro w B d f hn; rw [Bd] at hn; omega
 | succ n ih =>
 intro w B d f hn b7 b1 hf hd;obtain ⟨av, e, L, hS, a1⟩ := hf.form;obtain ⟨M, sc, rfl, _⟩ := id hS;obtain ⟨x0, x1, x2, x3, x4, rfl⟩ := AX hd;simp only [Value.agg.injEq, List.toArray_eq_iff, List.cons.injEq, and_true] at e;obtain ⟨rfl, rfl, rfl, rfl, rfl⟩ := e;obtain ⟨N, p, v, m, j⟩ := f;simp only [Fml.op, Fml.name, Fml.val, Fml.bound, Fml.args] at *;have hz := Bd (.mk N p v m j);have b9 := Bv j;simp only [Fml.args] at hz;have hl : SlAt fmlR AZ w (.slice M j.length sc) j := ⟨M, sc, L, rfl, hS, a1.1, fun i c g hi z => ⟨a1.2.1 c (List.mem_of_getElem? hi), a1.2.2 i c g hi z⟩⟩;have b8 : oneC [iV N, AI p, iV v, iV m, .slice M j.length sc] := oneC_fml _ _ _ _ _ _ _ rfl rfl rfl rfl;refine AG Tryz.func344 rfl Tryz.ntmps344 (go ?_);refine Aj (L := [iV N, AI p, iV v, iV m, .slice M j.length sc]) rfl (fun w1 n1 => ?_);refine AQ (L := zero5) (fun t n2 => ?_);have z1 := n1.size;have z2 := n2.size;have e2 := n1.E.trans n2.E;have B1 := n1.D.E n2.E O;have B2 := n2.D;by_cases h3 : N = 3
 ·have ev : (if N = 3 then v else 0) = v := if_pos h3;have e3 := e2;have b5 : t.heap.size = t.heap.size := rfl;refine go ?_;refine W_make0S (n := j.length) (DV _ _) rfl rfl rfl rfl U U (fun w4 n4 z4 o4 => go ?_);refine Ah (α := Nat × Value) (fun y => [(1, pt B), (2, pt w.heap.size), (3, pt w1.heap.size), (4, y.2), (16, .slice M j.length sc), (17, iV (j.length : Int)), (18, iV (y.1 : Int))]) (fun y W => y.1 ≤ j.length ∧ Ext t W ∧ Acc (fun b => (t).heap.size ≤ b) fmlR 36 5 (t).heap.size W y.2 ((j.take y.1).map C9)) (fun y => j.length - y.1) (0, .slice (sm ((t).heap.size)) 0 j.length) ag ⟨by omega, n4, ⟨[], o4, RsAt.nil⟩⟩ ?_;rintro ⟨k, u⟩ W fr ⟨hk, T, G⟩;simp only at hk T G;refine go ?_;by_cases a7 : k < j.length
  ·obtain ⟨x, V⟩ := gl a7;obtain ⟨b, o, d, rfl, S, hd, X⟩ := hl.at (sz := 5) rfl V;obtain ⟨F, H, E, I, P, rfl⟩ := AX X.1;have b4 := Bq (List.mem_of_getElem? V);have ew := (e2).trans T;have a6 := hd.E ew O;refine go ?_;refine AR (L := [F, H, E, I, P]) rfl rfl a6 ?_;refine An (cs := [F, H, E, I, P]) rfl rfl Dn (fmlR.one X) (fun w5 K => ?_);have B5 := K.D;have e5 := ew.trans K.E;have a4 := b1.E e5 O;refine go ?_;refine Av (v1 := []) (v2 := [pt B]) (vs := [.agg [F, H, E, I, P].toArray]) rfl (ih w5 B [F, H, E, I, P] x U U a4 (X.2.ext e5) rfl) rfl ?_;rintro q w6 ⟨k6, f6⟩;obtain ⟨cs, rfl, a5, ho6⟩ := f6.cells;obtain ⟨s0, s1, s2, s3, s4, rfl⟩ := AX a5;have z5 := K.size;refine AL (out := [s0, s1, s2, s3, s4]) rfl U Dr (fun w7 n7 => ?_);obtain ⟨Q, l, r⟩ := G.ex;have D := (K.E.trans k6).trans n7.E;have b6 := D.size;have zW := T.size;have b2 : ((j.take k).map C9).length = k := by rw [List.length_map, List.length_take]; omega
   refine Ak (ok := AZ) (v := u) rfl rfl (Aa l D) (AV (n7.own (n := 1) (size := 5) rfl Dq (Nat.le_refl _)) fun _ _ => trivial) U rfl rfl ho6 U U U (fun v8 s a8 => ?_);have Z : ∀ y ∈ u.ownBlock.toList, (t).heap.size ≤ y ∧ y < W.heap.size := fun y hy => Ab l (Option.mem_toList.1 hy);exact EY
  ·obtain rfl : k = j.length := by omega
   rw [List.take_length] at G;have E1 := (B1).E T O;have E2 := (B2).E T O;obtain ⟨Q, l, r⟩ := G.ex;have Z : ∀ g, u.ownBlock = some g → (t).heap.size ≤ g ∧ g < W.heap.size := fun g z => Ab l z;refine go ?_;refine AN (v := u) rfl rfl (Cs l) E1 O (fun s h => ?_);have F1 : Blk s w.heap.size 36 [iV N, AI p, iV v, iV m, u] := h.D;have F2 := E2.E h.E Dl;have a0 : Ext w s := ((e2).trans T).E h.E O;refine go ?_
   have a9 : oneC [iV N, AI p, iV v, iV m, u] := by
    intro q hq;simp at hq;rcases hq with rfl | rfl | rfl | rfl | rfl <;> first | rfl | exact Cs l
   refine AE (cs := [iV N, AI p, iV v, iV m, u]) rfl rfl rfl a9 F2 Dp (fun w9 p9 => go ?_);refine AT rfl rfl rfl p9.D.cells ⟨a0.E p9.E Dl, ?_⟩;have e8 : C9 (.mk N p v m j) = ⟨N, p, v, m, j.map C9⟩ := by rw [C9, shpL_eq, ev]
   rw [e8];have zW := T.size;have b3 : (j.map C9).length = j.length := List.length_map ..;have a3 : Sl (fun b => (t).heap.size ≤ b) W u (j.map C9).length Q.flatten := AV l fun g z => (Z g z).1;have a2 : FsAt (fun b => (t).heap.size ≤ b) W Q (j.map C9) := ⟨r.1, r.len, fun i c g hi z => ((r.2 i c g hi z).2).mono fun b S => S.1⟩;have hN := FAt.node N p v m a3 a2;exact FC
 ·have ev : (if N = 3 then v else 0) = 0 := if_neg h3;refine go ?_;refine AN (v := iV 0) rfl rfl rfl B1 O (fun C p3 => ?_);have e3 : Ext w C := e2.E p3.E O;have b5 := p3.size;have C1 : Blk C w.heap.size 36 [iV N, AI p, iV 0, iV m, .slice M j.length sc] := p3.D;have C2 := B2.E p3.E Dl;refine go ?_;refine W_make0S (n := j.length) (DV _ _) rfl rfl rfl rfl U U (fun w4 n4 z4 o4 => go ?_);refine Ah (α := Nat × Value) (fun y => [(1, pt B), (2, pt w.heap.size), (3, pt w1.heap.size), (4, y.2), (16, .slice M j.length sc), (17, iV (j.length : Int)), (18, iV (y.1 : Int))]) (fun y W => y.1 ≤ j.length ∧ Ext C W ∧ Acc (fun b => (C).heap.size ≤ b) fmlR 36 5 (C).heap.size W y.2 ((j.take y.1).map C9)) (fun y => j.length - y.1) (0, .slice (sm ((C).heap.size)) 0 j.length) ag ⟨by omega, n4, ⟨[], o4, RsAt.nil⟩⟩ ?_;rintro ⟨k, u⟩ W fr ⟨hk, T, G⟩;simp only at hk T G;refine go ?_;by_cases a7 : k < j.length
  ·obtain ⟨x, V⟩ := gl a7;obtain ⟨b, o, d, rfl, S, hd, X⟩ := hl.at (sz := 5) rfl V;obtain ⟨F, H, E, I, P, rfl⟩ := AX X.1;have b4 := Bq (List.mem_of_getElem? V);have ew := (e3).trans T;have a6 := hd.E ew O;refine go ?_;refine AR (L := [F, H, E, I, P]) rfl rfl a6 ?_;refine An (cs := [F, H, E, I, P]) rfl rfl Dn (fmlR.one X) (fun w5 K => ?_);have B5 := K.D;have e5 := ew.trans K.E;have a4 := b1.E e5 O;refine go ?_;refine Av (v1 := []) (v2 := [pt B]) (vs := [.agg [F, H, E, I, P].toArray]) rfl (ih w5 B [F, H, E, I, P] x U U a4 (X.2.ext e5) rfl) rfl ?_;rintro q w6 ⟨k6, f6⟩;obtain ⟨cs, rfl, a5, ho6⟩ := f6.cells;obtain ⟨s0, s1, s2, s3, s4, rfl⟩ := AX a5;have z5 := K.size;refine AL (out := [s0, s1, s2, s3, s4]) rfl U Dr (fun w7 n7 => ?_);obtain ⟨Q, l, r⟩ := G.ex;have D := (K.E.trans k6).trans n7.E;have b6 := D.size;have zW := T.size;have b2 : ((j.take k).map C9).length = k := by rw [List.length_map, List.length_take]; omega
   refine Ak (ok := AZ) (v := u) rfl rfl (Aa l D) (AV (n7.own (n := 1) (size := 5) rfl Dq (Nat.le_refl _)) fun _ _ => trivial) U rfl rfl ho6 U U U (fun v8 s a8 => ?_);have Z : ∀ y ∈ u.ownBlock.toList, (C).heap.size ≤ y ∧ y < W.heap.size := fun y hy => Ab l (Option.mem_toList.1 hy);exact EY
  ·obtain rfl : k = j.length := by omega
   rw [List.take_length] at G;have E1 := (C1).E T O;have E2 := (C2).E T O;obtain ⟨Q, l, r⟩ := G.ex;have Z : ∀ g, u.ownBlock = some g → (C).heap.size ≤ g ∧ g < W.heap.size := fun g z => Ab l z;refine go ?_;refine AN (v := u) rfl rfl (Cs l) E1 O (fun s h => ?_);have F1 : Blk s w.heap.size 36 [iV N, AI p, iV 0, iV m, u] := h.D;have F2 := E2.E h.E Dl;have a0 : Ext w s := ((e3).trans T).E h.E O;refine go ?_
   have a9 : oneC [iV N, AI p, iV 0, iV m, u] := by
    intro q hq;simp at hq;rcases hq with rfl | rfl | rfl | rfl | rfl <;> first | rfl | exact Cs l
   refine AE (cs := [iV N, AI p, iV 0, iV m, u]) rfl rfl rfl a9 F2 Dp (fun w9 p9 => go ?_);refine AT rfl rfl rfl p9.D.cells ⟨a0.E p9.E Dl, ?_⟩;have e8 : C9 (.mk N p v m j) = ⟨N, p, 0, m, j.map C9⟩ := by rw [C9, shpL_eq, ev]
   rw [e8];have zW := T.size;have b3 : (j.map C9).length = j.length := List.length_map ..;have a3 : Sl (fun b => (C).heap.size ≤ b) W u (j.map C9).length Q.flatten := AV l fun g z => (Z g z).1;have a2 : FsAt (fun b => (C).heap.size ≤ b) W Q (j.map C9) := ⟨r.1, r.len, fun i c g hi z => ((r.2 i c g hi z).2).mono fun b S => S.1⟩;have hN := FAt.node N p 0 m a3 a2;exact FC
theorem shape_ok (w : World) (v : Value) (f : Fml) (I : FAt AZ w v f) (n : szF f ≤ 1000000) : Fn Zp 341 [v] w fun u w' => Ext w w' ∧ FAt (fun b => w.heap.size ≤ b) w' u (C9 f) := by
 obtain ⟨c, rfl, y, K⟩ := I.cells;obtain ⟨g, m, k, j, i, rfl⟩ := AX y;refine AG Tryz.func341 rfl Tryz.ntmps341 (go ?_);refine Aj (L := [g, m, k, j, i]) rfl (fun Q E => ?_);refine AQ (L := zero5) (fun h V => go ?_);refine AQ (fun N e => ?_);have R := E.size;have T := V.size;have Z := e.size;have z := (E.E.trans V.E).trans e.E;refine go ?_;refine AN (v := .func (.func 344) #[] #[pt h.heap.size]) rfl rfl rfl e.D O (fun p a => ?_);have W : Ext w p := z.E a.E Dl;have H := ((E.D.E V.E O).E e.E O).E a.E Dl;have s := (V.D.E e.E O).E a.E Dl;have r : Blk p h.heap.size 50 [.func (.func 344) #[] #[pt h.heap.size]] := a.D;have z4 := a.size;refine go ?_;refine Av (v1 := []) (v2 := [pt h.heap.size]) (vs := [.agg [g, m, k, j, i].toArray]) rfl (shape1_ok _ p h.heap.size [g, m, k, j, i] f (Nat.le_refl _) n r (I.ext W) rfl) rfl ?_;rintro q o ⟨S, X⟩;obtain ⟨t, rfl, A, B⟩ := X.cells;obtain ⟨F, D, M, G, l, rfl⟩ := AX A;refine AE (cs := [F, D, M, G, l]) rfl rfl rfl B (s.E S O) Dp (fun P d => go ?_);exact AT rfl rfl rfl d.D.cells ⟨(W.trans S).E d.E Dl, (X.E d.E (fun b x C => by rw [List.mem_singleton] at C; omega)).mono fun b x => by omega⟩
end
end Go.Proofs.YtohodbnnhlddpaaGreatDoor
