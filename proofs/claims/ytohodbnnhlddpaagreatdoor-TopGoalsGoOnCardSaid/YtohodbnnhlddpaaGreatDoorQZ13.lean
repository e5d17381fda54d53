/- TopGoalsGoOn, part 13 of 16: rules, lemmas, walks. Conditions: none. -/
import Derived.Test.YtohodbnnhlddpaaGreatDoorQZ12
namespace Go.Proofs.YtohodbnnhlddpaaGreatDoor
open Go.RowKit
set_option linter.unusedVariables false
theorem rowC_const (n : Nat) (b : Bool) : rowC n (fun _ => b) = List.replicate n (.bool b) := by
 unfold rowC;rw [List.map_const', List.length_range]
section
variable (w : World) (t : Nat) (S : List Sgn) (xs : List Int) (m p B : Nat) (vl vr : Value) (P Q : Nat → Prop)
set_option maxHeartbeats 1000000 in
theorem guntil_ok (h : AxG w t S xs m p B) (E : Per B p P) (I : Per B p Q) (M : Tru w vl (B + p) fun t => tv (P t)) (hr : Tru w vr (B + p) fun t => tv (Q t)) :
  Fn Zp 222 [pt t, vl, vr] w fun u w' => Tru w' u (B + p) (fun t => tv (CT P Q t)) ∧ Ext w w' ∧ ∀ g, u.ownBlock = some g → w.heap.size ≤ g := by
 obtain ⟨⟨b1, X, b2, a5⟩, sa, sc, lb, lo, lc, K, _, _⟩ := id h;obtain ⟨a2, rfl, ll, r⟩ := M.cell;obtain ⟨a3, rfl, lr, C⟩ := hr.cell;clear M hr;obtain ⟨n, G⟩ : ∃ n, n = B + p := ⟨_, rfl⟩;rw [← G] at K a5 r C ⊢;refine AG Tryz.func222 rfl Tryz.ntmps222 (go ?_);refine W_make1 (n := n) rfl rfl rfl rfl rfl U U (fun w1 n1 => ?_);have e7 := n1.E
 have l : Blk w1 w.heap.size 4 (rowC n (stU P Q n 0)) := by
  have := n1.D
  rwa [← rowC_const, rowC_congr fun t ht => (stU_zero P Q ht).symm] at this
 obtain ⟨a, a4⟩ : ∃ a, a = w.heap.size := ⟨_, rfl⟩;rw [← a4] at l ⊢;refine go ?_;refine Ah (α := Nat) (fun i => [(0, pt t), (1, .slice (sm a2) n n), (2, .slice (sm a3) n n), (7, .slice (sm a) n n), (19, iV (2 * (n : Int))), (20, iV (i : Int))]) (fun i W => i ≤ 2 * n ∧ Ext w W ∧ Blk W a 4 (rowC n (stU P Q n i))) (fun i => 2 * n - i) 0 ag ⟨by omega, e7, l⟩ ?_;rintro i W fr ⟨hi, f, q⟩;refine go ?_;by_cases L : i < 2 * n
 ·obtain ⟨x, a0⟩ : ∃ x, x = n - 1 - i % n := ⟨_, rfl⟩;have b0 := Nat.mod_lt i (show 0 < n by omega);have D : x < n := by omega
  have a8 : (n : Int) - 1 - (i : Int) % (n : Int) = (x : Int) := by
   rw [← Int.natCast_emod]; omega
  have a6 : plcN n B (x + 1) < n := by unfold plcN; split <;> omega
  have a7 : ∀ y, y < n → stU P Q n (i + 1) y = if y = x then stU P Q n (i + 1) x else stU P Q n i y := fun y hy => by
   by_cases F : y = x
   ·subst F; rw [if_pos rfl]
   ·rw [stU_step X G E I L y hy, if_neg (by rw [← a0]; exact F), if_neg F]
  have A := stU_step X G E I L x D;rw [if_pos a0] at A
  have c : ∀ {V j : World} {T : TypeId} {b : Bool}, b = stU P Q n (i + 1) x → T = 4 → Put V j a T ((rowC n (stU P Q n i)).set (0 + x) (.bool b)) → Blk j a 4 (rowC n (stU P Q n (i + 1))) := fun e eT p => by
   subst e; subst eT;have := p.D
   rwa [Nat.zero_add, rowC_set D a7] at this
  refine go ?_;refine AW (rd 0 13 .done) Al Dk (fun wd N ed => ⟨Ext wd, ?_, ?_⟩)
  ·exact EZ
  have a9 := K.E (f.trans N) O;have d := q.E N O;have R := f.trans N;have H := R.cell (C x D) O;have z := R.cell (r x D) O;have co := d.cell (o := 0 + plcN n B (x + 1)) (by rw [Nat.zero_add]; exact rowC_at a6);cases hq : tv (Q x) with
  | true =>
   rw [hq] at H A;refine go ?_;refine AN (v := .bool true) rfl rfl rfl d EA (fun k s => ?_);exact Fe
  | false =>
   rw [hq] at H A;cases hpv : tv (P x) with
   | false =>
    rw [hpv] at z A;refine go ?_;refine AN (v := .bool false) rfl rfl rfl d EA (fun k s => ?_);exact Fe
   | true =>
    rw [hpv] at z A;refine go ?_;rw [a8];have Z := gplace_ok wd t S xs m p B (x + 1) (h.ext R) U;rw [← G, Int.natCast_add] at Z;refine AC Z rfl ?_;rintro _ W1 ⟨rfl, k1⟩;have a1 := d.E k1 O;refine go ?_;refine AN (v := .bool (stU P Q n i (plcN n B (x + 1)))) rfl rfl rfl a1 EA (fun k s => ?_);refine go ?_;exact ⟨i + 1, ⟨rfl, ag, ⟨by omega, (R.trans k1).E s.E Dl, c (by rw [A]; simp) rfl s⟩⟩, by omega⟩
 ·obtain rfl : i = 2 * n := by omega
  refine go ?_;refine AA rfl ⟨⟨_, rfl, ?_⟩, f, fun g hg => by have e := Option.some.inj hg; simp only at e; omega⟩;rw [rowC_congr fun t _ => (stU_end P Q (show 1 ≤ n by omega)).symm];exact q
theorem galways_ok (w : World) (x : Value) : Fn Zp 257 [x] w fun u w' => u = .bool true ∧ w' = w := by
 refine AG Tryz.func257 rfl Tryz.ntmps257 (go ?_);exact AA rfl ⟨rfl, rfl⟩
set_option maxHeartbeats 1000000 in
theorem grelease_ok (h : AxG w t S xs m p B) (I : Per B p P) (L : Per B p Q) (M : Tru w vl (B + p) fun t => tv (P t)) (hr : Tru w vr (B + p) fun t => tv (Q t)) :
  Fn Zp 224 [pt t, vl, vr] w fun u w' => Tru w' u (B + p) (fun t => tv (relS P Q t)) ∧ Ext w w' ∧ ∀ g, u.ownBlock = some g → w.heap.size ≤ g := by
 obtain ⟨⟨b5, hp, b6, a8⟩, sa, sc, lb, lo, lc, Z, _, _⟩ := id h;obtain ⟨a4, rfl, ll, z⟩ := M.cell;obtain ⟨a5, rfl, lr, E⟩ := hr.cell;clear M hr;refine AG Tryz.func224 rfl Tryz.ntmps224 (go ?_);refine AC (DC w t S xs m p B 257 [] [] (fun _ => true) [] (fun _ _ => True) h O trivial (fun _ _ _ => trivial) (fun k W _ _ _ => (galways_ok W _).mono fun u w' hu => ⟨hu.1, hu.2 ▸ Ext.refl _, trivial⟩)) rfl ?_;rintro _ w1 ⟨⟨a, rfl, c⟩, e7, _, a7⟩;have b3 := a7 a rfl;obtain ⟨n, G⟩ : ∃ n, n = B + p := ⟨_, rfl⟩;rw [← G] at Z a8 z E c ⊢;rw [rowC_congr fun t ht => (stR_zero P Q ht).symm] at c;refine go ?_;refine Ah (α := Nat) (fun i => [(0, pt t), (1, .slice (sm a4) n n), (2, .slice (sm a5) n n), (7, .slice (sm a) n n), (16, iV (2 * (n : Int))), (17, iV (i : Int))]) (fun i W => i ≤ 2 * n ∧ Ext w W ∧ Blk W a 4 (rowC n (stR P Q n i))) (fun i => 2 * n - i) 0 ag ⟨by omega, e7, c⟩ ?_;rintro i W fr ⟨hi, j, r⟩;refine go ?_;by_cases a0 : i < 2 * n
 ·obtain ⟨x, a2⟩ : ∃ x, x = n - 1 - i % n := ⟨_, rfl⟩;have b4 := Nat.mod_lt i (show 0 < n by omega);have D : x < n := by omega
  have b1 : (n : Int) - 1 - (i : Int) % (n : Int) = (x : Int) := by
   rw [← Int.natCast_emod]; omega
  have a9 : plcN n B (x + 1) < n := by unfold plcN; split <;> omega
  have b0 : ∀ y, y < n → stR P Q n (i + 1) y = if y = x then stR P Q n (i + 1) x else stR P Q n i y := fun y hy => by
   by_cases F : y = x
   ·subst F; rw [if_pos rfl]
   ·rw [stR_step hp G I L a0 y hy, if_neg (by rw [← a2]; exact F), if_neg F]
  have A := stR_step hp G I L a0 x D;rw [if_pos a2] at A
  have f : ∀ {V l : World} {T : TypeId} {b : Bool}, b = stR P Q n (i + 1) x → T = 4 → Put V l a T ((rowC n (stR P Q n i)).set (0 + x) (.bool b)) → Blk l a 4 (rowC n (stR P Q n (i + 1))) := fun e eT p => by
   subst e; subst eT;have := p.D
   rwa [Nat.zero_add, rowC_set D b0] at this
  refine go ?_;refine AW (rd 0 13 .done) Al Dk (fun K N ed => ⟨Ext K, ?_, ?_⟩)
  ·exact EZ
  have a6 := Z.E (j.trans N) O;have s1 : ∀ V, Ext K V → V.cell? ⟨t, 0 + 4, none⟩ = some (iV (n : Int)) := fun V e => (a6.E e O).cell rfl;have d := r.E N O;have R := j.trans N;have H := R.cell (E x D) O;have C := R.cell (z x D) O;have co := d.cell (o := 0 + plcN n B (x + 1)) (by rw [Nat.zero_add]; exact rowC_at a9);cases hq : tv (Q x) with
  | false =>
   rw [hq] at H A;refine go ?_;refine AN (v := .bool false) rfl rfl rfl d EA (fun q s => ?_);exact Ff
  | true =>
   rw [hq] at H A;cases hpv : tv (P x) with
   | true =>
    rw [hpv] at C A;refine go ?_;refine AN (v := .bool true) rfl rfl rfl d EA (fun q s => ?_);exact Ff
   | false =>
    rw [hpv] at C A;refine go ?_;rw [b1];have a1 := gplace_ok K t S xs m p B (x + 1) (h.ext R) U;rw [← G, Int.natCast_add] at a1;refine AC a1 rfl ?_;rintro _ W1 ⟨rfl, X⟩;have b2 := X.cell co O;have a3 := d.E X O;refine go ?_;refine AN (v := .bool (stR P Q n i (plcN n B (x + 1)))) rfl rfl rfl a3 EA (fun q s => ?_);refine go ?_;exact ⟨i + 1, ⟨rfl, ag, ⟨by omega, (R.trans X).E s.E Dl, f (by rw [A]; simp) rfl s⟩⟩, by omega⟩
 ·obtain rfl : i = 2 * n := by omega
  refine go ?_;refine AA rfl ⟨⟨_, rfl, ?_⟩, j, fun g hg => by have e := Option.some.inj hg; simp only at e; omega⟩;rw [rowC_congr fun t _ => (stR_end P Q (show 1 ≤ n by omega)).symm];exact r
end
noncomputable def befB (v : Int) (F : Nat → Prop) : Nat → Bool
 | 0 => decide (v = 1)
 | k + 1 => tv (F k)
theorem since1_ok (w : World) (f e a n k d gl : Nat) (q p c : Bool) (g : k < n) (X : Blk w f 140 [.slice (sm d) n n]) (W : Blk w e 140 [.slice (sm gl) n n]) (R : Blk w a 4 [.bool c]) (G : w.cell? ⟨d, 0 + k, none⟩ = some (.bool q)) (E : w.cell? ⟨gl, 0 + k, none⟩ = some (.bool p)) :
  Fn Zp 258 [iV (k : Int), pt f, pt e, pt a] w fun u w' => u = .bool (q || p && c) ∧ Keep [a] w w' ∧ Blk w' a 4 [.bool (q || p && c)] := by
 refine AG Tryz.func258 rfl Tryz.ntmps258 (go ?_);cases q with
 | true =>
  refine go ?_;refine AN (v := .bool true) rfl rfl rfl R O (fun T s => ?_);have b : Blk T a 4 [.bool true] := s.D;exact E0
 | false =>
  refine go ?_;cases p with
  | false =>
   refine go ?_;refine AN (v := .bool false) rfl rfl rfl R O (fun T s => ?_);have b : Blk T a 4 [.bool false] := s.D;exact E0
  | true =>
   refine go ?_;refine AN (v := .bool c) rfl rfl rfl R O (fun T s => ?_);have b : Blk T a 4 [.bool c] := s.D;exact E0
theorem trig1_ok (w : World) (f e a n k d gl : Nat) (q p c : Bool) (g : k < n) (X : Blk w f 140 [.slice (sm d) n n]) (W : Blk w e 140 [.slice (sm gl) n n]) (R : Blk w a 4 [.bool c]) (G : w.cell? ⟨d, 0 + k, none⟩ = some (.bool q)) (E : w.cell? ⟨gl, 0 + k, none⟩ = some (.bool p)) :
  Fn Zp 259 [iV (k : Int), pt f, pt e, pt a] w fun u w' => u = .bool (q && (p || c)) ∧ Keep [a] w w' ∧ Blk w' a 4 [.bool (q && (p || c))] := by
 refine AG Tryz.func259 rfl Tryz.ntmps259 (go ?_);cases q with
 | false =>
  refine go ?_;refine AN (v := .bool false) rfl rfl rfl R O (fun T s => ?_);have b : Blk T a 4 [.bool false] := s.D;exact E0
 | true =>
  refine go ?_;cases p with
  | true =>
   refine go ?_;refine AN (v := .bool true) rfl rfl rfl R O (fun T s => ?_);have b : Blk T a 4 [.bool true] := s.D;exact E0
  | false =>
   refine go ?_;refine AN (v := .bool c) rfl rfl rfl R O (fun T s => ?_);have b : Blk T a 4 [.bool c] := s.D;exact E0
set_option maxHeartbeats 1000000 in
theorem gsince_ok (w : World) (t : Nat) (S : List Sgn) (xs : List Int) (m p B : Nat) (Z z : Value) (P Q : Nat → Prop) (v : Int) (h : AxG w t S xs m p B) (M : Tru w Z (B + p) fun t => tv (P t)) (l : Tru w z (B + p) fun t => tv (Q t)) :
  Fn Zp 235 [pt t, Z, z, .bool (decide (v = 1))] w fun u w' => Tru w' u (B + p) (fun t => tv (BK v P Q t)) ∧ Ext w w' ∧ ∀ g, u.ownBlock = some g → w.heap.size ≤ g := by
 obtain ⟨N, rfl, H, b⟩ := M.cell;obtain ⟨i, rfl, K, r⟩ := l.cell;clear M l;refine AG Tryz.func235 rfl Tryz.ntmps235 (go ?_);refine Aj (L := [.slice (sm N) (B + p) (B + p)]) rfl (fun n E => go ?_);refine Aj (L := [.slice (sm i) (B + p) (B + p)]) rfl (fun G V => go ?_);refine Aj (L := [.bool (decide (v = 1))]) rfl (fun o c => ?_);have z1 := E.size;have z2 := V.size;have z3 := c.size;have a : Ext w o := (E.E.trans V.E).trans c.E;have X := (E.D.E V.E O).E c.E O;have s := V.D.E c.E O;have R := c.D;obtain ⟨q, x⟩ : ∃ q, q = G.heap.size := ⟨_, rfl⟩;rw [← x] at R ⊢;refine go ?_;refine AC (DC o t S xs m p B 258 [] [pt n.heap.size, pt w.heap.size, pt q] (fun t => tv (BK v P Q t)) [q] (fun k W => Blk W q 4 [.bool (befB v (BK v P Q) k)]) (h.ext a) Dl R (fun j k y => j.E k (fun h => by have := y _ h; omega)) (fun k W d T A => ?_)) rfl ?_
 ·have := since1_ok W n.heap.size w.heap.size q (B + p) k i N (tv (Q k)) (tv (P k)) _ d (s.E T Dl) (X.E T Dl) A (T.cell (a.cell (r k d) O) Dl) (T.cell (a.cell (b k d) O) Dl)
  have e : (tv (Q k) || tv (P k) && befB v (BK v P Q) k : Bool) = tv (BK v P Q k) := by
   cases k with
   | zero => exact tv_eq (by simp [BK, tv_iff, befB])
   | succ k => exact tv_eq (by simp [BK, tv_iff, befB])
  rw [e] at this;exact this
 exact FZ
set_option maxHeartbeats 1000000 in
theorem gtrigger_ok (w : World) (t : Nat) (S : List Sgn) (xs : List Int) (m p B : Nat) (Z z : Value) (P Q : Nat → Prop) (v : Int) (h : AxG w t S xs m p B) (M : Tru w Z (B + p) fun t => tv (P t)) (l : Tru w z (B + p) fun t => tv (Q t)) :
  Fn Zp 237 [pt t, Z, z, .bool (decide (v = 1))] w fun u w' => Tru w' u (B + p) (fun t => tv (DJ v P Q t)) ∧ Ext w w' ∧ ∀ g, u.ownBlock = some g → w.heap.size ≤ g := by
 obtain ⟨N, rfl, H, b⟩ := M.cell;obtain ⟨i, rfl, K, r⟩ := l.cell;clear M l;refine AG Tryz.func237 rfl Tryz.ntmps237 (go ?_);refine Aj (L := [.slice (sm N) (B + p) (B + p)]) rfl (fun n E => go ?_);refine Aj (L := [.slice (sm i) (B + p) (B + p)]) rfl (fun G V => go ?_);refine Aj (L := [.bool (decide (v = 1))]) rfl (fun o c => ?_);have z1 := E.size;have z2 := V.size;have z3 := c.size;have a : Ext w o := (E.E.trans V.E).trans c.E;have X := (E.D.E V.E O).E c.E O;have s := V.D.E c.E O;have R := c.D;obtain ⟨q, x⟩ : ∃ q, q = G.heap.size := ⟨_, rfl⟩;rw [← x] at R ⊢;refine go ?_;refine AC (DC o t S xs m p B 259 [] [pt n.heap.size, pt w.heap.size, pt q] (fun t => tv (DJ v P Q t)) [q] (fun k W => Blk W q 4 [.bool (befB v (DJ v P Q) k)]) (h.ext a) Dl R (fun j k y => j.E k (fun h => by have := y _ h; omega)) (fun k W d T A => ?_)) rfl ?_
 ·have := trig1_ok W n.heap.size w.heap.size q (B + p) k i N (tv (Q k)) (tv (P k)) _ d (s.E T Dl) (X.E T Dl) A (T.cell (a.cell (r k d) O) Dl) (T.cell (a.cell (b k d) O) Dl)
  have e : (tv (Q k) && (tv (P k) || befB v (DJ v P Q) k) : Bool) = tv (DJ v P Q k) := by
   cases k with
   | zero => exact tv_eq (by simp [DJ, tv_iff, befB])
   | succ k => exact tv_eq (by simp [DJ, tv_iff, befB])
  rw [e] at this;exact this
 exact FZ
structure LwG (w : World) (c1 c3 t : Nat) (S : List Sgn) (xs : List Int) (m p B : Nat) : Prop where
 b1 : Blk w c1 139 [pt t]
 b3 : Blk w c3 260 [.func (.func 202) #[] #[pt c1]]
 ax : AxG w t S xs m p B
theorem LwG.ext {w w' : World} {G Z t : Nat} {S : List Sgn} {xs : List Int} {m p B : Nat} (h : LwG w G Z t S xs m p B) (k : Ext w w') : LwG w' G Z t S xs m p B := ⟨h.b1.E k O, h.b3.E k O, h.ax.ext k⟩
def wdG (S : List Sgn) (xs : List Int) (m p : Nat) : Wd := fun t o => vlS S (xs.getD (lixN m p t) 0) o
section
variable (w : World) (c1 c3 t : Nat) (S : List Sgn) (xs : List Int) (m p B : Nat) (pv vv : Value)
theorem gtconst1_ok (c : Nat) (b : Bool) (x : Value) (h : Blk w c 4 [.bool b]) : Fn Zp 204 [x, pt c] w fun u w' => u = .bool b ∧ w' = w := by
 refine AG Tryz.func204 rfl Tryz.ntmps204 (go ?_);exact AA rfl ⟨rfl, rfl⟩
theorem gtconst_ok (b : Bool) (h : LwG w c1 c3 t S xs m p B) : Fn Zp 202 [.bool b, pt c1] w fun u w' => Tru w' u (B + p) (fun _ => b) ∧ Ext w w' := by
 refine AG Tryz.func202 rfl Tryz.ntmps202 (go ?_);refine Aj (L := [.bool b]) rfl (fun Q E => ?_);have X := h.ext E.E;have a := X.b1;refine go ?_;refine AC (DC Q t S xs m p B 204 [] [pt w.heap.size] (fun _ => b) [] (fun _ _ => True) X.ax O trivial (fun _ _ _ => trivial) (fun k W _ T _ => (gtconst1_ok W _ b _ (E.D.E T O)).mono fun u w' r => ⟨r.1, r.2 ▸ Ext.refl _, trivial⟩)) rfl ?_;rintro u c ⟨r, l, _⟩;exact FA
theorem gltrue_ok (h : LwG w c1 c3 t S xs m p B) : Fn Zp 205 [pv, vv, pt c3] w fun u w' => Tru w' u (B + p) (fun _ => true) ∧ Ext w w' := by
 have a := h.b3;refine AG Tryz.func205 rfl Tryz.ntmps205 (go ?_);refine Av (v1 := []) (v2 := [pt c1]) (vs := [.bool true]) rfl (gtconst_ok w c1 c3 t S xs m p B true h) rfl ?_;rintro u L ⟨r, l⟩;refine go ?_;exact AA rfl ⟨r, l⟩
theorem glfalse_ok (h : LwG w c1 c3 t S xs m p B) : Fn Zp 206 [pv, vv, pt c3] w fun u w' => Tru w' u (B + p) (fun _ => false) ∧ Ext w w' := by
 have a := h.b3;refine AG Tryz.func206 rfl Tryz.ntmps206 (go ?_);refine Av (v1 := []) (v2 := [pt c1]) (vs := [.bool false]) rfl (gtconst_ok w c1 c3 t S xs m p B false h) rfl ?_;rintro u L ⟨r, l⟩;refine go ?_;exact AA rfl ⟨r, l⟩
theorem gnot1_ok (n k c : Nat) (ps : List (Nat → Bool)) (P : Nat → Bool) (a : k < n) (d : n ≤ 1000000) (b : Blk w c 228 [vv]) (q : TrusG w vv n ps) (i : ps[0]? = some P) : Fn Zp 211 [iV (k : Int), pt c] w fun u w' => u = .bool (!P k) ∧ w' = w := by
 obtain ⟨g, rfl, T⟩ := q.at;obtain ⟨u, G, E⟩ := T 0 P i;have Z := E k a;have s := (List.getElem?_eq_some_iff.1 i).1;refine AG Tryz.func211 rfl Tryz.ntmps211 (go ?_);exact AA rfl ⟨rfl, rfl⟩
theorem glnot_ok (ps : List (Nat → Bool)) (P : Nat → Bool) (i : ps[0]? = some P) (y : ps.length ≤ 1000000) (h : LwG w c1 c3 t S xs m p B) (q : TrusG w vv (B + p) ps) : Fn Zp 210 [pv, vv, pt c1] w fun u w' => Tru w' u (B + p) (fun t => !P t) ∧ Ext w w' := by
 obtain ⟨Z, v, f, d⟩ := h.ax.len;have G := q.at;obtain ⟨g, rfl, _⟩ := G;refine AG Tryz.func210 rfl Tryz.ntmps210 (go ?_);refine Aj (L := [.slice (sm g) ps.length ps.length]) rfl (fun Q E => ?_);have X := h.ext E.E;have e := X.b1;refine go ?_;refine AC (DC Q t S xs m p B 211 [] [pt w.heap.size] (fun t => !P t) [] (fun _ _ => True) X.ax O trivial (fun _ _ _ => trivial) (fun k W c T _ => ?_)) rfl ?_
 ·have b := X.ext T;have A := b.b1;have F := (q.ext E.E).ext T;have a := E.D.E T O;exact (gnot1_ok W _ (B + p) k _ ps P c d a F i).mono fun u w' r => ⟨r.1, r.2 ▸ Ext.refl _, trivial⟩
 rintro u j ⟨r, l, _⟩;exact FA
theorem gand1_ok (n k c : Nat) (ps : List (Nat → Bool)) (a : k < n) (G : n ≤ 1000000) (y : ps.length ≤ 1000000) (b : Blk w c 228 [vv]) (q : TrusG w vv n ps) : Fn Zp 213 [iV (k : Int), pt c] w fun u w' => u = .bool (ps.all fun P => P k == true) ∧ w' = w := by
 refine AG Tryz.func213 rfl Tryz.ntmps213 (go ?_);refine AC (gall_ok w vv n ps k true a G y q) rfl ?_;rintro _ _ ⟨rfl, rfl⟩;exact EU
theorem gor1_ok (n k c : Nat) (ps : List (Nat → Bool)) (a : k < n) (G : n ≤ 1000000) (y : ps.length ≤ 1000000) (b : Blk w c 228 [vv]) (q : TrusG w vv n ps) : Fn Zp 216 [iV (k : Int), pt c] w fun u w' => u = .bool (!ps.all fun P => P k == false) ∧ w' = w := by
 refine AG Tryz.func216 rfl Tryz.ntmps216 (go ?_);refine AC (gall_ok w vv n ps k false a G y q) rfl ?_;rintro _ _ ⟨rfl, rfl⟩;exact EU
theorem gland_ok (ps : List (Nat → Bool))  (y : ps.length ≤ 1000000) (h : LwG w c1 c3 t S xs m p B) (q : TrusG w vv (B + p) ps) : Fn Zp 212 [pv, vv, pt c1] w fun u w' => Tru w' u (B + p) (fun t => ps.all fun P => P t == true) ∧ Ext w w' := by
 obtain ⟨Z, v, e, i⟩ := h.ax.len;have G := q.at;obtain ⟨g, rfl, _⟩ := G;refine AG Tryz.func212 rfl Tryz.ntmps212 (go ?_);refine Aj (L := [.slice (sm g) ps.length ps.length]) rfl (fun Q E => ?_);have X := h.ext E.E;have d := X.b1;refine go ?_;refine AC (DC Q t S xs m p B 213 [] [pt w.heap.size] (fun t => ps.all fun P => P t == true) [] (fun _ _ => True) X.ax O trivial (fun _ _ _ => trivial) (fun k W c T _ => ?_)) rfl ?_
 ·have b := X.ext T;have A := b.b1;have F := (q.ext E.E).ext T;have a := E.D.E T O;exact (gand1_ok W _ (B + p) k _ ps c i y a F).mono fun u w' r => ⟨r.1, r.2 ▸ Ext.refl _, trivial⟩
 rintro u f ⟨r, l, _⟩;exact FA
theorem glor_ok (ps : List (Nat → Bool))  (y : ps.length ≤ 1000000) (h : LwG w c1 c3 t S xs m p B) (q : TrusG w vv (B + p) ps) : Fn Zp 215 [pv, vv, pt c1] w fun u w' => Tru w' u (B + p) (fun t => !ps.all fun P => P t == false) ∧ Ext w w' := by
 obtain ⟨Z, v, e, i⟩ := h.ax.len;have G := q.at;obtain ⟨g, rfl, _⟩ := G;refine AG Tryz.func215 rfl Tryz.ntmps215 (go ?_);refine Aj (L := [.slice (sm g) ps.length ps.length]) rfl (fun Q E => ?_);have X := h.ext E.E;have d := X.b1;refine go ?_;refine AC (DC Q t S xs m p B 216 [] [pt w.heap.size] (fun t => !ps.all fun P => P t == false) [] (fun _ _ => True) X.ax O trivial (fun _ _ _ => trivial) (fun k W c T _ => ?_)) rfl ?_
 ·have b := X.ext T;have A := b.b1;have F := (q.ext E.E).ext T;have a := E.D.E T O;exact (gor1_ok W _ (B + p) k _ ps c i y a F).mono fun u w' r => ⟨r.1, r.2 ▸ Ext.refl _, trivial⟩
 rintro u f ⟨r, l, _⟩;exact FA
theorem gnext1_ok (k c : Nat) (ps : List (Nat → Bool)) (P : Nat → Bool) (r : k < B + p) (h : LwG w c1 c3 t S xs m p B) (b : Blk w c 228 [vv]) (q : TrusG w vv (B + p) ps) (i : ps[0]? = some P) : Fn Zp 220 [iV (k : Int), pt c, pt c1] w fun u w' => u = .bool (P (plcN (B + p) B (k + 1))) ∧ Ext w w' := by
 obtain ⟨Z, A, Q, y⟩ := h.ax.len;have f : plcN (B + p) B (k + 1) < B + p := by unfold plcN; split <;> omega
 obtain ⟨g, rfl, T⟩ := q.at;obtain ⟨u, a, x⟩ := T 0 P i;have z := x _ f;have s := (List.getElem?_eq_some_iff.1 i).1;refine AG Tryz.func220 rfl Tryz.ntmps220 (go ?_);refine AW (rd 0 6 (.alt 6 (rd 7 3 .done) .stop)) Al Dk (fun K N I => ⟨Ext K, ?_, ?_⟩)
 ·exact EZ
 have n := b.E N O;have j := (h.ext N).b1;have v := N.cell a O;refine go ?_;refine D_E rfl ?_;have d := gplace_ok K t S xs m p B (k + 1) (h.ax.ext N) U;rw [Int.natCast_add] at d;refine AC d rfl ?_;rintro _ L ⟨rfl, l⟩;refine AH ⟨Ext L, fun _ e => l.trans e, Ext.refl _, ?_⟩;have o := (N.trans l).cell z O;refine go ?_;exact AA rfl ⟨rfl, N.trans l⟩
theorem glnext_ok (ps : List (Nat → Bool)) (P : Nat → Bool) (i : ps[0]? = some P) (y : ps.length ≤ 1000000) (h : LwG w c1 c3 t S xs m p B) (q : TrusG w vv (B + p) ps) : Fn Zp 219 [pv, vv, pt c1] w fun u w' => Tru w' u (B + p) (fun t => P (plcN (B + p) B (t + 1))) ∧ Ext w w' := by
 obtain ⟨Z, v, e, f⟩ := h.ax.len;have G := q.at;obtain ⟨g, rfl, _⟩ := G;refine AG Tryz.func219 rfl Tryz.ntmps219 (go ?_);refine Aj (L := [.slice (sm g) ps.length ps.length]) rfl (fun Q E => ?_);have X := h.ext E.E;have d := X.b1;refine go ?_;refine AC (DC Q t S xs m p B 220 [] [pt w.heap.size, pt c1] (fun t => P (plcN (B + p) B (t + 1))) [] (fun _ _ => True) X.ax O trivial (fun _ _ _ => trivial) (fun k W c T _ => ?_)) rfl ?_
 ·have a := X.ext T;have A := a.b1;have F := (q.ext E.E).ext T;have b := E.D.E T O;exact (gnext1_ok W c1 c3 t S xs m p B _ k _ ps P c a b F i).mono fun u w' r => ⟨r.1, r.2, trivial⟩
 rintro u j ⟨r, l, _⟩;exact FA
end
structure Dty where
 req : Rqm
 since : Int
 first : Fml
 now : Fml
def strD (t : Int) (r : Rqm) : Dty := ⟨r, t, BV (CQ r.formula).1, BV (CQ r.formula).1⟩
def CW (s : Spc) (t : Int) : List Dty := s.reqs.map (strD t)
def Dty.to (y : Dty) (g : Fml) : Dty := ⟨y.req, y.since, y.first, g⟩
def tickF (S : List Sgn) (d : List Dty) (x : Int) : List Dty := if d.any (fun y => decide ((Ca S y.now x).op = 0)) = true then [] else d.map fun y => y.to (Ca S y.now x)
def DF (S : List Sgn) : List Dty → List Int → List Dty
 | d, [] => d
 | d, x :: xs => DF S (tickF S d x) xs
def asmD (y : Dty) : Bool := decide (y.req.kind = 1)
def kindD (y : Dty) : Bool := decide (y.req.kind = 1) || decide (y.req.kind = 2) || decide (y.req.kind = 3)
def asmsF (d : List Dty) : LF := (d.filter asmD).map fun y => notR y.now
def gusF (d : List Dty) : LF := (d.filter fun y => !asmD y).map fun y => y.now
def C0 (d : List Dty) : Fml := if d.all kindD = true then Ck 6 (asmsF d ++ [Ck 5 (gusF d)]) else Ae
theorem ticks_nil (S : List Sgn) : ∀ xs, DF S [] xs = []
 | [] => rfl
 | x :: xs => by
  have : tickF S [] x = [] := rfl;rw [DF, this, ticks_nil S xs]
theorem ticks_map (S : List Sgn) : ∀ (xs : List Int) (d : List Dty), d.length ≤ (DF S d xs).length → DF S d xs = d.map (fun y => y.to (runL S y.now xs)) ∧ ∀ y ∈ d, xs ≠ [] → (runL S y.now xs).op ≠ 0
 | [], d, _ => ⟨by
   have : d.map (fun y => y.to (runL S y.now [])) = d.map id := List.map_congr_left fun y _ => by cases y; rfl
   rw [this, List.map_id]; rfl, fun _ _ h => absurd rfl h⟩
 | x :: xs, d, h => by
  rw [DF] at h ⊢;unfold tickF at h ⊢;by_cases H : d.any (fun y => decide ((Ca S y.now x).op = 0)) = true
  ·rw [if_pos H] at h;rw [ticks_nil] at h;have : d = [] := List.eq_nil_of_length_eq_zero Dy;subst this;cases H
  ·rw [if_neg H] at h ⊢;have D : ∀ y ∈ d, (Ca S y.now x).op ≠ 0 := fun y K e => H (List.any_eq_true.2 ⟨y, K, by simpa using e⟩);obtain ⟨X, W⟩ := ticks_map S xs (d.map fun y => y.to (Ca S y.now x)) Dy;have B : ∀ y ∈ d, runL S y.now (x :: xs) = runL S (Ca S y.now x) xs := fun y K => by rw [runL, if_neg (D y K)]
   refine ⟨?_, fun y K _ => ?_⟩
   ·rw [X, List.map_map];refine List.map_congr_left fun y K => ?_;show (y.to (Ca S y.now x)).to (runL S (Ca S y.now x) xs) = y.to (runL S y.now (x :: xs));rw [B y K];rfl
   ·rw [B y K];cases xs with
    | nil => exact D y K
    | cons x' xs => exact W (y.to (Ca S y.now x)) (List.mem_map.2 ⟨y, K, rfl⟩) O
theorem con_full {S : List Sgn} {N : Int} (h : N = 5 ∨ N = 6) {l : LF} (d : (Ck N l).op ≠ 0) (P : ∀ a ∈ l, isB (knS S) a = true) : LkS S (Ck N l) ∧ (∀ a ∈ l, BD a = true) ∧ ∀ (s : Wd) (t : Nat), sem s (Ck N l) t ↔ semJ s N l t := by
 rcases con_cases N l with e | ⟨X, W, R⟩
 ·rw [e] at d; exact absurd rfl d
 ·have b : ∀ a ∈ l, Sh a := fun a H => DL (BG (R a H)).2.2;refine ⟨⟨X, ?_⟩, R, fun s t => ?_⟩
  ·rw [W];refine is_join h fun c T => ?_;obtain ⟨a, H, rfl⟩ := List.mem_map.1 T;exact is_canon (b a H) (P a H)
  ·rw [W, join_sem h s fun c T => by
    obtain ⟨a, H, rfl⟩ := List.mem_map.1 T;exact cf_sh (canon_cf (b a H))]
   unfold semJ
   split
   ·exact ⟨fun k a H => (canon_sem s (b a H) t).1 (k _ (List.mem_map.2 ⟨a, H, rfl⟩)), fun k c T => by
     obtain ⟨a, H, rfl⟩ := List.mem_map.1 T;exact (canon_sem s (b a H) t).2 (k a H)⟩
   ·exact ⟨fun ⟨c, T, k⟩ => by
     obtain ⟨a, H, rfl⟩ := List.mem_map.1 T;exact ⟨a, H, (canon_sem s (b a H) t).1 k⟩, fun ⟨a, H, k⟩ => ⟨_, List.mem_map.2 ⟨a, H, rfl⟩, (canon_sem s (b a H) t).2 k⟩⟩
theorem imp_sem {S : List Sgn} {A G : LF} (b : (Ck 6 (A.map notR ++ [Ck 5 G])).op ≠ 0) (g : ∀ a ∈ A, isB (knS S) a = true) (D : ∀ a ∈ G, isB (knS S) a = true) :
  LkS S (Ck 6 (A.map notR ++ [Ck 5 G])) ∧ (∀ a, a ∈ A ∨ a ∈ G → BD a = true) ∧ ∀ (s : Wd) (t : Nat), sem s (Ck 6 (A.map notR ++ [Ck 5 G])) t ↔ (∃ a ∈ A, ¬ sem s a t) ∨ ∀ a ∈ G, sem s a t := by
 have V : ∀ a ∈ A.map notR ++ [Ck 5 G], BD a = true := by
  rcases con_cases 6 (A.map notR ++ [Ck 5 G]) with e | ⟨_, _, R⟩
  ·rw [e] at b; exact absurd rfl b
  ·exact R
 have i : (Ck 5 G).op ≠ 0 := loose_op (V _ O);obtain ⟨r, p, f⟩ := con_full (S := S) (.inl rfl) i D
 obtain ⟨M, j, Q⟩ := con_full (S := S) (.inr rfl) b fun a H => by
  rcases List.mem_append.1 H with H | H
  ·obtain ⟨c, T, rfl⟩ := List.mem_map.1 H;exact is_notR (g c T)
  ·simp at H; rw [H]; exact r.2
 have d : ∀ a ∈ A, (notR a).op ≠ 0 := fun a H => loose_op (V _ (by simp; exact .inl ⟨a, H, rfl⟩));refine ⟨M, fun a H => ?_, fun s t => ?_⟩
 ·rcases H with H | H
  ·exact (notR_sem (fun _ _ => 0) (d a H) 0).1
  ·exact p a H
 ·rw [Q];unfold semJ;rw [if_neg Dt];have h : semJ s 5 G t ↔ ∀ a ∈ G, sem s a t := by unfold semJ; rw [if_pos rfl]
  constructor
  ·rintro ⟨c, T, k⟩;rcases List.mem_append.1 T with T | T
   ·obtain ⟨a, H, rfl⟩ := List.mem_map.1 T;exact .inl ⟨a, H, (notR_sem s (d a H) t).2.1 k⟩
   ·simp at T; rw [T] at k;exact .inr (h.1 ((f s t).1 k))
  ·rintro (⟨a, H, k⟩ | k)
   ·exact ⟨notR a, by simp; exact .inl ⟨a, H, rfl⟩, (notR_sem s (d a H) t).2.2 k⟩
   ·exact ⟨Ck 5 G, by simp, (f s t).2 (h.2 k)⟩
theorem all_is {S : List Sgn} : ∀ {f : Fml}, allNd (ndOk S) f = true → isB (knS S) f = true
 | .mk op nm v b args, h => by
  rw [allNd_eq, Bool.and_eq_true, allNdL_iff] at h;refine is_iff.2 ⟨fun e => ?_, fun a H => all_is (h.2 a H)⟩;have := h.1;unfold ndOk at this;rw [if_pos (show (Fml.mk op nm v b args).op = 3 from e)] at this;exact this
theorem chk_req {s : Spc} (T : chkB s = true) {r : Rqm} (B : r ∈ s.reqs) : isB (knS s.sigs) (CQ r.formula).1 = true := by
 obtain ⟨i, F⟩ := List.getElem?_of_mem B;have n := (List.getElem?_eq_some_iff.1 F).1;unfold chkB at T;simp only [Bool.and_eq_true, List.all_eq_true, List.mem_range] at T;have W := T.2 i n;unfold reqB at W;rw [F] at W;simp only [Bool.and_eq_true] at W;have R := W.2;unfold fmOk at R;simp only [Bool.and_eq_true] at R;exact is_kern (all_is R.1.2)
theorem goal_eq {s : Spc} (z : (C6 s).op ≠ 0) : chkB s = true ∧ C6 s = Ck 6 (((s.reqs.filter asmB).map fun r => (CQ r.formula).1).map notR ++ [Ck 5 (guarsF s.reqs)]) := by
 unfold C6 at z ⊢;by_cases T : chkB s = true
 ·rw [if_pos T] at z ⊢;by_cases P : (Ck 5 (guarsF s.reqs)).op = 0
  ·rw [if_pos P] at z; exact absurd rfl z
  ·rw [if_neg P];refine ⟨T, ?_⟩;rw [List.map_map];rfl
 ·rw [if_neg T] at z; exact absurd rfl z
theorem split_sem {α : Type} (l : List α) (p : α → Bool) (k : α → Fml) (s : Wd) (t : Nat) : ((∃ a ∈ (l.filter p).map k, ¬ sem s a t) ∨ ∀ a ∈ (l.filter fun x => !p x).map k, sem s a t) ↔ (∃ r ∈ l, p r = true ∧ ¬ sem s (k r) t) ∨ ∀ r ∈ l, p r = false → sem s (k r) t := by
 constructor
 ·rintro (⟨a, H, h⟩ | h)
  ·obtain ⟨r, B, rfl⟩ := List.mem_map.1 H;obtain ⟨X, W⟩ := List.mem_filter.1 B;exact .inl ⟨r, X, W, h⟩
  ·exact .inr fun r B v => h _ (List.mem_map.2 ⟨r, List.mem_filter.2 ⟨B, by simp [v]⟩, rfl⟩)
 ·rintro (⟨r, B, v, h⟩ | h)
  ·exact .inl ⟨_, List.mem_map.2 ⟨r, List.mem_filter.2 ⟨B, v⟩, rfl⟩, h⟩
  ·refine .inr fun a H => ?_;obtain ⟨r, B, rfl⟩ := List.mem_map.1 H;obtain ⟨X, W⟩ := List.mem_filter.1 B;exact h r X (by simpa using W)
theorem goal_lk {s : Spc} (z : (C6 s).op ≠ 0) : LkS s.sigs (C6 s) ∧ (∀ r ∈ s.reqs, BD (CQ r.formula).1 = true) ∧ ∀ (W : Wd) (t : Nat), sem W (C6 s) t ↔ (∃ r ∈ s.reqs, asmB r = true ∧ ¬ sem W (CQ r.formula).1 t) ∨ ∀ r ∈ s.reqs, asmB r = false → sem W (CQ r.formula).1 t := by
 obtain ⟨T, F⟩ := goal_eq z;rw [F] at z ⊢
 obtain ⟨X, b, R⟩ := imp_sem (S := s.sigs) z (fun a H => by
  obtain ⟨r, B, rfl⟩ := List.mem_map.1 H;exact chk_req T (List.mem_filter.1 B).1) (fun a H => by
  obtain ⟨r, B, rfl⟩ := List.mem_map.1 H;exact chk_req T (List.mem_filter.1 B).1)
 refine ⟨X, fun r B => ?_, fun W t => ?_⟩
 ·cases hb : asmB r with
  | true => exact b _ (.inl (List.mem_map.2 ⟨r, List.mem_filter.2 ⟨B, hb⟩, rfl⟩))
  | false => exact b _ (.inr (List.mem_map.2 ⟨r, List.mem_filter.2 ⟨B, by simp [hb]⟩, rfl⟩))
 ·rw [R W t];exact split_sem s.reqs asmB (fun r => (CQ r.formula).1) W t
theorem dgoal_lk {S : List Sgn} {d : List Dty} (z : (C0 d).op ≠ 0) (P : ∀ y ∈ d, isB (knS S) y.now = true) : LkS S (C0 d) ∧ (∀ y ∈ d, BD y.now = true) ∧ ∀ (W : Wd) (t : Nat), sem W (C0 d) t ↔ (∃ y ∈ d, asmD y = true ∧ ¬ sem W y.now t) ∨ ∀ y ∈ d, asmD y = false → sem W y.now t := by
 unfold C0 at z ⊢;by_cases T : d.all kindD = true
 ·rw [if_pos T] at z ⊢;have F : asmsF d = ((d.filter asmD).map fun y => y.now).map notR := by rw [List.map_map]; rfl
  rw [F] at z ⊢
  obtain ⟨X, b, R⟩ := imp_sem (S := S) z (fun a H => by
   obtain ⟨r, B, rfl⟩ := List.mem_map.1 H;exact P r (List.mem_filter.1 B).1) (fun a H => by
   obtain ⟨r, B, rfl⟩ := List.mem_map.1 H;exact P r (List.mem_filter.1 B).1)
  refine ⟨X, fun r B => ?_, fun W t => ?_⟩
  ·cases hb : asmD r with
   | true => exact b _ (.inl (List.mem_map.2 ⟨r, List.mem_filter.2 ⟨B, hb⟩, rfl⟩))
   | false => exact b _ (.inr (List.mem_map.2 ⟨r, List.mem_filter.2 ⟨B, by simp [hb]⟩, rfl⟩))
  ·rw [R W t];exact split_sem d asmD (fun y => y.now) W t
 ·rw [if_neg T] at z; exact absurd rfl z
theorem lk_op {S : List Sgn} {f : Fml} (h : LkS S f) : f.op ≠ 0 := loose_op h.1
theorem goon_sem {s : Spc} {t : Int} {xs : List Int} {W : Wd} (z : (C6 s).op ≠ 0) (M : s.reqs.length ≤ (DF s.sigs (CW s t) xs).length) (B : ∀ i x, xs[i]? = some x → W i = vlS s.sigs x) (G : (C0 (DF s.sigs (CW s t) xs)).op ≠ 0) :
  LkS s.sigs (C0 (DF s.sigs (CW s t) xs)) ∧ (sem (dropW xs.length W) (C0 (DF s.sigs (CW s t) xs)) 0 ↔ sem W (C6 s) 0) := by
 have T := (goal_eq z).1;obtain ⟨_, gl, w⟩ := goal_lk z;obtain ⟨e, j⟩ := ticks_map s.sigs xs (CW s t) (by simpa [CW] using M);have E : ∀ r ∈ s.reqs, LkS s.sigs (BV (CQ r.formula).1) ∧ ∀ (W : Wd) (t : Nat), sem W (BV (CQ r.formula).1) t ↔ sem W (CQ r.formula).1 t := fun r A => canG_lk (by rw [canG_of (gl r A)]; exact bare_op (bare_canon (BG (gl r A)).2.2)) (chk_req T A)
 have R : ∀ r ∈ s.reqs, LkS s.sigs (runL s.sigs (BV (CQ r.formula).1) xs) ∧ (sem (dropW xs.length W) (runL s.sigs (BV (CQ r.formula).1) xs) 0 ↔ sem W (CQ r.formula).1 0) := fun r A => by
  obtain ⟨n, m⟩ := E r A
  have g : (runL s.sigs (BV (CQ r.formula).1) xs).op ≠ 0 := by
   by_cases V : xs = []
   ·rw [V]; exact lk_op n
   ·exact j (strD t r) (List.mem_map.2 ⟨r, A, rfl⟩) V
  obtain ⟨f, b⟩ := run_sem xs n g B;exact ⟨f, b.trans (m W 0)⟩
 have F : DF s.sigs (CW s t) xs = s.reqs.map fun r => (strD t r).to (runL s.sigs (BV (CQ r.formula).1) xs) := by
  rw [e, CW, List.map_map]; rfl
 rw [F] at G ⊢
 obtain ⟨p, _, a⟩ := dgoal_lk (S := s.sigs) G fun y K => by
  obtain ⟨r, A, rfl⟩ := List.mem_map.1 K;exact (R r A).1.2
 refine ⟨p, ?_⟩;rw [a, w];constructor
 ·rintro (⟨y, K, X, c⟩ | h)
  ·obtain ⟨r, A, rfl⟩ := List.mem_map.1 K;exact .inl ⟨r, A, X, fun k => c ((R r A).2.2 k)⟩
  ·exact .inr fun r A d => (R r A).2.1 (h _ (List.mem_map.2 ⟨r, A, rfl⟩) d)
 ·rintro (⟨r, A, X, c⟩ | h)
  ·exact .inl ⟨_, List.mem_map.2 ⟨r, A, rfl⟩, X, fun k => c ((R r A).2.1 k)⟩
  ·refine .inr fun y K d => ?_;obtain ⟨r, A, rfl⟩ := List.mem_map.1 K;exact (R r A).2.2 (h r A d)
theorem lix_drop (n m p t : Nat) : lixN (n + m) p (t + n) = n + lixN m p t := by
 unfold lixN;by_cases h : t < m + p
 ·rw [if_pos h, if_pos U]; omega
 ·rw [if_neg h, if_neg U, show t + n - (n + m) = t - m by omega]; omega
theorem word_drop (S : List Sgn) (xs b : List Int) (m p : Nat) : dropW xs.length (wdG S (xs ++ b) (xs.length + m) p) = wdG S b m p := by
 funext t nm
 show vlS S ((xs ++ b).getD (lixN (xs.length + m) p (t + xs.length)) 0) nm = vlS S (b.getD (lixN m p t) 0) nm;rw [lix_drop];simp only [List.getD_eq_getElem?_getD];rw [List.getElem?_append_right U, Nat.add_sub_cancel_left]
theorem word_at (S : List Sgn) (xs b : List Int) (m p : Nat) : ∀ i x, xs[i]? = some x → wdG S (xs ++ b) (xs.length + m) p i = vlS S x := by
 intro i x V;have F := (List.getElem?_eq_some_iff.1 V).1
 funext nm
 show vlS S ((xs ++ b).getD (lixN (xs.length + m) p i) 0) nm = _;unfold lixN;rw [if_pos U, List.getD_eq_getElem?_getD, List.getElem?_append_left F, V];rfl
mutual
def C9 : Fml → Fml
 | .mk op nm v b args => .mk op nm (if op = 3 then v else 0) b (shpL args)
def shpL : LF → LF
 | [] => []
 | a :: l => C9 a :: shpL l
end
theorem shpL_eq : ∀ l, shpL l = l.map C9
 | [] => rfl
 | a :: l => by rw [shpL, shpL_eq l]; rfl
def conjF (f : Fml) : LF := if f.op = 1 then [] else if f.op = 5 then f.args else [f]
def pendB (t : LF) (c : Fml) : Bool := !(t.any fun k => decide (BO k (C9 c) = 0))
def pendL (a b : Fml) : LF := (conjF b).filter (pendB ((conjF a).map C9))
def pendF (first s : Fml) : Fml := if (BV first).op = 0 ∨ (BV s).op = 0 then Ae else Ck 5 (pendL (BV first) (BV s))
def dropD (x : Dty) (t : Int) : List Dty := if (pendF x.first x.now).op = 1 then [] else [⟨⟨x.req.part, x.req.name, 3, x.req.formula⟩, t, pendF x.first x.now, pendF x.first x.now⟩]
theorem w_valid : A6 spcW.sigs = true := by kernel_rfl
theorem w_num : CN spcW.sigs = 4 := by kernel_rfl
theorem w_chk : chkB spcW = true := by kernel_rfl
def duW : Dty := (strD 0 reqW).to (Ca spcW.sigs (strD 0 reqW).now 1)
theorem w_tick : tickF spcW.sigs (CW spcW 0) 1 = [duW] := by kernel_rfl
theorem w_first : (Db spcW.sigs duW.first []).op = 10 := by kernel_rfl
theorem w_now : (Db spcW.sigs duW.now []).op = 5 := by kernel_rfl
def owW : Fml := ⟨9, [], 0, 0, [⟨1, [], 0, 0, []⟩, isF [103] 1]⟩
def drW : Dty := ⟨⟨[112], [97], 3, reqW.formula⟩, 1, owW, owW⟩
theorem w_drop : dropD duW 1 = [drW] := by kernel_rfl
theorem w_goal : C0 [drW] = owW := by kernel_rfl
theorem w_lk : LkS spcW.sigs owW := ⟨by kernel_rfl, by kernel_rfl⟩
section
variable (w : World) (c1 c3 t : Nat) (S : List Sgn) (xs : List Int) (m p B : Nat) (pv vv : Value)
theorem gluntil_ok (P Q : Nat → Prop) (h : LwG w c1 c3 t S xs m p B) (i : Per B p P) (T : Per B p Q) (q : TrusG w vv (B + p) [fun t => tv (P t), fun t => tv (Q t)]) : Fn Zp 221 [pv, vv, pt c1] w fun u w' => Tru w' u (B + p) (fun t => tv (CT P Q t)) ∧ Ext w w' := by
 obtain ⟨g, a, k, b, C⟩ := q;have k : vv = .slice (sm g) 2 2 := k;subst k;obtain ⟨D, c, M⟩ := C 0 _ rfl;obtain ⟨j, d, f⟩ := C 1 _ rfl;have s := b.cell (o := 0 + 0) (by exact c);have v := b.cell (o := 0 + 1) (by exact d);have n := h.b1;refine AG Tryz.func221 rfl Tryz.ntmps221 (go ?_);refine AW (rd 0 7 (.alt 7 (.read 8 .done) .stop)) Al Dk (fun K N I => ⟨Ext K, ?_, ?_⟩)
 ·exact EZ
 refine go ?_;refine D_E rfl ?_;refine AC (guntil_ok K t S xs m p B D j P Q (h.ax.ext N) i T (M.ext N) (f.ext N)) rfl ?_;exact EV
theorem glrel_ok (P Q : Nat → Prop) (h : LwG w c1 c3 t S xs m p B) (i : Per B p P) (T : Per B p Q) (q : TrusG w vv (B + p) [fun t => tv (P t), fun t => tv (Q t)]) : Fn Zp 223 [pv, vv, pt c1] w fun u w' => Tru w' u (B + p) (fun t => tv (relS P Q t)) ∧ Ext w w' := by
 obtain ⟨g, a, k, b, C⟩ := q;have k : vv = .slice (sm g) 2 2 := k;subst k;obtain ⟨D, c, M⟩ := C 0 _ rfl;obtain ⟨j, d, f⟩ := C 1 _ rfl;have s := b.cell (o := 0 + 0) (by exact c);have v := b.cell (o := 0 + 1) (by exact d);have n := h.b1;refine AG Tryz.func223 rfl Tryz.ntmps223 (go ?_);refine AW (rd 0 7 (.alt 7 (.read 8 .done) .stop)) Al Dk (fun K N I => ⟨Ext K, ?_, ?_⟩)
 ·exact EZ
 refine go ?_;refine D_E rfl ?_;refine AC (grelease_ok K t S xs m p B D j P Q (h.ax.ext N) i T (M.ext N) (f.ext N)) rfl ?_;exact EV
theorem glsince_ok (b o : Nat) (Z : Int) (P Q : Nat → Prop) (h : LwG w c1 c3 t S xs m p B) (q : TrusG w vv (B + p) [fun t => tv (P t), fun t => tv (Q t)]) (q2 : w.cell? ⟨b, o + 2, none⟩ = some (iV Z)) : Fn Zp 234 [.pointer (some ⟨b, o, none⟩), vv, pt c1] w fun u w' => Tru w' u (B + p) (fun t => tv (BK Z P Q t)) ∧ Ext w w' := by
 obtain ⟨g, x, k, c, C⟩ := q;have k : vv = .slice (sm g) 2 2 := k;subst k;obtain ⟨D, d, M⟩ := C 0 _ rfl;obtain ⟨j, f, i⟩ := C 1 _ rfl;have s := c.cell (o := 0 + 0) (by exact d);have v := c.cell (o := 0 + 1) (by exact f);have n := h.b1;refine AG Tryz.func234 rfl Tryz.ntmps234 (go ?_);refine AW (rd 0 12 (.alt 12 (.read 13 .done) .stop)) Al Dk (fun K N I => ⟨Ext K, ?_, ?_⟩)
 ·exact EZ
 have a := gsince_ok K t S xs m p B D j P Q Z (h.ax.ext N) (M.ext N) (i.ext N);by_cases q : Z = 1
 ·rw [decide_eq_true q] at a;refine go ?_;refine D_E rfl ?_;refine AC a rfl ?_;exact EV
 ·rw [decide_eq_false q] at a;refine go ?_;refine D_E rfl ?_;refine AC a rfl ?_;exact EV
theorem gltrig_ok (b o : Nat) (Z : Int) (P Q : Nat → Prop) (h : LwG w c1 c3 t S xs m p B) (q : TrusG w vv (B + p) [fun t => tv (P t), fun t => tv (Q t)]) (q2 : w.cell? ⟨b, o + 2, none⟩ = some (iV Z)) : Fn Zp 236 [.pointer (some ⟨b, o, none⟩), vv, pt c1] w fun u w' => Tru w' u (B + p) (fun t => tv (DJ Z P Q t)) ∧ Ext w w' := by
 obtain ⟨g, x, k, c, C⟩ := q;have k : vv = .slice (sm g) 2 2 := k;subst k;obtain ⟨D, d, M⟩ := C 0 _ rfl;obtain ⟨j, f, i⟩ := C 1 _ rfl;have s := c.cell (o := 0 + 0) (by exact d);have v := c.cell (o := 0 + 1) (by exact f);have n := h.b1;refine AG Tryz.func236 rfl Tryz.ntmps236 (go ?_);refine AW (rd 0 12 (.alt 12 (.read 13 .done) .stop)) Al Dk (fun K N I => ⟨Ext K, ?_, ?_⟩)
 ·exact EZ
 have a := gtrigger_ok K t S xs m p B D j P Q Z (h.ax.ext N) (M.ext N) (i.ext N);by_cases q : Z = 1
 ·rw [decide_eq_true q] at a;refine go ?_;refine D_E rfl ?_;refine AC a rfl ?_;exact EV
 ·rw [decide_eq_false q] at a;refine go ?_;refine D_E rfl ?_;refine AC a rfl ?_;exact EV
theorem gyest1_ok (k c i b o : Nat) (Z : Int) (n : Nat) (ps : List (Nat → Bool)) (P : Nat → Prop) (f : k < n) (G : n ≤ 1000000) (l : Blk w i 96 [.pointer (some ⟨b, o, none⟩)]) (e : Blk w c 228 [vv]) (q : TrusG w vv n ps) (a : ps[0]? = some fun t => tv (P t)) (q2 : w.cell? ⟨b, o + 2, none⟩ = some (iV Z)) : Fn Zp 233 [iV (k : Int), pt i, pt c] w fun u w' => u = .bool (tv (yestS Z P k)) ∧ w' = w := by
 obtain ⟨g, rfl, T⟩ := q.at;obtain ⟨u, d, x⟩ := T 0 _ a;have s := (List.getElem?_eq_some_iff.1 a).1;refine AG Tryz.func233 rfl Tryz.ntmps233 (go ?_);cases k with
 | zero =>
  refine go ?_;by_cases q : Z = 1
  ·refine go ?_;exact AA rfl ⟨congrArg Value.bool (tv_eq (by simp [yestS, q])), rfl⟩
  ·refine go ?_;exact AA rfl ⟨congrArg Value.bool (tv_eq (by simp [yestS, q])), rfl⟩
 | succ k =>
  have z := x k U;have h : ((k + 1 : Nat) : Int) - 1 = (k : Int) := by omega
  exact EU
theorem glyest_ok (b o : Nat) (Z : Int) (ps : List (Nat → Bool)) (P : Nat → Prop) (i : ps[0]? = some fun t => tv (P t)) (h : LwG w c1 c3 t S xs m p B) (q : TrusG w vv (B + p) ps) (q2 : w.cell? ⟨b, o + 2, none⟩ = some (iV Z)) : Fn Zp 232 [.pointer (some ⟨b, o, none⟩), vv, pt c1] w fun u w' => Tru w' u (B + p) (fun t => tv (yestS Z P t)) ∧ Ext w w' := by
 obtain ⟨n, v, s, d⟩ := h.ax.len;obtain ⟨g, rfl, _⟩ := id q.at;refine AG Tryz.func232 rfl Tryz.ntmps232 (go ?_);refine Aj (L := [.pointer (some ⟨b, o, none⟩)]) rfl (fun Q E => go ?_);refine Aj (L := [.slice (sm g) ps.length ps.length]) rfl (fun f V => ?_);have l := E.E.trans V.E;have X := h.ext l;have j := X.b1;have a := E.D.E V.E O;refine go ?_;refine AC (DC f t S xs m p B 233 [] [pt w.heap.size, pt Q.heap.size] (fun t => tv (yestS Z P t)) [] (fun _ _ => True) X.ax O trivial (fun _ _ _ => trivial) (fun k W c T _ => ?_)) rfl ?_
 ·exact (gyest1_ok W _ k Q.heap.size w.heap.size b o Z (B + p) ps P c d (a.E T O) (V.D.E T O) ((q.ext l).ext T) i (T.cell (l.cell q2 O) O)).mono fun u w' r => ⟨r.1, r.2 ▸ Ext.refl _, trivial⟩
 rintro u x ⟨r, e, _⟩;refine go ?_;exact AA rfl ⟨r, l.trans e⟩
theorem glis1_ok (d a b o i k : Nat) (x Z : Int) (P : k < B + p) (V : xs[lixN m p k]? = some x) (F : i < S.length) (X : Blk w c1 139 [pt t]) (E : Blk w d 3 [iV (i : Int)]) (c : Blk w a 96 [.pointer (some ⟨b, o, none⟩)]) (G : AxG w t S xs m p B) (q2 : w.cell? ⟨b, o + 2, none⟩ = some (iV Z)) :
  Fn Zp 208 [iV (k : Int), pt c1, pt d, pt a] w fun u w' => u = .bool (tv (valS S x i = Z)) ∧ Ext w w' := by
 refine AG Tryz.func208 rfl Tryz.ntmps208 (go ?_);refine AW (rd 0 3 (rd 4 4 (.alt 3 (.read 8 (.read 9 .done)) .stop))) Al Dk (fun K N I => ⟨Ext K, ?_, ?_⟩)
 ·exact EZ
 refine go ?_;refine D_E rfl ?_;refine AC (gvalue_ok K t S xs m p B k i x (G.ext N) U V F) rfl ?_;rintro _ L ⟨rfl, l⟩;refine AH ⟨Ext K, fun _ e => e, l, ?_⟩;by_cases q : valS S x i = Z
 ·refine go ?_;exact AA rfl ⟨congrArg Value.bool (tv_eq (by simp [q])), N.trans l⟩
 ·refine go ?_;exact AA rfl ⟨congrArg Value.bool (tv_eq (by simp [q])), N.trans l⟩
theorem glis_ok (b o : Nat) (nm : LU) (Z : Int) (h : LwG w c1 c3 t S xs m p B) (P : knS S nm Z = true) (q1 : w.cell? ⟨b, o + 1, none⟩ = some (AI nm)) (q2 : w.cell? ⟨b, o + 2, none⟩ = some (iV Z)) :
  Fn Zp 207 [.pointer (some ⟨b, o, none⟩), vv, pt c1] w fun u w' => Tru w' u (B + p) (fun k => tv (wdG S xs m p k nm = Z)) ∧ Ext w w' := by
 obtain ⟨G, H, a4, a5⟩ := h.ax.len;obtain ⟨i, s, y, R, a6⟩ := kn_find P;have n := (List.getElem?_eq_some_iff.1 R).1;have F : Dg S nm = (i : Int) := by unfold Dg; rw [y]
 have I : ∀ x, vlS S x nm = valS S x i := fun x => by unfold vlS; rw [y]
 refine AG Tryz.func207 rfl Tryz.ntmps207 (go ?_);refine Aj (L := [.pointer (some ⟨b, o, none⟩)]) rfl (fun w1 E => ?_);have X := h.ext E.E;have Q := E.D;have a0 := E.E.cell q1 O;have M := E.E.cell q2 O;obtain ⟨_, sa, sc, lb, lo, lc, g, C, _⟩ := id X.ax;refine go ?_;refine AW (rd 0 8 (.alt 8 (.alt 9 (.alt 10 .done .stop) .stop) (.alt 9 (.alt 8 (.alt 10 .done .stop) .stop) .stop))) Al Dk (fun K N ed => ⟨Ext K, ?_, ?_⟩)
 ·exact EZ
 have a1 := X.b1.E N O;have a3 := g.E N O;have a2 := Q.E N O;have a7 := N.cell a0 O;refine go ?_;refine D_A rfl ?_ (D_E rfl ?_)
 ·refine AC (sigFind_ok K _ S nm (C.ext N)) rfl ?_;rintro _ K ⟨rfl, rfl⟩;rw [F];refine AH ⟨Ext K, fun _ e => e, Ext.refl _, ?_⟩;refine D_E rfl ?_;refine AQ (fun A a => ?_);refine AH ⟨Ext K, fun _ e => e, a.E, ?_⟩;exact EO
 ·refine AQ (fun A a => ?_);refine AH ⟨Ext K, fun _ e => e, a.E, ?_⟩;refine D_E rfl ?_;refine AC (sigFind_ok A _ S nm (C.ext (N.trans a.E))) rfl ?_;rintro _ A ⟨rfl, rfl⟩;rw [F];refine AH ⟨Ext K, fun _ e => e, a.E, ?_⟩;exact EO
end
set_option maxHeartbeats 4000000 in
theorem glaws_ok (w : World) (t : Nat) (S : List Sgn) (xs : List Int) (m p B : Nat) (h : AxG w t S xs m p B) : Fn Zp 175 [pt t] w fun u w' => ∃ r G Z, u = .map (some r) ∧ Ext w w' ∧ LwG w' G Z t S xs m p B ∧ VMap w' r (lawT G Z) := by
 refine AG Tryz.func175 rfl Tryz.ntmps175 (go ?_);refine Aj (L := [pt t]) rfl (fun q E => go ?_);refine AQ (fun w2 V => ?_);refine AN (v := .func (.func 202) #[] #[pt w.heap.size]) rfl rfl rfl V.D O (fun A d => ?_);have z1 := E.size;have z2 := V.size;have z3 := d.size;have g : Ext q A := V.E.E d.E O;have D : LwG A w.heap.size q.heap.size t S xs m p B := ⟨E.D.E g O, d.D, h.ext (E.E.trans g)⟩;have e3 : Ext w A := E.E.trans g;obtain ⟨Z, f0⟩ : ∃ Z, Z = q.heap.size := ⟨_, rfl⟩;rw [← f0] at D ⊢;clear V d g;refine go ?_;refine W_makeMapV (fun f3 c9 e8 b0 => go ?_);refine As rfl rfl rfl b0 rfl (fun f4 i e b1 => ?_);have d0 := (c9).E i O;replace e := e.trans e8;clear b0 c9 e8 i;refine go ?_;refine As rfl rfl rfl b1 rfl (fun g5 a2 c c1 => ?_);have e0 := (d0).E a2 O;replace c := c.trans e;clear b1 d0 e a2;refine go ?_;refine As rfl rfl rfl c1 rfl (fun g6 a3 W c2 => ?_);have e1 := (e0).E a3 O;replace W := W.trans c;clear c1 e0 c a3;refine go ?_;refine As rfl rfl rfl c2 rfl (fun g7 a4 Q c3 => ?_);have e2 := (e1).E a4 O;replace Q := Q.trans W;clear c2 e1 W a4;refine go ?_;refine As rfl rfl rfl c3 rfl (fun g8 a5 K c4 => ?_);have yx5 := (e2).E a5 O;replace K := K.trans Q;clear c3 e2 Q a5;refine go ?_;refine As rfl rfl rfl c4 rfl (fun g9 a6 j c5 => ?_);have e4 := (yx5).E a6 O;replace j := j.trans K;clear c4 yx5 K a6;refine go ?_;refine As rfl rfl rfl c5 rfl (fun h0 a7 z c6 => ?_);have e5 := (e4).E a7 O;replace z := z.trans j;clear c5 e4 j a7;refine go ?_;refine As rfl rfl rfl c6 rfl (fun h1 a8 n c7 => ?_);have e6 := (e5).E a8 O;replace n := n.trans z;clear c6 e5 z a8;refine go ?_;refine As rfl rfl rfl c7 rfl (fun h2 a9 o c8 => ?_);have e7 := (e6).E a9 O;replace o := o.trans n;clear c7 e6 n a9;refine go ?_;refine As rfl rfl rfl c8 rfl (fun f5 l k b2 => ?_);have d1 := (e7).E l O;replace k := k.trans o;clear c8 e7 o l;refine go ?_;refine As rfl rfl rfl b2 rfl (fun f6 F f b3 => ?_);have d2 := (d1).E F O;replace f := f.trans k;clear b2 d1 k F;refine go ?_;refine As rfl rfl rfl b3 rfl (fun f7 b a b4 => ?_);have d3 := (d2).E b O;replace a := a.trans f;clear b3 d2 f b;refine go ?_;refine As rfl rfl rfl b4 rfl (fun f8 M T b5 => ?_);have d4 := (d3).E M O;replace T := T.trans a;clear b4 d3 a M;refine go ?_;refine As rfl rfl rfl b5 rfl (fun f9 P N b6 => ?_);have d5 := (d4).E P O;replace N := N.trans T;clear b5 d4 T P;refine go ?_;refine As rfl rfl rfl b6 rfl (fun g0 I H b7 => ?_);have d6 := (d5).E I O;replace H := H.trans N;clear b6 d5 N I;refine go ?_;refine As rfl rfl rfl b7 rfl (fun g1 R C b8 => ?_);have d7 := (d6).E R O;replace C := C.trans H;clear b7 d6 H R;refine go ?_;refine As rfl rfl rfl b8 rfl (fun g2 X x b9 => ?_);have d8 := (d7).E X O;replace x := x.trans C;clear b8 d7 C X;refine go ?_;refine As rfl rfl rfl b9 rfl (fun g3 a0 s c0 => ?_);have d9 := (d8).E a0 O;replace s := s.trans x;clear b9 d8 x a0;refine go ?_;refine As rfl rfl rfl c0 rfl (fun g4 a1 e9 f1 => ?_);have f2 := (d9).E a1 O;replace e9 := e9.trans s;clear c0 d9 s a1;refine go ?_;have y := f2;exact AA rfl ⟨_, _, _, rfl, e3.trans y, D.ext y, f1⟩
noncomputable def tvs (ps : List (Nat → Prop)) : List (Nat → Bool) := ps.map fun q t => tv (q t)
theorem glaw_at (w : World) (G Z t b o : Nat) (S : List Sgn) (xs : List Int) (m p B : Nat) (N : Int) (nm : LU) (v d : Int) (ps : List (Nat → Prop)) (h : LwG w G Z t S xs m p B) (s : ps.length ≤ 1000000) (X : ∀ q ∈ ps, Per B p q)
  (M : looseO N = true) (H : Ar N ps.length = true) (P : N = 3 → knS S nm v = true) (q1 : w.cell? ⟨b, o + 1, none⟩ = some (AI nm)) (q2 : w.cell? ⟨b, o + 2, none⟩ = some (iV v)) :
  ∃ (F : FuncId) (_ : AD Zp F) (i : LV), (lawT G Z).lookup N = some (mvT F i) ∧ ∀ W c, Ext w W → TrusG W c (B + p) (tvs ps) → Fn Zp F ([.pointer (some ⟨b, o, none⟩), c] ++ i) W fun u w' => Tru w' u (B + p) (fun t => tv (opS (wdG S xs m p) N nm v d ps t)) ∧ Ext W w' := by
 have k : ps.length = 1 → ∃ q, ps = [q] := fun g => by
  match ps, g with
  | [q], _ => exact ⟨q, rfl⟩
 have j : ps.length = 2 → ∃ q r, ps = [q, r] := fun g => by
  match ps, g with
  | [q, r], _ => exact ⟨q, r, rfl⟩
 have y : (tvs ps).length ≤ 1000000 := by rw [tvs, List.length_map]; exact s
 rcases Bj M with rfl | rfl | rfl | rfl | rfl | rfl | rfl | rfl | rfl | rfl | rfl | rfl
 ·exact ⟨_, inferInstance, [pt Z], rfl, fun W c e f => (gltrue_ok W G Z t S xs m p B _ c (h.ext e)).mono fun u w' a => ⟨a.1.congr fun t _ => tv_eq D4, a.2⟩⟩
 ·exact ⟨_, inferInstance, [pt Z], rfl, fun W c e f => (glfalse_ok W G Z t S xs m p B _ c (h.ext e)).mono fun u w' a => ⟨a.1.congr fun t _ => tv_eq D4, a.2⟩⟩
 ·exact ⟨_, inferInstance, [pt G], rfl, fun W c e f => (glis_ok W G Z t S xs m p B c b o nm v (h.ext e) (P rfl) (e.cell q1 O) (e.cell q2 O)).mono fun u w' a => ⟨a.1.congr fun t _ => CO D4, a.2⟩⟩
 ·obtain ⟨q, rfl⟩ := k Ds;exact ⟨_, inferInstance, [pt G], rfl, fun W c e f => (glnot_ok W G Z t S xs m p B _ c _ _ rfl y (h.ext e) f).mono fun u w' a => ⟨a.1.congr fun t _ => by rw [tv_not]; exact CO D4, a.2⟩⟩
 ·exact ⟨_, inferInstance, [pt G], rfl, fun W c e f => (gland_ok W G Z t S xs m p B _ c _ y (h.ext e) f).mono fun u w' a => ⟨a.1.congr fun t _ => tv_eq (by simp [opS, opP, tvs, tv_iff]), a.2⟩⟩
 ·refine ⟨_, inferInstance, [pt G], rfl, fun W c e f => (glor_ok W G Z t S xs m p B _ c _ y (h.ext e) f).mono fun u w' a => ⟨a.1.congr fun t _ => tv_eq ?_, a.2⟩⟩;rw [Bool.not_eq_true', ← Bool.not_eq_true, List.all_eq_true];simp [opS, opP, tvs, tv_iff]
 ·obtain ⟨q, rfl⟩ := k Ds;refine ⟨_, inferInstance, [pt G], rfl, fun W c e f => (glnext_ok W G Z t S xs m p B _ c _ _ rfl y (h.ext e) f).mono fun u w' a => ⟨a.1.congr fun t x => CO ?_, a.2⟩⟩;have n := X q O;simp only [opS, opP, plcN];by_cases M : t + 1 < B + p
  ·rw [if_pos M]; simp
  ·have l : t + 1 = B + p := by omega
   rw [if_neg M];simp [l, n B (Nat.le_refl _)]
 ·obtain ⟨q, r, rfl⟩ := j Ds;exact ⟨_, inferInstance, [pt G], rfl, fun W c e f => (gluntil_ok W G Z t S xs m p B _ c q r (h.ext e) (X q O) (X r O) f).mono fun u w' a => ⟨a.1.congr fun t _ => CO D4, a.2⟩⟩
 ·obtain ⟨q, r, rfl⟩ := j Ds;exact ⟨_, inferInstance, [pt G], rfl, fun W c e f => (glrel_ok W G Z t S xs m p B _ c q r (h.ext e) (X q O) (X r O) f).mono fun u w' a => ⟨a.1.congr fun t _ => CO D4, a.2⟩⟩
 ·obtain ⟨q, rfl⟩ := k Ds;exact ⟨_, inferInstance, [pt G], rfl, fun W c e f => (glyest_ok W G Z t S xs m p B c b o v _ q rfl (h.ext e) f (e.cell q2 O)).mono fun u w' a => ⟨a.1.congr fun t _ => CO D4, a.2⟩⟩
 ·obtain ⟨q, r, rfl⟩ := j Ds;exact ⟨_, inferInstance, [pt G], rfl, fun W c e f => (glsince_ok W G Z t S xs m p B c b o v q r (h.ext e) f (e.cell q2 O)).mono fun u w' a => ⟨a.1.congr fun t _ => CO D4, a.2⟩⟩
 ·obtain ⟨q, r, rfl⟩ := j Ds;exact ⟨_, inferInstance, [pt G], rfl, fun W c e f => (gltrig_ok W G Z t S xs m p B c b o v q r (h.ext e) f (e.cell q2 O)).mono fun u w' a => ⟨a.1.congr fun t _ => CO D4, a.2⟩⟩
theorem bare_node {i : Bool} {N v b : Int} {nm : LU} {args : LF} (h : BC i (.mk N nm v b args) = true) : looseO N = true ∧ Ar N args.length = true ∧ ∀ a ∈ args, ∃ i, BC i a = true := by
 rw [bareB_eq] at h;simp only [Bool.and_eq_true] at h;exact ⟨h.1.1.1.1, Bg h.1.1.1.2, fun a H => ⟨_, DK h.2 H⟩⟩
set_option maxHeartbeats 1000000 in
theorem grow1_ok (R : World) (G Z C c t mp : Nat) (S : List Sgn) (xs : List Int) (m p B : Nat) (hL : LwG R G Z t S xs m p B) (hm : VMap R mp (lawT G Z)) (h5 : Blk R C 226 [.map (some mp)]) (h6 : Blk R c 179 [.func (.func 176) #[] #[pt c, pt C]]) (hs : Per m p (wdG S xs m p)) :
  ∀ (n : Nat) (w : World) (b o : Nat) (f : Fml), dpF f ≤ n → szF f ≤ 10000 → m + DB f * p ≤ B → Ext R w → PF AZ w b o f → (∃ i, BC i f = true) → isB (knS S) f = true → Fn Zp 176 [.pointer (some ⟨b, o, none⟩), pt c, pt C] w fun u w' => Tru w' u (B + p) (fun t => tv (sem (wdG S xs m p) f t)) ∧ Ext w w' := by
 intro n
 induction n with
 | zero => intro w b o f hn; rw [BP] at hn; omega
 | succ n ih =>
 intro w b o f hn hz c1 M hf P hk;rw [BP] at hn;rw [Bd] at hz;obtain ⟨aa, cc, d1, q0, q1, q2, q3, q4, qa⟩ := hf.all;obtain ⟨I, nm, v, bd, d⟩ := f;obtain ⟨i0, P⟩ := P;obtain ⟨b9, a4, b0⟩ := bare_node P;obtain ⟨b7, b8⟩ := is_iff.1 hk;have d2 := Bv d;simp only [Fml.op, Fml.name, Fml.val, Fml.args] at *;obtain ⟨c8, hp, c9, d0⟩ := hL.ax.len
 have d4 : m + nestL d * p ≤ B := by
  rw [DB] at c1;have : nestL d * p ≤ (nestL d + if I = 15 ∨ I = 16 ∨ I = 17 ∨ I = 18 ∨ I = 19 then 1 else 0) * p := Nat.mul_le_mul_right _ U;omega
 rw [sem, Cm];obtain ⟨l, a0⟩ : ∃ l, l = d.map (sem (wdG S xs m p)) := ⟨_, rfl⟩;have a1 : l.length = d.length := by rw [a0, List.length_map]
 have c4 : (tvs l).length = d.length := by rw [tvs, List.length_map, a1]
 rw [← a0];refine AG Tryz.func176 rfl Tryz.ntmps176 (go ?_);refine W_make1 (n := d.length) rfl rfl rfl rfl rfl U U (fun w1 E => ?_);have z1 := E.size;have d7 := E.E.cell q4 O;refine go ?_;have d3 := hf.lt;obtain ⟨g, hg⟩ : ∃ g, g = w.heap.size := ⟨_, rfl⟩;have bg := E.D;rw [← hg] at bg ⊢
 refine Ah (α := Nat × LV) (fun | (k, _) => [(0, .pointer (some ⟨b, o, none⟩)), (1, pt c), (2, pt C), (5, .slice (some ⟨g, 0, none⟩) d.length d.length), (17, .int .i64 (d.length : Int)), (18, .int .i64 (k : Int))])
  (fun | (k, z), W => k ≤ d.length ∧ Ext w W ∧ z.length = k ∧ Blk W g 140 (z ++ List.replicate (d.length - k) (.slice none 0 0)) ∧ ∀ (j : Nat) (q : Nat → Prop), j < k → l[j]? = some q → ∃ u, z[j]? = some u ∧ Tru W u (B + p) (fun t => tv (q t)) ∧ u.ownBlock ≠ some g) (fun | (k, _) => d.length - k) (0, []) ag ⟨by omega, E.E, rfl, bg, fun j q hj => by omega⟩ ?_
 rintro ⟨k, z⟩ W fr ⟨c7, T, a2, A, hW⟩;have c5 := T.cell q4 O;refine go ?_;by_cases a6 : k < d.length
 ·obtain ⟨y, hy⟩ := gl a6;have Q := List.mem_of_getElem? hy;have c6 := Ba Q;have d6 := Bq Q;have d5 := Nat.mul_le_mul_right p (nestL_mem Q);obtain ⟨b', o', rfl, hfy⟩ := qa k y hy;have b4 : b ≠ g := by have := World.block_lt_of_cell? w _ q4; simp only at this; omega
  have b3 : c ≠ g := by have := h6.lt; have := M.size; omega
  refine go ?_;refine AW (rd 0 9 (.alt 9 (.read 10 (.alt 11 .done .stop)) .stop)) Al Dk (fun K N ed => ⟨Keep [g] K, ?_, ?_⟩)
  ·exact Ep
  have s1 : ∀ V, Keep [g] K V → V.cell? ⟨c, 0, none⟩ = some (.func (.func 176) #[] #[pt c, pt C]) := fun V e => ((h6.E ((M.trans T).trans N) O).E e (by simp [b3])).cell rfl;have s2 : ∀ V, Keep [g] K V → V.cell? ⟨b, o + 4, none⟩ = some (.slice (some ⟨b', o', none⟩) d.length cc) := fun V e => e.cell (N.cell c5 O) (by simp [b4]);refine go ?_;refine D_E rfl ?_;refine Av (v1 := []) (v2 := [pt c, pt C]) (vs := [.pointer (some ⟨b', o' + k * 5, none⟩)]) rfl (ih K b' (o' + k * 5) y U U U ((M.trans T).trans N) (hfy.E (T.trans N) (fun _ _ => by simp)) (b0 y Q) (b8 y Q)) rfl ?_;rintro u W1 ⟨D, k1⟩;obtain ⟨X, rfl, bu⟩ := D;refine AH ⟨Keep [g] K, fun _ e => e, k1.any, ?_⟩;refine go ?_;refine D_E rfl ?_;have a3 := N.trans k1;have b1 := A.E a3 O;have a5 : X ≠ g := fun e => by subst e; have := b1.symm.trans bu; simp at this
  refine AN (v := .slice (sm X) (B + p) (B + p)) rfl rfl rfl b1 Dl (fun W2 s => ?_);refine AH ⟨Keep [g] K, fun _ e => e, k1.any.trans s.E (fun x h _ => h), ?_⟩;refine go ?_;have b2 := s.D;rw [Nat.zero_add, set_fill _ _ _ _ _ a2 a6] at b2;have c3 : l[k]? = some (sem (wdG S xs m p) y) := by rw [a0, List.getElem?_map, hy]; rfl
  refine ⟨(k + 1, z ++ [.slice (sm X) (B + p) (B + p)]), ⟨rfl, ag, ⟨by omega, (T.trans a3).E s.E Dl, by simp [a2], b2, fun j r hj L => ?_⟩⟩, by simp only; omega⟩;by_cases b6 : j < k
  ·obtain ⟨u, D, ⟨gj, rfl, bj⟩, a7⟩ := hW j r b6 L;have b5 : gj ≠ g := fun e => a7 (congrArg some e);exact ⟨_, by rw [List.getElem?_append_left U]; exact D, ⟨gj, rfl, (bj.E a3 O).E s.E (by simp [b5])⟩, a7⟩
  ·obtain rfl : j = k := by omega
   rw [c3] at L;cases L;exact ⟨_, by rw [List.getElem?_append_right U, a2]; simp, ⟨X, rfl, bu.E s.E (by simp [a5])⟩, fun e => a5 (Option.some.inj e)⟩
 ·obtain rfl : k = d.length := by omega
  rw [Nat.sub_self, List.replicate_zero, List.append_nil] at A
  have hT : TrusG W (.slice (sm g) d.length d.length) (B + p) (tvs l) := ⟨g, z, by rw [c4], A, fun j r L => by
   rw [tvs, List.getElem?_map] at L;obtain ⟨q, H, rfl⟩ := Option.map_eq_some_iff.1 L;obtain ⟨u, D, ht, _⟩ := hW j q (by rw [← a1]; exact (List.getElem?_eq_some_iff.1 H).1) H;exact ⟨u, D, ht⟩⟩
  have a9 := hL.ext (M.trans T);rw [← a1] at a4
  have c2 : ∀ q ∈ l, Per B p q := fun q H => by
   rw [a0] at H;obtain ⟨a, ha, rfl⟩ := List.mem_map.1 H;refine (sem_per hp hs a).mono ?_;have := Nat.mul_le_mul_right p (nestL_mem ha); omega
  obtain ⟨F, hF, a8, c0, hcall⟩ := glaw_at W G Z t b o S xs m p B I nm v bd l a9 U c2 b9 a4 b7 (T.cell q1 O) (T.cell q2 O);refine go ?_;refine AW (rd 0 8 (.alt 8 (.read 9 .done) .stop)) Al Dk (fun K N ed => ⟨Ext K, ?_, ?_⟩)
  ·exact EZ
  have e1 := M.trans T;have s1 : ∀ V, Ext K V → V.cell? ⟨C, 0, none⟩ = some (.map (some mp)) := fun V e => (h5.E (e1.trans (N.trans e)) O).cell rfl;have s2 : ∀ V, Ext K V → V.cell? ⟨b, o + 0, none⟩ = some (iV I) := fun V e => (T.trans (N.trans e)).cell q0 O;refine go ?_;refine D_R rfl rfl (fun V hV => by refine W_lookupV rfl rfl (hm.E (e1.trans (N.trans hV)) O) c0 ?_; exact AH ⟨rfl, rfl, rfl⟩) ?_;refine go ?_;refine D_E rfl ?_;refine Av (v1 := []) (v2 := a8) (vs := [.pointer (some ⟨b, o, none⟩), .slice (sm g) d.length d.length]) rfl (hcall K _ N (hT.ext N)) rfl ?_;rintro u w4 ⟨D, k4⟩;refine AH ⟨Ext K, fun _ e => e, k4, ?_⟩;refine go ?_;exact AA rfl ⟨D, (T.trans N).trans k4⟩
theorem lix_per (m p : Nat) : Per m p (lixN m p) := fun t S => by
 unfold lixN;by_cases v : p = 0
 ·subst v; rfl
 ·rw [if_neg U];by_cases h : t < m + p
  ·rw [if_pos h, show t + p - m = t - m + p by omega, Nat.add_mod_right, Nat.mod_eq_of_lt U]; omega
  ·rw [if_neg h, show t + p - m = t - m + p by omega, Nat.add_mod_right]
theorem wdG_per (S : List Sgn) (xs : List Int) (m p : Nat) : Per m p (wdG S xs m p) := fun t a => by
 funext nm
 unfold wdG;rw [lix_per m p t a]
theorem grow_ok (w : World) (t : Nat) (S : List Sgn) (xs : List Int) (m p B : Nat) (b o : Nat) (f : Fml) (k : AxG w t S xs m p B) (n : szF f ≤ 10000) (H : m + DB f * p ≤ B) (I : PF AZ w b o f) (l : ∃ i, BC i f = true) (q : isB (knS S) f = true) : Fn Zp 122 [pt t, .pointer (some ⟨b, o, none⟩)] w fun u w' => Tru w' u (B + p) (fun t => tv (sem (wdG S xs m p) f t)) ∧ Ext w w' := by
 refine AG Tryz.func122 rfl Tryz.ntmps122 (go ?_);refine AC (glaws_ok w t S xs m p B k) rfl ?_;rintro _ Q ⟨r, G, Z, rfl, X, D, s⟩;refine AQ (fun z V => ?_);refine AN (v := .map (some r)) rfl rfl rfl V.D O (fun a L => ?_);have d : Ext Q a := V.E.E L.E O;have g : Blk a Q.heap.size 226 [.map (some r)] := L.D;have M := d.size;have F := V.size;have N := L.size;refine go ?_;refine AQ (fun C K => go ?_);refine AN (v := .func (.func 176) #[] #[pt a.heap.size, pt Q.heap.size]) rfl rfl rfl K.D O (fun W A => ?_);have e : Ext a W := K.E.E A.E O;have j := g.E e O;have P : Blk W a.heap.size 179 [.func (.func 176) #[] #[pt a.heap.size, pt Q.heap.size]] := A.D;have c := d.trans e;have h := X.trans c;refine go ?_;refine Av (v1 := []) (v2 := [pt a.heap.size, pt Q.heap.size]) (vs := [.pointer (some ⟨b, o, none⟩)]) rfl (grow1_ok W G Z Q.heap.size a.heap.size t r S xs m p B (D.ext c) (s.E c O) j P (wdG_per S xs m p) (dpF f) W b o f (Nat.le_refl _) n H (Ext.refl _) (I.E h (fun _ _ => by simp)) l q) rfl ?_;rintro u E ⟨x, y⟩;refine go ?_;exact AA rfl ⟨x, h.trans y⟩
theorem gtknown_ok (x : World) (M : Option Addr) (L : Nat) (S : List Sgn) (h : SlAt sgnR AZ x (.slice M S.length L) S) : ∀ (n : Nat) (w : World) (b o : Nat) (f : Fml), dpF f ≤ n → Ext x w → PF AZ w b o f → Fn Zp 170 [.slice M S.length L, .pointer (some ⟨b, o, none⟩)] w fun u w' => u = .bool (isB (knS S) f) ∧ Ext w w' := by
 intro n
 induction n with
 | zero => intro w b o f G; rw [BP] at G; omega
 | succ n ih =>
 intro w b o f G B hf;rw [BP] at G;have E := h.ext B;obtain ⟨A, cc, b1, q0, q1, q2, q3, C, qa⟩ := hf.all;obtain ⟨X, t, v, bd, c⟩ := f;simp only [Fml.op, Fml.name, Fml.val, Fml.args] at *
 have a1 : ∀ (k : Nat) (a : Fml), c[k]? = some a → ∀ W, Ext w W → ∃ r p, A = some ⟨r, p, none⟩ ∧ Fn Zp 170 [.slice M S.length L, .pointer (some ⟨r, p + k * 5, none⟩)] W fun u w' => u = .bool (isB (knS S) a) ∧ Ext W w' := fun k a H W l => by
  exact FG
 rw [isB];refine AG Tryz.func170 rfl Tryz.ntmps170 ?_;repeat refine nx rfl ?_
 refine AJ (Ac (AP rfl ?_));repeat refine nx rfl ?_
 refine AJ (Ag rfl (AK rfl (AF rfl (AM rfl Do ?_))));refine W_eqlD rfl rfl ?_;refine AH ?_;refine Q_then ?_;refine C_mid (α := Unit) (fun _ => [(0, .slice M S.length L), (1, .pointer (some ⟨b, o, none⟩))]) (fun _ W => Ext w W ∧ (if X = 3 then knS S t v else true) = true) ?_ ?_
 ·by_cases R : X = 3
  ·rw [decide_eq_true R];refine go ?_;refine AC (sigFind_ok w _ S t E) rfl ?_;rintro _ w2 ⟨rfl, rfl⟩;simp only [if_pos R];unfold Dg knS;cases hj : S.findIdx? (fun y => decide (y.name = t)) with
   | none =>
    simp only;refine go ?_;refine AW (rd 0 14 .done) Al Dk (fun K N I => ⟨Ext K, ?_, ?_⟩)
    ·exact EZ
    refine go ?_;exact AA rfl ⟨rfl, N⟩
   | some j =>
    have a4 : j < S.length := (List.findIdx?_eq_some_iff_getElem.1 hj).1;obtain ⟨s, D⟩ : ∃ s, S[j]? = some s := ⟨_, List.getElem?_eq_getElem a4⟩;obtain ⟨_, sb, so, rfl, _, a8⟩ := E.sig D;simp only [D];refine go ?_;refine AW (rd 0 14 .done) Al Dk (fun K N I => ⟨Ext K, ?_, ?_⟩)
    ·exact EZ
    have s1 : ∀ V, Ext K V → V.cell? ⟨b, o + 2, none⟩ = some (iV v) := fun V e => (N.trans e).cell q2 O;have s2 : ∀ V, Ext K V → V.cell? ⟨sb, so + j * 3 + 2, none⟩ = some (iV s.size) := fun V e => (N.trans e).cell (a8 2 _ rfl) O;by_cases q : v < s.size
    ·refine go ?_;exact Aw () ag ⟨N, decide_eq_true q⟩
    ·refine go ?_;exact AA rfl ⟨by rw [decide_eq_false q]; rfl, N⟩
  ·rw [decide_eq_false R];refine go ?_;exact Aw () ag ⟨Ext.refl _, by rw [if_neg R]⟩
 rintro _ Z f5 ⟨g, a7⟩;rw [a7, Bool.true_and, isL_all];have a9 := g.cell C O;clear C;have C := a9;have a0 : ∀ (k : Nat) (a : Fml), c[k]? = some a → ∀ W, Ext Z W → ∃ r p, A = some ⟨r, p, none⟩ ∧ Fn Zp 170 [.slice M S.length L, .pointer (some ⟨r, p + k * 5, none⟩)] W fun u w' => u = .bool (isB (knS S) a) ∧ Ext W w' := fun k a H W l => a1 k a H W (g.trans l);refine go ?_;refine Ah (α := Nat) (fun k => [(0, .slice M S.length L), (1, .pointer (some ⟨b, o, none⟩)), (36, iV (c.length : Int)), (37, iV (k : Int))]) (fun k W => k ≤ c.length ∧ Ext Z W ∧ ∀ (i : Nat) (y : Fml), i < k → c[i]? = some y → isB (knS S) y = true) (fun k => c.length - k) 0 (by repeat (first | exact trivial | refine ⟨rfl, ?_⟩)) ⟨by omega, Ext.refl _, fun i y F => by omega⟩ ?_;rintro k W fr ⟨b0, T, P⟩;have b2 := T.cell C O;refine go ?_;by_cases a5 : k < c.length
 ·refine go ?_;obtain ⟨y, m⟩ : ∃ y, c[k]? = some y := ⟨_, List.getElem?_eq_getElem a5⟩;obtain ⟨r, p, rfl, a2⟩ := a0 k y m W T;refine go ?_;refine AC a2 rfl ?_;rintro _ w4 ⟨rfl, k4⟩;have Q := T.trans k4;cases q : isB (knS S) y with
  | true =>
   refine go ?_;refine ⟨k + 1, ⟨rfl, ⟨(by repeat (first | exact trivial | refine ⟨rfl, ?_⟩)), ⟨by omega, Q, fun i z F d => ?_⟩⟩⟩, by omega⟩;by_cases a3 : i = k
   ·subst a3; rw [m] at d; cases d; exact q
   ·exact P i z U d
  | false =>
   refine go ?_;exact AA rfl ⟨congrArg Value.bool (all_stop m q).symm, (g).trans Q⟩
 ·refine go ?_;exact AA rfl ⟨congrArg Value.bool (all_done fun i z F d => P i z U d).symm, (g).trans T⟩
theorem geval_ok (w : World) (M : Option Addr) (L : Nat) (S : List Sgn) (b o : Nat) (f : Fml) (h : SlAt sgnR AZ w (.slice M S.length L) S) (q : A6 S = true) (I : PF AZ w b o f) (P : LkS S f) (D : GF w) (a : KY w) (c : 10 ≤ w.heap.size) :
  Fn Zp 119 [.slice M S.length L, .pointer (some ⟨b, o, none⟩)] w fun u w' => u = .bool true ∧ Ext w w' := by
 obtain ⟨_, t, A, T, d⟩ := id I;have N : BV f = Ao f := by unfold BV; rw [if_pos P.1]
 have r : (BV f).op ≠ 0 := by rw [N]; exact loose_op (loose_canon P.1)
 refine AG Tryz.func119 rfl Tryz.ntmps119 (go ?_);refine AC (Dj w _ S h a) rfl ?_;rintro _ i ⟨rfl, X⟩;rw [q];refine go ?_;refine AR rfl A (T.E X O) ?_;refine AC (gtyping_ok i M L S _ f (h.ext X) (d.ext X) (D.ext X) (a.E X O) (Nat.le_trans c X.size)) rfl ?_;rintro _ j ⟨e, rfl, l, -⟩;have x := X.trans l;by_cases s : e = 0
 ·subst s;refine go ?_;exact AA rfl ⟨rfl, x⟩
 ·refine go ?_;refine AR rfl A (T.E x O) ?_;refine AC (BL j _ f (d.ext x) (D.ext x) (a.E x O) (Nat.le_trans c x.size)) rfl ?_;rintro u k ⟨g, Q⟩;obtain ⟨Z, rfl, m, -⟩ := Q.cells;obtain ⟨F, H, K, n, v, rfl⟩ := AX m;obtain rfl := Q.op0;refine W_field rfl (show [iV (BV f).op, H, K, n, v][0]? = some (iV (BV f).op) from rfl) ?_;have z := x.trans g;refine go ?_;refine AC (gtknown_ok w M L S h _ k b o f (Nat.le_refl _) z (I.E z (fun _ _ => by simp))) rfl ?_;rintro _ p ⟨rfl, R⟩;rw [P.2];refine go ?_;exact AA rfl ⟨rfl, z.trans R⟩
theorem growOf_ok (w : World) (M : Option Addr) (j : Nat) (S : List Sgn) (b o : Nat) (f : Fml) (c : LV) (E h : List Int) (p : SlAt sgnR AZ w (.slice M S.length j) S) (q : A6 S = true) (I : PF AZ w b o f) (P : LkS S f) (y : LasG w c E h)
  (D : E.length ≤ 60) (X : 1 ≤ h.length) (s : h.length ≤ 40) (C : ∀ x ∈ E, 0 ≤ x ∧ x < CN S) (H : ∀ x ∈ h, 0 ≤ x ∧ x < CN S) (hG : GF w) (m : KY w) (n : 10 ≤ w.heap.size) :
  Fn Zp 77 [.slice M S.length j, .pointer (some ⟨b, o, none⟩), .agg c.toArray] w fun u w' => ∃ t v B, u = .tuple #[pt t, v, .bool true] ∧ Ext w w' ∧ AxG w' t S (E ++ h) E.length h.length B ∧ Tru w' v (B + h.length) (fun t => tv (sem (wdG S (E ++ h) E.length h.length) f t)) := by
 obtain ⟨a5, a6⟩ := num_valid q;have A := y;obtain ⟨a8, -, a3⟩ := BG P.1;obtain ⟨a1, a0, Q, T, rfl, a7, a4⟩ := y;refine AG Tryz.func77 rfl Tryz.ntmps77 (go ?_);refine Aj (L := [.slice a1 E.length a0, .slice Q h.length T]) rfl (fun w1 Z => go ?_);have k := Z.D;have k1 := Z.E;refine AW (.read 0 (.read 1 (.alt 2 (rd 3 3 (.read 7 (.alt 6 (.alt 8 (.read 9 (.read 10 .done)) .stop) .stop))) .stop))) Al Dk (fun K N ed => ⟨Ext K, ?_, ?_⟩)
 ·exact EZ
 have d := k1.trans N;refine go ?_;refine D_E rfl ?_;refine AC (geval_ok K M j S b o f (p.ext d) q (I.E d (fun _ _ => by simp)) P (hG.ext d) (m.E d O) (Nat.le_trans n d.size)) rfl ?_;rintro _ w2 ⟨rfl, l⟩;have a := d.trans l;refine AH ⟨Ext K, fun _ e => e, l, ?_⟩;refine go ?_;refine D_R (v := .agg [.slice a1 E.length a0, .slice Q h.length T].toArray) rfl rfl (fun V hV => by refine AS rfl (Bh rfl (k.E (N.trans hV) O) rfl ?_); exact AH ⟨rfl, rfl, rfl⟩) ?_;refine D_E rfl (go ?_);refine AC (letters_ok w2 _ S (p.ext a) (m.E a O) (Nat.le_trans n a.size)) rfl ?_;rintro _ w3 ⟨rfl, i⟩;have z := a.trans i;refine AH ⟨Ext K, fun _ e => e, l.trans i, ?_⟩;refine D_E rfl (go ?_);refine AC (gvalid_ok w3 _ E h (CN S) (A.ext z) D X s U C H) rfl ?_;rintro _ w4 ⟨rfl, R⟩;have W := z.trans R;refine AH ⟨Ext K, fun _ e => e, (l.trans i).trans R, ?_⟩;refine go ?_;have b4 := k.E (((N.trans l).trans i).trans R) O;refine go ?_;refine AC (gaxisOf_ok w4 M j S b o f _ E h (p.ext W) q (I.E W (fun _ _ => by simp)) U (A.ext W) D X s C H (m.E W O) (Nat.le_trans n W.size)) rfl ?_;rintro _ w5 ⟨t, rfl, k5, G⟩;have r := W.trans k5;refine go ?_;refine AC (grow_ok w5 t S _ _ _ _ b o f G U (Nat.le_refl _) (I.E r (fun _ _ => by simp)) ⟨_, a3⟩ P.2) rfl ?_;rintro u w6 ⟨hu, F⟩;have a2 := G.ext F;obtain ⟨g, rfl, bg⟩ := hu;refine go ?_;exact fin_ret3 rfl ⟨_, _, _, rfl, r.trans F, a2, g, rfl, bg⟩
theorem gholds_ok (w : World) (M : Option Addr) (a : Nat) (S : List Sgn) (v : Value) (f : Fml) (c : LV) (E h : List Int) (A : SlAt sgnR AZ w (.slice M S.length a) S) (N : A6 S = true) (I : FAt AZ w v f) (P : LkS S f) (i : LasG w c E h)
  (K : E.length ≤ 60) (p : 1 ≤ h.length) (s : h.length ≤ 40) (F : ∀ x ∈ E, 0 ≤ x ∧ x < CN S) (H : ∀ x ∈ h, 0 ≤ x ∧ x < CN S) (D : GF w) (y : KY w) (z : 10 ≤ w.heap.size) :
  Fn Zp 46 [.slice M S.length a, v, .agg c.toArray, iV 0] w fun u w' => u = .bool (tv (sem (wdG S (E ++ h) E.length h.length) f 0)) ∧ Ext w w' := by
 obtain ⟨cf, rfl, C, a2⟩ := I.cells;obtain ⟨x0, x1, x2, x3, x4, rfl⟩ := AX C;have d := i;obtain ⟨a0, Z, T, b, rfl, a3, a1⟩ := i;refine AG Tryz.func46 rfl Tryz.ntmps46 (go ?_);refine Aj (L := [x0, x1, x2, x3, x4]) rfl (fun w1 j => ?_);refine Aj (L := [.slice a0 E.length Z, .slice T h.length b]) rfl (fun w2 V => ?_);have l := j.E.trans V.E;have k := j.D.E V.E O;have b2 := V.D;refine go ?_;refine AC (growOf_ok w2 M a S w.heap.size 0 f _ E h (A.ext l) N ⟨trivial, _, rfl, k.cells, I.ext l⟩ P (d.ext l) K p s F H (D.ext l) (y.E l O) (Nat.le_trans z l.size)) rfl ?_;rintro _ n ⟨t, u, B, rfl, Q, G, r⟩;obtain ⟨g, rfl, o⟩ := r;have q : 0 < B + h.length := by omega
 have X : ∀ W, Ext n W → W.cell? ⟨g, 0 + 0, none⟩ = some (.bool (tv (sem (wdG S (E ++ h) E.length h.length) f 0))) := fun W e => (o.E e O).cell (by rw [Nat.zero_add]; exact rowC_at q);refine go ?_;refine AC (gplace_ok n t S _ _ _ B 0 G U) rfl ?_;rintro _ w4 ⟨rfl, R⟩;have c1 := X w4 R;have m : plcN (B + h.length) B 0 = 0 := by unfold plcN; rw [if_pos U]
 rw [m];refine go ?_;exact AA rfl ⟨rfl, (l.trans Q).trans R⟩
section
variable {mk : Prop} [MK mk]
theorem oneC_app {l m : LV} (h : oneC l) (k : oneC m) : oneC (l ++ m) := fun u r => (List.mem_append.1 r).elim (h u) (k u)
structure Acc {α : Type} (ok0 : Nat → Prop) (R : Rp α) (T : TypeId) (sz B : Nat) (W : World) (v : Value) (l : List α) : Prop where
 ex : ∃ L, W.ownsRow B T sz v l.length L.flatten ∧ RsAt R (fun b => ok0 b ∧ v.ownBlock ≠ some b) W L l
section
variable {α : Type} {ok0 : Nat → Prop} {R : Rp α} {T : TypeId} {sz B : Nat} {W W1 w8 : World} {v v8 : Value} {l : List α}
theorem Acc.push {L : List (LV)} {c : LV} {a : α} (Q : W.ownsRow B T sz v l.length L.flatten) (M : RsAt R (fun b => ok0 b ∧ v.ownBlock ≠ some b) W L l) (e : Ext W W1) (m : R.fits (fun b => ok0 b ∧ v.ownBlock ≠ some b) W1 c a) (i : Apd W1 w8 B T sz v v8 (l.length + 1) (L.flatten ++ c)) : Acc ok0 R T sz B w8 v8 (l ++ [a]) := by
 have z := e.size
 have k : ∀ g, v8.ownBlock = some g → v.ownBlock = some g ∨ g = W1.heap.size := fun g j => by
  rcases i.D with e | e
  ·exact .inl (by rw [← e]; exact j)
  ·rw [e] at j; exact .inr (Option.some.inj j).symm
 have h : ∀ y, y ∈ v.ownBlock.toList → v.ownBlock = some y := fun y o => Option.mem_toList.1 o;refine ⟨⟨L ++ [c], by have := i.own; simpa using this, RsAt.snoc ?_ ?_⟩⟩
 ·refine ((M.lt.ext e).E i.E fun b S A => S.1.2 (h b A)).mono fun b S => ⟨S.1.1, fun n => ?_⟩;rcases k b n with e | e
  ·exact S.1.2 e
  ·have := S.2; omega
 ·refine R.mono (R.E (R.lt m) i.E fun b S A => S.1.2 (h b A)) fun b S => ⟨S.1.1, fun n => ?_⟩;rcases k b n with e | e
  ·exact S.1.2 e
  ·have := S.2; omega
theorem Acc.ext (h : Acc ok0 R T sz B W v l) (e : Ext W W1) : Acc ok0 R T sz B W1 v l := by
 obtain ⟨L, Q, M⟩ := h.ex;exact ⟨⟨L, Aa Q e, M.ext e⟩⟩
theorem Acc.sl (h : Acc ok0 R T sz B W v l) : SlAt R AZ W v l := by
 obtain ⟨L, Q, M⟩ := h.ex;have D : Sl AZ W v l.length L.flatten := AV Q fun _ _ => trivial;obtain ⟨a, c, e, _⟩ := id D;exact ⟨a, c, L, e, D, M.mono fun _ _ => trivial⟩
end
theorem SlAt.at {α : Type} {R : Rp α} {sz : Nat} {ok : Nat → Prop} {w : World} {a : Option Addr} {n c k : Nat} {l : List α} {x : α} (m : R.size = sz) (h : SlAt R ok w (.slice a n c) l) (V : l[k]? = some x) : ∃ b o d, a = some ⟨b, o, none⟩ ∧ ok b ∧ Cells w b (o + k * sz) d ∧ R.fits ok w d x := by
 subst m;obtain ⟨p, G, L, e, D, I⟩ := h;cases e;have g := (List.getElem?_eq_some_iff.1 V).1;have C : L[k]? = some (L[k]'(by rw [I.1]; exact g)) := List.getElem?_eq_getElem _;obtain ⟨b, o, i, j, z⟩ := Sl.row D I C g;exact ⟨b, o, _, i, j, z, I.2 k _ x C V⟩
section
variable {P : Program} {all : Array Oper} {Z : Fr → DS → List PanicEntry → World → Prop} {K : Fr → DS → World → Prop} {rest : List Oper} {f : Fr} {ds : DS} {w : World} {d : Nat} {ty : TypeId} {pos : String} {af : Array Edge}
theorem W_make0S {T e size a : Nat} {z : Value} {l c : Operand} {k H : IntKind} {n : Nat} {N M : Int} [hT : SlT P T e size a z] (r : (madeCells z.cells (n * size)).size = n * size) (o : ev f l = .int k N) (m : ev f c = .int H M) (g : N = 0) (V : M = (n : Int)) (S : a * n ≤ 281474976710656) (A : n ≤ 9223372036854775807)
  (h : ∀ w', Ext w w' → w'.heap.size = w.heap.size + 1 → w'.ownsRow w.heap.size e size (.slice (sm w.heap.size) 0 n) 0 [] → AO P all Z K rest (upd f d (.slice (sm w.heap.size) 0 n)) ds w') :
  AO P all Z K (⟨some d, .makeSlice T l c, ty, pos, af, none⟩ :: rest) f ds w := by
 subst g;subst V;obtain ⟨i, F, u, q, L⟩ := hT.out
 have j : (i.bytes : Int) * (n : Int) ≤ 281474976710656 := by
  rw [L];have h : ((a * n : Nat) : Int) ≤ 281474976710656 := by omega
  rwa [Int.natCast_mul] at h
 have p := run_make (P := P) w T e i z hT.und F u k H 0 n U U j U;have b := New.mk_alloc w (madeCells z.cells (n * size)).toList e;refine Aq (v := .slice (sm w.heap.size) 0 n) (w' := w.alloc (.cells (madeCells z.cells (n * size)).toList.toArray e)) rfl ?_ (h _ b.E b.size ⟨by simp, .inr ⟨w.heap.size, n, (madeCells z.cells (n * size)).toList.toArray, rfl, Nat.le_refl _, b.D, by omega, by unfold maxLen; omega, by simpa using r, by simp⟩⟩);simp [execOp, o, m, p, q]
end
theorem fill_one {sz : Nat} {b e : LV} (X : b.length = sz) (a : e.length = sz) : fillL (fun i => some (i * sz, sz)) b [(0, .agg e.toArray)] = some e := by
 have c : (Value.agg e.toArray).cells = e.toArray := rfl;simp [fillL, c, a, X, splice]
theorem DV (z : Array Value) (n : Nat) : (madeCells z n).size = n := by simp [madeCells]
end
theorem short_ok (w : World) (c : LV) (d a : List Int) (h : LasG w c d a) : Fn Zp 8 [.agg c.toArray] w fun u w' => ∃ b : Bool, u = .bool b ∧ Ext w w' := by
 obtain ⟨M, f, R, e, rfl, i, g⟩ := h;refine AG Tryz.func8 rfl Tryz.ntmps8 (go ?_);refine Aj (L := [.slice M d.length f, .slice R a.length e]) rfl (fun Q E => ?_);by_cases X : d.length ≤ 80
 ·by_cases W : a.length ≤ 80
  ·refine go ?_;exact AA rfl ⟨_, rfl, E.E⟩
  ·refine go ?_;exact AA rfl ⟨_, rfl, E.E⟩
 ·refine go ?_;exact AA rfl ⟨_, rfl, E.E⟩
theorem letter_ok (w : World) (x : Int) : Fn Zp 70 [iV x] w fun u w' => u = .bool (decide (0 ≤ x) && decide (x < 64)) ∧ w' = w := by
 refine AG Tryz.func70 rfl Tryz.ntmps70 ?_;by_cases X : 0 ≤ x
 ·rw [decide_eq_true X];by_cases W : x < 64
  ·rw [decide_eq_true W];exact EU
  ·rw [decide_eq_false W];exact EU
 ·rw [decide_eq_false X];exact EU
theorem formed2_ok (w : World) (c : LV) (E a : List Int) (h : LasG w c E a) : Fn Zp 28 [.agg c.toArray] w fun u w' => ∃ b : Bool, u = .bool b ∧ Ext w w' ∧ (b = true → E.length ≤ 60 ∧ 1 ≤ a.length ∧ a.length ≤ 40 ∧ (∀ x ∈ E, 0 ≤ x ∧ x < 64) ∧ ∀ x ∈ a, 0 ≤ x ∧ x < 64) := by
 obtain ⟨M, q, R, p, rfl, m, l⟩ := h;refine AG Tryz.func28 rfl Tryz.ntmps28 (go ?_);refine Aj (L := [.slice M E.length q, .slice R a.length p]) rfl (fun Q d => ?_);have f := d.D;by_cases X : 60 < E.length
 ·exact FW
 by_cases r : a.length < 1
 ·exact FW
 by_cases s : 40 < a.length
 ·exact FW
 refine go ?_;refine Ah (α := Nat) (fun k => [(1, pt w.heap.size), (3, iV (k : Int))]) (fun k W => k ≤ (E).length ∧ Ext Q W ∧ ∀ (i : Nat) (x : Int), i < k → (E)[i]? = some x → 0 ≤ x ∧ x < 64) (fun k => (E).length - k) 0 ag ⟨by omega, Ext.refl _, fun i x h => by omega⟩ ?_;rintro k W Z ⟨P, T, I⟩;have A := f.E T O;refine go ?_;by_cases y : k < (E).length
 ·obtain ⟨x, V⟩ := gl y;obtain ⟨b, o, rfl, j⟩ := InS.at ((m).ext (d.E.trans T)) V;refine go ?_;refine AC (letter_ok W x) rfl ?_;rintro _ _ ⟨rfl, rfl⟩;cases hb : (decide (0 ≤ x) && decide (x < 64)) with
  | false =>
   refine go ?_;exact AA rfl ⟨false, rfl, d.E.trans T, fun h => by cases h⟩
  | true =>
   refine go ?_;refine ⟨k + 1, ⟨rfl, ag, ⟨by omega, T, fun i z F n => ?_⟩⟩, by omega⟩;by_cases e : i = k
   ·subst e; rw [V] at n; cases n; simpa using hb
   ·exact I i z U n
 ·obtain rfl : k = E.length := by omega
  have g : ∀ x ∈ E, 0 ≤ x ∧ x < 64 := fun x V => by
   exact E9
  clear I;have S := T;refine go ?_;refine Ah (α := Nat) (fun k => [(1, pt w.heap.size), (5, iV (k : Int))]) (fun k W => k ≤ (a).length ∧ Ext Q W ∧ ∀ (i : Nat) (x : Int), i < k → (a)[i]? = some x → 0 ≤ x ∧ x < 64) (fun k => (a).length - k) 0 ag ⟨by omega, S, fun i x h => by omega⟩ ?_;rintro k W Z ⟨P, T, I⟩;refine go ?_;by_cases y : k < (a).length
  ·obtain ⟨x, V⟩ := gl y;obtain ⟨b, o, rfl, j⟩ := InS.at ((l).ext (d.E.trans T)) V;refine go ?_;refine AC (letter_ok W x) rfl ?_;rintro _ _ ⟨rfl, rfl⟩;cases hb : (decide (0 ≤ x) && decide (x < 64)) with
   | false =>
    refine go ?_;exact AA rfl ⟨false, rfl, d.E.trans T, fun h => by cases h⟩
   | true =>
    refine go ?_;refine ⟨k + 1, ⟨rfl, ag, ⟨by omega, T, fun i z F n => ?_⟩⟩, by omega⟩;by_cases e : i = k
    ·subst e; rw [V] at n; cases n; simpa using hb
    ·exact I i z U n
  ·obtain rfl : k = a.length := by omega
   refine go ?_
   exact AA rfl ⟨true, rfl, d.E.trans T, fun _ => ⟨by omega, by omega, by omega, g, fun x V => by
    obtain ⟨i, F⟩ := List.getElem?_of_mem V;exact I i x (List.getElem?_eq_some_iff.1 F).1 F⟩⟩
theorem valid2_ok (w : World) (n : Int) (c : LV) (E a : List Int) (h : LasG w c E a) : Fn Zp 9 [iV n, .agg c.toArray] w fun u w' => ∃ b : Bool, u = .bool b ∧ Ext w w' ∧ (b = true → E.length ≤ 60 ∧ 1 ≤ a.length ∧ a.length ≤ 40 ∧ (∀ x ∈ E, 0 ≤ x ∧ x < n) ∧ ∀ x ∈ a, 0 ≤ x ∧ x < n) := by
 have s := h;obtain ⟨M, N, H, K, rfl, m, l⟩ := h;refine AG Tryz.func9 rfl Tryz.ntmps9 (go ?_);refine Aj (L := [.slice M E.length N, .slice H a.length K]) rfl (fun Q e => ?_);have j := e.D;have a0 := m.len;have X := l.len;refine go ?_;refine Ah (α := Nat) (fun k => [(0, iV n), (3, pt w.heap.size), (5, iV (k : Int))]) (fun k W => k ≤ (E).length ∧ Ext Q W ∧ ∀ (i : Nat) (x : Int), i < k → (E)[i]? = some x → x < n) (fun k => (E).length - k) 0 ag ⟨by omega, Ext.refl _, fun i x h => by omega⟩ ?_;rintro k W Z ⟨P, T, I⟩;have A := j.E T O;refine go ?_;by_cases y : k < (E).length
 ·obtain ⟨x, V⟩ := gl y;obtain ⟨b, o, rfl, B⟩ := InS.at ((m).ext (e.E.trans T)) V;by_cases G : n ≤ x
  ·refine go ?_;exact AA rfl ⟨false, rfl, e.E.trans T, fun h => by cases h⟩
  ·refine go ?_;refine ⟨k + 1, ⟨rfl, ag, ⟨by omega, T, fun i z F d => ?_⟩⟩, by omega⟩;by_cases g : i = k
   ·subst g; rw [V] at d; cases d; omega
   ·exact I i z U d
 ·obtain rfl : k = E.length := by omega
  have v : ∀ x ∈ E, x < n := fun x V => by
   exact E9
  clear I;have C := T;refine go ?_;refine Ah (α := Nat) (fun k => [(0, iV n), (3, pt w.heap.size), (6, iV (k : Int))]) (fun k W => k ≤ (a).length ∧ Ext Q W ∧ ∀ (i : Nat) (x : Int), i < k → (a)[i]? = some x → x < n) (fun k => (a).length - k) 0 ag ⟨by omega, C, fun i x h => by omega⟩ ?_;rintro k W Z ⟨P, T, I⟩;have A := j.E T O;refine go ?_;by_cases y : k < (a).length
  ·obtain ⟨x, V⟩ := gl y;obtain ⟨b, o, rfl, B⟩ := InS.at ((l).ext (e.E.trans T)) V;by_cases G : n ≤ x
   ·refine go ?_;exact AA rfl ⟨false, rfl, e.E.trans T, fun h => by cases h⟩
   ·refine go ?_;refine ⟨k + 1, ⟨rfl, ag, ⟨by omega, T, fun i z F d => ?_⟩⟩, by omega⟩;by_cases g : i = k
    ·subst g; rw [V] at d; cases d; omega
    ·exact I i z U d
  ·obtain rfl : k = a.length := by omega
   have D : ∀ x ∈ a, x < n := fun x V => by
    exact E9
   refine go ?_;refine AC (formed2_ok W _ E a (s.ext (e.E.trans T))) rfl ?_;rintro _ w5 ⟨b, rfl, f, S⟩;refine go ?_
   exact AA rfl ⟨b, rfl, (e.E.trans T).trans f, fun h => by
    obtain ⟨r, p, q, t, R⟩ := S h;exact ⟨r, p, q, fun x V => ⟨(t x V).1, v x V⟩, fun x V => ⟨(R x V).1, D x V⟩⟩⟩
theorem few_ok (w : World) (M : Option Addr) (m : Nat) (e : Option Addr) (f : Nat) (s : Spc) (G : SlAt sgnR AZ w (.slice M s.sigs.length m) s.sigs) (B : SlAt reqR AZ w (.slice e s.reqs.length f) s.reqs) :
  Fn Zp 18 [.agg #[.slice M s.sigs.length m, .slice e s.reqs.length f]] w fun u w' => ∃ b : Bool, u = .bool b ∧ Ext w w' ∧ (b = true → s.reqs.length ≤ 20 ∧ ∀ r ∈ s.reqs, szF r.formula ≤ 120) := by
 refine AG Tryz.func18 rfl Tryz.ntmps18 (go ?_);refine Aj (L := [.slice M s.sigs.length m, .slice e s.reqs.length f]) rfl (fun Z E => ?_);have v := E.D;refine go ?_;refine AC (rssmall_ok Z _ s.sigs (G.ext E.E)) rfl ?_;rintro _ w2 ⟨b, rfl, l⟩;have a := E.E.trans l;have z := v.E l O;cases b with
 | false =>
  refine go ?_;exact AA rfl ⟨false, rfl, a, fun h => by cases h⟩
 | true =>
  by_cases a0 : 20 < s.reqs.length
  ·refine go ?_;exact AA rfl ⟨false, rfl, a, fun h => by cases h⟩
  refine go ?_;refine Ah (α := Nat) (fun k => [(1, pt w.heap.size), (3, iV (k : Int))]) (fun k W => k ≤ s.reqs.length ∧ Ext w2 W ∧ ∀ (i : Nat) (r : Rqm), i < k → s.reqs[i]? = some r → szF r.formula ≤ 120) (fun k => s.reqs.length - k) 0 ag ⟨by omega, Ext.refl _, fun i x h => by omega⟩ ?_;rintro k W fr ⟨hk, T, I⟩;have A := z.E T O;refine go ?_;by_cases y : k < s.reqs.length
  ·obtain ⟨x, V⟩ := gl y;obtain ⟨S, X, d, rfl, -, C, c, K⟩ := B.req V;obtain ⟨n, o, p, q, t, rfl⟩ := AX C;have H := a.trans T;have c0 := (c.E H O) 0 _ rfl;have c1 := (c.E H O) 1 _ rfl
   have D : Cells W S (X + k * 8 + 3) [n, o, p, q, t] := fun j u P => by
    have := (c.E H O) (3 + j) u (by rw [List.getElem?_append_right O]; simpa using P)
    rwa [← Nat.add_assoc] at this
   by_cases h1 : 40 < x.name.length
   ·refine go ?_;exact AA rfl ⟨false, rfl, H, fun h => by cases h⟩
   by_cases h2 : 40 < x.part.length
   ·refine go ?_;exact AA rfl ⟨false, rfl, H, fun h => by cases h⟩
   refine go ?_;refine AR (L := [n, o, p, q, t]) rfl rfl D (go ?_);refine AC (rsmall_ok W _ x.formula 120 U (K.ext H)) rfl ?_;rintro _ w3 ⟨rfl, g⟩;by_cases R : szF x.formula ≤ 120
   ·rw [decide_eq_true R];refine go ?_;refine ⟨k + 1, ⟨rfl, ag, ⟨by omega, T.trans g, fun i r F Q => ?_⟩⟩, by omega⟩;by_cases N : i = k
    ·subst N; rw [V] at Q; cases Q; exact R
    ·exact I i r U Q
   ·rw [decide_eq_false R];refine go ?_;exact AA rfl ⟨false, rfl, H.trans g, fun h => by cases h⟩
  ·obtain rfl : k = s.reqs.length := by omega
   refine go ?_
   exact AA rfl ⟨true, rfl, a.trans T, fun _ => ⟨by omega, fun r B => by
    obtain ⟨i, F⟩ := List.getElem?_of_mem B;exact I i r (List.getElem?_eq_some_iff.1 F).1 F⟩⟩
theorem word_ok (w : World) (t : Option Addr) (D : Nat) (xs : List Int) (c : LV) (E d : List Int) (hx : InS w (.slice t xs.length D) xs) (h : LasG w c E d) (hn : xs.length ≤ 1000) (a7 : E.length ≤ 1000) :
  Fn Zp 11 [.slice t xs.length D, .agg c.toArray] w fun u w' => ∃ p : LV, u = .agg p.toArray ∧ Ext w w' ∧ LasG w' p (xs ++ E) d := by
 obtain ⟨sa, sc, j, T, rfl, a3, q⟩ := h;refine AG Tryz.func11 rfl Tryz.ntmps11 (go ?_);refine Aj (L := [.slice sa E.length sc, .slice j d.length T]) rfl (fun w1 l => ?_);refine AQ (fun w2 V => ?_);have z1 := l.size;have z2 := V.size;have e2 := l.E.trans V.E;have M := l.D.E V.E O;have s := V.D;refine go ?_;refine AW (.read 1 (.read 3 (.read 4 (.read 6 (.read 7 (.alt 0 (.alt 2 (.alt 5 (.read 8 (.alt 9 .done .stop)) .stop) .stop) .stop)))))) Al Dk (fun K N ed => ⟨Keep [w1.heap.size] K, ?_, ?_⟩)
 ·exact Ep
 have zd := N.size;have a5 := M.E N O;have v := s.E N O;have a := e2.trans N;have a4 := hx.ext a;have a2 := a3.ext a;have a6 := q.ext a;refine go ?_;refine D_E rfl ?_;refine AL (out := []) rfl U (congrArg some (List.eq_nil_of_length_eq_zero ED)) (fun V1 G => ?_);have F := G.own (n := 0) (size := 1) rfl Dq (Nat.le_refl _);have y1 := G.size;refine wNl G.E.any ?_;refine go ?_;refine D_E rfl ?_;refine Ak (B := K.heap.size) (n := 0) rfl rfl F (a4.ext G.E) U Dn O (by intro u r; obtain ⟨i, -, rfl⟩ := List.mem_map.1 r; rfl) U U U (fun v2 X m => ?_);have H : ∀ y ∈ (Value.slice (sm K.heap.size) 0 0).ownBlock.toList, K.heap.size ≤ y := fun y f => (Ab F (Option.mem_toList.1 f)).1;have R : Ext K X := G.E.E m.E H;refine wNl R.any ?_;have C := m.own;rw [Nat.zero_add, List.nil_append] at C;refine D_E rfl ?_;have y2 := R.size;refine Ak (B := K.heap.size) (n := xs.length) rfl rfl C (a2.ext R) U Dn O (by intro u r; obtain ⟨i, -, rfl⟩ := List.mem_map.1 r; rfl) U U U (fun v3 k o => ?_);have a0 : ∀ y ∈ v2.ownBlock.toList, K.heap.size ≤ y := fun y f => (Ab C (Option.mem_toList.1 f)).1;have Q : Ext K k := R.E o.E a0;have y3 := Q.size;have P := o.own;rw [← List.map_append, ← List.length_append] at P;have a1 : InS k v3 (xs ++ E) := AV P fun _ _ => trivial;obtain ⟨S, I, rfl, -⟩ := id a1;refine wNl Q.any ?_;refine go ?_;refine D_E rfl ?_;refine AE (cs := [.slice S (xs ++ E).length I, .slice j d.length T]) rfl rfl rfl (AU rfl) (v.E Q O) O (fun Z e => ?_);have W : Ext w Z := (a.trans Q).E e.E Dl;refine wNl (Q.any.trans e.E (fun x h _ => h)) ?_;refine go ?_;refine AT rfl rfl rfl e.D.cells ⟨_, rfl, W, S, I, j, T, rfl, ?_, q.ext W⟩;exact (AV P (ok := fun b => K.heap.size ≤ b) fun g z => (Ab P z).1).E e.E (fun b hb A => by rw [List.mem_singleton] at A; omega) |>.mono fun _ _ => trivial
theorem wholds_ok (w : World) (M : Option Addr) (a : Nat) (S : List Sgn) (v : Value) (f : Fml) (c : LV) (E h : List Int) (s : SlAt sgnR AZ w (.slice M S.length a) S) (q : A6 S = true) (I : FAt AZ w v f) (P : LkS S f) (m : LasG w c E h)
  (z : E.length ≤ 60) (X : 1 ≤ h.length) (W : h.length ≤ 40) (y : ∀ x ∈ E, 0 ≤ x ∧ x < CN S) (H : ∀ x ∈ h, 0 ≤ x ∧ x < CN S) (D : GF w) (p : KY w) (r : 10 ≤ w.heap.size) :
  Fn Zp 14 [.slice M S.length a, v, .agg c.toArray] w fun u w' => u = .bool (tv (sem (wdG S (E ++ h) E.length h.length) f 0)) ∧ Ext w w' := by
 obtain ⟨N, rfl, t, n⟩ := I.cells;obtain ⟨C, F, k, j, i, rfl⟩ := AX t;have d := m;obtain ⟨A, e, R, b, rfl, Z, T⟩ := m;refine AG Tryz.func14 rfl Tryz.ntmps14 (go ?_);refine Aj (L := [C, F, k, j, i]) rfl (fun Q o => ?_);refine Aj (L := [.slice A E.length e, .slice R h.length b]) rfl (fun B V => ?_);have l := o.E.trans V.E;have G := o.D.E V.E O;have K := V.D;refine go ?_;refine AC (gholds_ok B M a S _ f _ E h (s.ext l) q (I.ext l) P (d.ext l) z X W y H (D.ext l) (p.E l O) (Nat.le_trans r l.size)) rfl ?_;rintro _ w3 ⟨rfl, g⟩;refine go ?_;exact AA rfl ⟨rfl, l.trans g⟩
section
attribute [local semireducible] WC AO Bi BH Be Cq DN BU
variable {P : Program} {all : Array Oper} {Z : Fr → DS → List PanicEntry → World → Prop} {K : Fr → DS → World → Prop} {rest : List Oper} {f : Fr} {ds : DS} {w : World} {d : Nat} {ty : TypeId} {pos : String} {af : Array Edge}
theorem W_slNil {T e size N o n c : Nat} {z : Value} {x : Operand} {a : Option Addr} [hT : SlT P T e size N z] (V : ev f x = .slice a n c)
  (h : AO P all Z K rest (upd f d (.bool a.isNone)) ds w) : AO P all Z K (⟨some d, .binOp .eql T x (.const (.slice none 0 0)) o, ty, pos, af, none⟩ :: rest) f ds w := by
 refine Aq rfl ?_ h;have b : ev f (.const (.slice none 0 0)) = .slice none 0 0 := rfl
 have X : ∀ d : Nat, (Op.equalIn (d + 1) T (.slice a n c) (.slice none 0 0)).run P w = .ok a.isNone w := fun d => by
  cases a <;> simp [Op.equalIn, run_underlying hT.und]
 have W : (binOp .eql T (.slice a n c) (.slice none 0 0)).run P w = .ok (.bool a.isNone) w := by
  simp only [binOp];simp [Op.equal, Op.maxDepth, X 9999]
 simp [execOp, V, b, eqGuard, W]
end
theorem made0 : (madeCells (Value.agg #[iV 0, AI [], iV 0, iV 0, .slice none 0 0]).cells (0 * 5)).toList = [] := by kernel_rfl
theorem clone_ok (w : World) (a : Option Addr) (c : Nat) (l : LF) (L : List (LV)) (ok : Nat → Prop) (D : Sl ok w (.slice a l.length c) l.length L.flatten) (g : FsAt ok w L l) (M : l.length ≤ 1000000) :
  Fn Zp 75 [.slice a l.length c] w fun u w' => Ext w w' ∧ w'.ownsRow w.heap.size 36 5 u l.length L.flatten := by
 have m := g.oneC;have H := g.flat;refine AG Tryz.func75 rfl Tryz.ntmps75 (go ?_);refine W_slNil rfl ?_;cases a with
 | none =>
  have s : l.length = 0 := by
   obtain ⟨_, _, e, _, _, _, h⟩ := D;cases e;rcases h with h | ⟨b, o, e, _⟩
   ·exact h
   ·cases e
  refine go ?_;have k : L.flatten = [] := List.eq_nil_of_length_eq_zero (by rw [H, s]);exact AA rfl ⟨Ext.refl _, by rw [k, s]; exact ⟨rfl, .inl ⟨rfl, rfl⟩⟩⟩
 | some a =>
  refine go ?_;refine AL (out := []) rfl U (by rw [made0]; rfl) (fun q E => ?_);refine go ?_;have Q := E.own (n := 0) (size := 5) rfl Dq (Nat.le_refl _);refine Ak (B := w.heap.size) (n := 0) rfl rfl Q ((D.ext E.E)) U rfl H m U U (by have := E.size; omega) (fun i r S => ?_);refine go ?_;have j := S.own;rw [Nat.zero_add, List.nil_append] at j;exact AA rfl ⟨E.E.E S.E (fun y p => (Ab Q (Option.mem_toList.1 p)).1), j⟩
structure Rtg (ok : Nat → Prop) (W W' : World) (g o : Nat) (v v' : Value) : Prop where
 sl : ∃ a n c, v = .slice a n c
 old : W.cell? ⟨g, o, none⟩ = some v
 new : W'.cell? ⟨g, o, none⟩ = some v'
 oth : ∀ (b i : Nat) (u : Value), ¬ (b = g ∧ i = o) → W.cell? ⟨b, i, none⟩ = some u → W'.cell? ⟨b, i, none⟩ = some u
 cpy : ∀ (n : Nat) (L : List (LV)), L.flatten.length = n * 5 → Sl ok W v n L.flatten → Sl ok W' v' n L.flatten
theorem row_at {L : List (LV)} (P : ∀ c ∈ L, c.length = 5) {k : Nat} {u : Value} (h : L.flatten[k]? = some u) : ∃ c, L[k / 5]? = some c ∧ c[k % 5]? = some u := by
 have a := (List.getElem?_eq_some_iff.1 h).1;rw [CC 5 L P] at a;have F : k / 5 < L.length := (Nat.div_lt_iff_lt_mul U).2 a;refine ⟨L[k / 5], List.getElem?_eq_getElem F, ?_⟩;have A : L[k / 5] ∈ L := List.getElem_mem F;have y : k % 5 < (L[k / 5]).length := by rw [P _ A]; omega
 have X := CH 5 L (k / 5) (k % 5) _ _ P (List.getElem?_eq_getElem F) (List.getElem?_eq_getElem y);rw [show k / 5 * 5 + k % 5 = k by omega, h] at X;rw [List.getElem?_eq_getElem y];exact X.symm
theorem FAt.rtg {ok : Nat → Prop} {W q : World} {g o : Nat} {v p : Value} (R : Rtg ok W q g o v p) : ∀ (n : Nat) (u : Value) (f : Fml), dpF f ≤ n → FAt ok W u f → FAt ok q u f
 | 0, u, f, hn, _ => by rw [BP] at hn; omega
 | n + 1, u, f, hn, h => by
  rw [BP] at hn;obtain ⟨av, rfl, L, hS, S, P, hA⟩ := h.form;obtain ⟨op, nm, vl, d, l⟩ := f;simp only [Fml.op, Fml.name, Fml.val, Fml.bound, Fml.args] at *;obtain ⟨a, N, rfl, q1, q2, q3, q4⟩ := id hS;rcases q4 with h0 | ⟨b, r, rfl, hb, T⟩
  ·refine .mk op nm vl d l _ L ⟨a, N, rfl, q1, q2, q3, .inl h0⟩ S P fun i c x F V => ?_;have := (List.getElem?_eq_some_iff.1 V).1;omega
  ·
   have a2 : ∀ (i : Nat), i < L.length → ∃ G : LV, G.length = 5 ∧ (∀ (j : Nat) (w : Value), G[j]? = some w → q.cell? ⟨b, r + i * 5 + j, none⟩ = some w) ∧ ∀ x, l[i]? = some x → FAt ok q (.agg G.toArray) x := by
    intro i F;have a0 := List.getElem?_eq_getElem F;have E : l[i]? = some l[i] := List.getElem?_eq_getElem U;have hm := List.mem_of_getElem? E;have b1 := Ba hm;have I := hA i _ _ a0 E
    have m : ∀ (j : Nat) (w : Value), L[i][j]? = some w → W.cell? ⟨b, r + i * 5 + j, none⟩ = some w := fun j w e => by
     have := T (i * 5 + j) w (CH 5 L i j _ _ P a0 e)
     rwa [← Nat.add_assoc] at this
    by_cases hg : b = g ∧ r + i * 5 + 4 = o
    ·obtain ⟨rfl, rfl⟩ := hg;obtain ⟨t, C, B, a6, Z, Q, a5⟩ := I.form;have z : L[i] = [iV (l[i]).op, AI (l[i]).name, iV (l[i]).val, iV (l[i]).bound, t] := by simpa using C
     have hv : v = t := by
      have := m 4 t (by rw [z]; rfl);rw [R.old] at this;exact Option.some.inj this
     subst hv;refine ⟨[iV (l[i]).op, AI (l[i]).name, iV (l[i]).val, iV (l[i]).bound, p], rfl, fun j w e => ?_, fun x V => ?_⟩
     ·match j, e with
      | 0, e => exact R.oth _ _ _ U (m 0 w (by rw [z]; exact e))
      | 1, e => exact R.oth _ _ _ U (m 1 w (by rw [z]; exact e))
      | 2, e => exact R.oth _ _ _ U (m 2 w (by rw [z]; exact e))
      | 3, e => exact R.oth _ _ _ U (m 3 w (by rw [z]; exact e))
      | 4, e => rw [← Option.some.inj e]; exact R.new
      | j + 5, e => simp at e
     ·rw [E] at V;obtain rfl := Option.some.inj V;have a7 := BP l[i];generalize l[i] = x at *;obtain ⟨a9, a8, b0, a4, a3⟩ := x;refine .mk a9 a8 b0 a4 a3 p B (R.cpy _ B (by rw [CC 5 B Q, Z]; rfl) a6) Z Q fun k c y hk hy => ?_;have := Ba (List.mem_of_getElem? hy);exact FAt.rtg R n _ y (by simp only [Fml.args] at a7; omega) (a5 k c y hk hy)
    ·refine ⟨L[i], P _ (List.getElem_mem F), fun j w e => R.oth _ _ _ (fun s => ?_) (m j w e), fun x V => ?_⟩
     ·
      obtain ⟨rfl, s⟩ := s;obtain ⟨t, C, -⟩ := I.form;have z : L[i] = [iV (l[i]).op, AI (l[i]).name, iV (l[i]).val, iV (l[i]).bound, t] := by simpa using C
      have X := m j w e;rw [s, R.old] at X;obtain ⟨a', n', G, rfl⟩ := R.sl;obtain rfl := Option.some.inj X;rw [z] at e
      match j, e, s with
      | 0, e, _ => simp at e
      | 1, e, _ => simp at e
      | 2, e, _ => simp at e
      | 3, e, _ => simp at e
      | 4, _, s => exact hg ⟨rfl, s⟩
      | j + 5, e, _ => simp at e
     ·rw [E] at V;obtain rfl := Option.some.inj V;exact FAt.rtg R n _ _ U I
   obtain ⟨D, H⟩ : ∃ D : Nat → LV, ∀ i, i < L.length → (D i).length = 5 ∧ (∀ (j : Nat) (w : Value), (D i)[j]? = some w → q.cell? ⟨b, r + i * 5 + j, none⟩ = some w) ∧ ∀ x, l[i]? = some x → FAt ok q (.agg (D i).toArray) x :=
    ⟨fun i => if h : i < L.length then Classical.choose (a2 i h) else [], fun i F => by simp only [dif_pos F]; exact Classical.choose_spec (a2 i F)⟩
   have a1 : ∀ c ∈ (List.range L.length).map D, c.length = 5 := by
    intro c T;obtain ⟨i, F, rfl⟩ := List.mem_map.1 T;exact (H i (List.mem_range.1 F)).1
   refine .mk op nm vl d l _ ((List.range L.length).map D) ⟨some ⟨b, r, none⟩, N, rfl, q1, q2, q3, .inr ⟨b, r, rfl, hb, fun k u M => ?_⟩⟩ (by simpa using S) a1 fun i c x F V => ?_
   ·obtain ⟨c, K, M⟩ := row_at a1 M;have A : k / 5 < L.length := by have := (List.getElem?_eq_some_iff.1 K).1; simpa using this
    rw [List.getElem?_map, List.getElem?_range A] at K;obtain rfl := Option.some.inj K;have := (H _ A).2.1 _ u M
    rwa [show r + k / 5 * 5 + k % 5 = r + k by omega] at this
   ·have A : i < L.length := by have := (List.getElem?_eq_some_iff.1 F).1; simpa using this
    rw [List.getElem?_map, List.getElem?_range A] at F;obtain rfl := Option.some.inj F;exact (H i A).2.2 x V
theorem own_pop {w : World} {B e n : Nat} {a : Option Addr} {cap : Nat} {xs : LV} {u : Value} (h : w.ownsRow B e 1 (.slice a (n + 1) cap) (n + 1) (xs ++ [u])) : w.ownsRow B e 1 (.slice a n cap) n xs := by
 obtain ⟨M, q⟩ := h;have y : xs.length = n * 1 := by simp at M; omega
 rcases q with ⟨e, s⟩ | ⟨g, cap, o, e, S, z, f, t, A, b⟩
 ·omega
 ·cases e;refine ⟨y, .inr ⟨g, cap, o, rfl, S, z, by omega, t, A, ?_⟩⟩;have := congrArg (List.take (n * 1)) b;rw [List.take_take, Nat.min_eq_left U] at this;rw [this, List.take_append_of_le_length U, List.take_of_length_le (l := xs) U]
theorem PF.rtg {ok : Nat → Prop} {W j : World} {g o : Nat} {v p : Value} (R : Rtg ok W j g o v p) {b i : Nat} {f : Fml} (h : PF ok W b i f) : PF ok j b i f := by
 obtain ⟨S, d, C, T, I⟩ := h
 have X : FAt ok W (.agg #[iV 0, AI [], iV 0, iV 0, .slice (some ⟨b, i, none⟩) 1 1]) ⟨0, [], 0, 0, [f]⟩ := by
  refine .mk 0 [] 0 0 [f] _ [d] ⟨_, 1, rfl, by simp, by omega, (fun e => by cases e), .inr ⟨b, i, rfl, S, by simpa using T⟩⟩ rfl (fun c A => by simp at A; rw [A]; exact C) fun k c x P V => ?_;cases k with
  | zero => simp at P V; subst P; subst V; exact I
  | succ k => simp at P
 obtain ⟨s, e, L, l, D, q, G⟩ := (FAt.rtg R _ _ _ (Nat.le_refl _) X).form;simp only [Value.agg.injEq, List.cons.injEq, and_true, Array.mk.injEq] at e;have e := e.2.2.2.2;subst e;simp only [Fml.args] at l D G;obtain ⟨a, c, e, _, _, _, V⟩ := l;cases e;obtain ⟨r, t, e, n, m⟩ := V.resolve_left O;cases e
 match L, D with
 | [c], _ =>
  simp at m;exact ⟨n, c, q c O, m, G 0 c f rfl rfl⟩
end Go.Proofs.YtohodbnnhlddpaaGreatDoor
