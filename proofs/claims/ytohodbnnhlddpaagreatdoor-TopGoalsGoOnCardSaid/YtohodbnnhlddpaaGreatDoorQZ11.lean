/- TopGoalsGoOn, part 11 of 16: rules, lemmas, walks. Conditions: none. -/
import Derived.Test.YtohodbnnhlddpaaGreatDoorQZ10
namespace Go.Proofs.YtohodbnnhlddpaaGreatDoor
open Go.RowKit
set_option linter.unusedVariables false
section
variable {mk : Prop} [MK mk]
set_option maxHeartbeats 1000000 in
theorem glone_ok (w : World) (b T : Nat) (s : BS) (d N v : Int) (nm : LU) (a3 : b ≠ T) (hb : BAt w b s) (hs : bsOk s) (h0 : s.2 = false) (hd : 0 ≤ d) (b0 : d ≤ 1000)
  (hc : Blk w T 36 [iV N, AI nm, iV v, iV 0, .slice none 0 0]) :
  Fn Zp 127 [pt b, pt T, iV d] w fun u w' => Keep [b, T] w w' ∧ BAt w' b (lnB N v d s).2.2 ∧
   ∃ i L, Blk w' T 36 [iV N, AI nm, iV (lnB N v d s).1, iV 0, i] ∧ w'.ownsRow w.heap.size 36 5 i (lnB N v d s).2.1.length L.flatten ∧ ∀ ok, FsAt ok w' L (lnB N v d s).2.1 := by
 have a9 := hc.lt;have a8 := hb.lt;unfold lnB;refine AG Tryz.func127 rfl Tryz.ntmps127 (go ?_);refine AC (gtake_ok w b s (d - 1) hb hs) rfl ?_;rintro _ w1 ⟨rfl, k1, b1⟩;have c1 := hc.E k1 (by simpa using Ne.symm a3);have a0 : Keep [b, T] w w1 := k1.mono fun x h => by simp at h; simp [h]
 cases ht : (tkB s (d - 1)).2 with
 | true =>
  refine go ?_;simp only [if_true];exact fin_ret0 rfl ⟨a0, b1, _, [], c1, ⟨rfl, .inl ⟨rfl, rfl⟩⟩, fun ok => FsAt.nil ok _⟩
 | false =>
  rw [if_neg Bool.false_ne_true];refine go ?_;by_cases h9 : N = 9
  ·rw [if_neg (show ¬ N = 17 by omega), if_pos (show N = 9 ∨ N = 16 from .inl h9)];refine go ?_;refine AW (rd 0 3 (.read 4 (.read 5 (.alt 3 (.read 6 (.alt 7 (.alt 8 (.read 9 (.read 11 (.read 12 (.alt 10 (.alt 13 .done .stop) (.alt 13 (.alt 10 .done .stop) .stop))))) .stop) .stop)) (.alt 7 (.alt 3 (.read 6 (.alt 8 (.read 9 (.read 11 (.read 12 (.alt 10 (.alt 13 .done .stop) (.alt 13 (.alt 10 .done .stop) .stop))))) .stop)) .stop) .stop))))) Al Dk (fun wd m ed => ⟨fun _ => True, ?_, ?_⟩)
   ·trivial
   have j := (a0).ext m;have E := (c1).E m O;have C := (b1).E m O;refine go ?_
   refine D_leaf (α := Value) (.read 9 (.read 11 (.read 12 (.alt 10 (.alt 13 .done .stop) (.alt 13 (.alt 10 .done .stop) .stop))))) (fun i => [(32, pt T), (37, .agg #[iV 1, AI [], iV 0, iV 0, .slice none 0 0]), (38, iV ((0 : Nat) : Int)), (40, i)])
    (fun i W => Keep [b, T] w W ∧ Blk W T 36 [iV N, AI nm, iV v, iV 0, .slice none 0 0] ∧ BAt W b (tkB s (d - 1)) ∧ W.ownsRow w.heap.size 36 5 i 1 zero5) ?_ (fun I => ?_)
   ·rintro i f' W ⟨H, l, A, P⟩;obtain ⟨g, F, M, rfl, z, D, hM, R, a⟩ := own_set (n := 0) (xs := []) (cs := [iV 1, AI [], iV 0, iV 0, .slice none 0 0]) P rfl rfl l (fun g z => by have := (Ab P z).1; omega);have a1 : g ≠ b := by have := hb.lt; omega
    have G : g ≠ T := by omega
    refine go ?_;refine D_A rfl ?_ (D_E rfl ?_)
    ·refine AE (o := 0 + 0 * 5) (cs := [iV 1, AI [], iV 0, iV 0, .slice none 0 0]) rfl rfl rfl (AU rfl) D U (fun f c => ?_);refine wNl trivial ?_;refine go ?_;refine D_E rfl ?_;refine AN rfl rfl rfl (l.E c.E (by simpa using G.symm)) O (fun t r => ?_);refine wNl trivial ?_;obtain ⟨X, k, V⟩ := R f t c r;exact ER
    ·refine AN rfl rfl rfl l O (fun f c => ?_);refine wNl trivial ?_;refine go ?_;refine D_E rfl ?_;refine AE (o := 0 + 0 * 5) (cs := [iV 1, AI [], iV 0, iV 0, .slice none 0 0]) rfl rfl rfl (AU rfl) (D.E c.E (by simpa using G)) U (fun t r => ?_);refine wNl trivial ?_;obtain ⟨X, k, V⟩ := a f t c r;exact ER
   refine D_A rfl ?_ (D_E rfl ?_)
   ·refine AM rfl (E.cell (o := 4) rfl) ?_;refine wNl trivial ?_;refine go ?_;refine D_E rfl ?_;refine AL (out := zero5) rfl U Dr (fun w3 e => ?_);exact EJ
   ·refine AL (out := zero5) rfl U Dr (fun w3 e => ?_);refine wNl trivial ?_;refine go ?_;refine D_E rfl ?_;have Z := E.E e.E O;refine AM rfl (Z.cell (o := 4) rfl) ?_;exact EJ
  by_cases a6 : N = 16
  ·rw [if_neg (show ¬ N = 17 by omega), if_pos (show N = 9 ∨ N = 16 from .inr a6)];refine go ?_;refine AW (rd 0 3 (.read 4 (.read 5 (.alt 3 (.read 6 (.alt 7 (.alt 8 (.read 9 (.read 11 (.read 12 (.alt 10 (.alt 13 .done .stop) (.alt 13 (.alt 10 .done .stop) .stop))))) .stop) .stop)) (.alt 7 (.alt 3 (.read 6 (.alt 8 (.read 9 (.read 11 (.read 12 (.alt 10 (.alt 13 .done .stop) (.alt 13 (.alt 10 .done .stop) .stop))))) .stop)) .stop) .stop))))) Al Dk (fun wd m ed => ⟨fun _ => True, ?_, ?_⟩)
   ·trivial
   have j := (a0).ext m;have E := (c1).E m O;have C := (b1).E m O;refine go ?_
   refine D_leaf (α := Value) (.read 9 (.read 11 (.read 12 (.alt 10 (.alt 13 .done .stop) (.alt 13 (.alt 10 .done .stop) .stop))))) (fun i => [(32, pt T), (37, .agg #[iV 1, AI [], iV 0, iV 0, .slice none 0 0]), (38, iV ((0 : Nat) : Int)), (40, i)])
    (fun i W => Keep [b, T] w W ∧ Blk W T 36 [iV N, AI nm, iV v, iV 0, .slice none 0 0] ∧ BAt W b (tkB s (d - 1)) ∧ W.ownsRow w.heap.size 36 5 i 1 zero5) ?_ (fun I => ?_)
   ·rintro i f' W ⟨H, l, A, P⟩;obtain ⟨g, F, M, rfl, z, D, hM, R, a⟩ := own_set (n := 0) (xs := []) (cs := [iV 1, AI [], iV 0, iV 0, .slice none 0 0]) P rfl rfl l (fun g z => by have := (Ab P z).1; omega);have a1 : g ≠ b := by have := hb.lt; omega
    have G : g ≠ T := by omega
    refine go ?_;refine D_A rfl ?_ (D_E rfl ?_)
    ·refine AE (o := 0 + 0 * 5) (cs := [iV 1, AI [], iV 0, iV 0, .slice none 0 0]) rfl rfl rfl (AU rfl) D U (fun f c => ?_);refine wNl trivial ?_;refine go ?_;refine D_E rfl ?_;refine AN rfl rfl rfl (l.E c.E (by simpa using G.symm)) O (fun t r => ?_);refine wNl trivial ?_;obtain ⟨X, k, V⟩ := R f t c r;exact ER
    ·refine AN rfl rfl rfl l O (fun f c => ?_);refine wNl trivial ?_;refine go ?_;refine D_E rfl ?_;refine AE (o := 0 + 0 * 5) (cs := [iV 1, AI [], iV 0, iV 0, .slice none 0 0]) rfl rfl rfl (AU rfl) (D.E c.E (by simpa using G)) U (fun t r => ?_);refine wNl trivial ?_;obtain ⟨X, k, V⟩ := a f t c r;exact ER
   refine D_A rfl ?_ (D_E rfl ?_)
   ·refine AM rfl (E.cell (o := 4) rfl) ?_;refine wNl trivial ?_;refine go ?_;refine D_E rfl ?_;refine AL (out := zero5) rfl U Dr (fun w3 e => ?_);exact EJ
   ·refine AL (out := zero5) rfl U Dr (fun w3 e => ?_);refine wNl trivial ?_;refine go ?_;refine D_E rfl ?_;have Z := E.E e.E O;refine AM rfl (Z.cell (o := 4) rfl) ?_;exact EJ
  rw [if_neg (show ¬ (N = 9 ∨ N = 16) by omega)];by_cases a2 : N = 17
  ·rw [if_pos a2];refine go ?_;refine AN (v := iV 1) rfl rfl rfl c1 O (fun w2 p2 => ?_);have a5 : Blk w2 T 36 [iV N, AI nm, iV 1, iV 0, .slice none 0 0] := p2.D;have a4 := b1.E p2.E (by simpa using a3);have a7 : Keep [b, T] w w2 := a0.trans p2.E (fun x h _ => by simp at h; simp [h]);refine go ?_;refine AW (rd 0 3 (.read 4 (.read 5 (.alt 3 (.read 6 (.alt 7 (.alt 8 (.read 9 (.read 11 (.read 12 (.alt 10 (.alt 13 .done .stop) (.alt 13 (.alt 10 .done .stop) .stop))))) .stop) .stop)) (.alt 7 (.alt 3 (.read 6 (.alt 8 (.read 9 (.read 11 (.read 12 (.alt 10 (.alt 13 .done .stop) (.alt 13 (.alt 10 .done .stop) .stop))))) .stop)) .stop) .stop))))) Al Dk (fun wd m ed => ⟨fun _ => True, ?_, ?_⟩)
   ·trivial
   have j := (a7).ext m;have E := (a5).E m O;have C := (a4).E m O;refine go ?_
   refine D_leaf (α := Value) (.read 9 (.read 11 (.read 12 (.alt 10 (.alt 13 .done .stop) (.alt 13 (.alt 10 .done .stop) .stop))))) (fun i => [(32, pt T), (37, .agg #[iV 2, AI [], iV 0, iV 0, .slice none 0 0]), (38, iV ((0 : Nat) : Int)), (40, i)])
    (fun i W => Keep [b, T] w W ∧ Blk W T 36 [iV N, AI nm, iV 1, iV 0, .slice none 0 0] ∧ BAt W b (tkB s (d - 1)) ∧ W.ownsRow w.heap.size 36 5 i 1 zero5) ?_ (fun I => ?_)
   ·rintro i f' W ⟨H, l, A, P⟩;obtain ⟨g, F, M, rfl, z, D, hM, R, a⟩ := own_set (n := 0) (xs := []) (cs := [iV 2, AI [], iV 0, iV 0, .slice none 0 0]) P rfl rfl l (fun g z => by have := (Ab P z).1; omega);have a1 : g ≠ b := by have := hb.lt; omega
    have G : g ≠ T := by omega
    refine go ?_;refine D_A rfl ?_ (D_E rfl ?_)
    ·refine AE (o := 0 + 0 * 5) (cs := [iV 2, AI [], iV 0, iV 0, .slice none 0 0]) rfl rfl rfl (AU rfl) D U (fun f c => ?_);refine wNl trivial ?_;refine go ?_;refine D_E rfl ?_;refine AN rfl rfl rfl (l.E c.E (by simpa using G.symm)) O (fun t r => ?_);refine wNl trivial ?_;obtain ⟨X, k, V⟩ := R f t c r;exact ES
    ·refine AN rfl rfl rfl l O (fun f c => ?_);refine wNl trivial ?_;refine go ?_;refine D_E rfl ?_;refine AE (o := 0 + 0 * 5) (cs := [iV 2, AI [], iV 0, iV 0, .slice none 0 0]) rfl rfl rfl (AU rfl) (D.E c.E (by simpa using G)) U (fun t r => ?_);refine wNl trivial ?_;obtain ⟨X, k, V⟩ := a f t c r;exact ES
   refine D_A rfl ?_ (D_E rfl ?_)
   ·refine AM rfl (E.cell (o := 4) rfl) ?_;refine wNl trivial ?_;refine go ?_;refine D_E rfl ?_;refine AL (out := zero5) rfl U Dr (fun w3 e => ?_);exact EJ
   ·refine AL (out := zero5) rfl U Dr (fun w3 e => ?_);refine wNl trivial ?_;refine go ?_;refine D_E rfl ?_;have Z := E.E e.E O;refine AM rfl (Z.cell (o := 4) rfl) ?_;exact EJ
  ·rw [if_neg a2];refine go ?_;refine AW (rd 0 3 (.read 4 (.read 5 (.alt 3 (.read 6 (.alt 7 (.alt 8 (.read 9 (.read 11 (.read 12 (.alt 10 (.alt 13 .done .stop) (.alt 13 (.alt 10 .done .stop) .stop))))) .stop) .stop)) (.alt 7 (.alt 3 (.read 6 (.alt 8 (.read 9 (.read 11 (.read 12 (.alt 10 (.alt 13 .done .stop) (.alt 13 (.alt 10 .done .stop) .stop))))) .stop)) .stop) .stop))))) Al Dk (fun wd m ed => ⟨fun _ => True, ?_, ?_⟩)
   ·trivial
   have j := (a0).ext m;have E := (c1).E m O;have C := (b1).E m O;refine go ?_
   refine D_leaf (α := Value) (.read 9 (.read 11 (.read 12 (.alt 10 (.alt 13 .done .stop) (.alt 13 (.alt 10 .done .stop) .stop))))) (fun i => [(32, pt T), (37, .agg #[iV 2, AI [], iV 0, iV 0, .slice none 0 0]), (38, iV ((0 : Nat) : Int)), (40, i)])
    (fun i W => Keep [b, T] w W ∧ Blk W T 36 [iV N, AI nm, iV v, iV 0, .slice none 0 0] ∧ BAt W b (tkB s (d - 1)) ∧ W.ownsRow w.heap.size 36 5 i 1 zero5) ?_ (fun I => ?_)
   ·rintro i f' W ⟨H, l, A, P⟩;obtain ⟨g, F, M, rfl, z, D, hM, R, a⟩ := own_set (n := 0) (xs := []) (cs := [iV 2, AI [], iV 0, iV 0, .slice none 0 0]) P rfl rfl l (fun g z => by have := (Ab P z).1; omega);have a1 : g ≠ b := by have := hb.lt; omega
    have G : g ≠ T := by omega
    refine go ?_;refine D_A rfl ?_ (D_E rfl ?_)
    ·refine AE (o := 0 + 0 * 5) (cs := [iV 2, AI [], iV 0, iV 0, .slice none 0 0]) rfl rfl rfl (AU rfl) D U (fun f c => ?_);refine wNl trivial ?_;refine go ?_;refine D_E rfl ?_;refine AN rfl rfl rfl (l.E c.E (by simpa using G.symm)) O (fun t r => ?_);refine wNl trivial ?_;obtain ⟨X, k, V⟩ := R f t c r;exact ES
    ·refine AN rfl rfl rfl l O (fun f c => ?_);refine wNl trivial ?_;refine go ?_;refine D_E rfl ?_;refine AE (o := 0 + 0 * 5) (cs := [iV 2, AI [], iV 0, iV 0, .slice none 0 0]) rfl rfl rfl (AU rfl) (D.E c.E (by simpa using G)) U (fun t r => ?_);refine wNl trivial ?_;obtain ⟨X, k, V⟩ := a f t c r;exact ES
   refine D_A rfl ?_ (D_E rfl ?_)
   ·refine AM rfl (E.cell (o := 4) rfl) ?_;refine wNl trivial ?_;refine go ?_;refine D_E rfl ?_;refine AL (out := zero5) rfl U Dr (fun w3 e => ?_);exact EJ
   ·refine AL (out := zero5) rfl U Dr (fun w3 e => ?_);refine wNl trivial ?_;refine go ?_;refine D_E rfl ?_;have Z := E.E e.E O;refine AM rfl (Z.cell (o := 4) rfl) ?_;exact EJ
theorem bd_ok {N : Int} {P : Bool} {g : Int → BS → Fml × BS} (z : ∀ d s, bsOk s → bsOk (g d s).2) : ∀ (n : Nat) (d : Int) (s : BS), bsOk s → bsOk (bdB N P g n d s).2
 | 0, d, s, h => z d s h
 | n + 1, d, s, h => by
  rw [bdB]
  split
  ·exact h
  ·rename_i a;have a : s.2 = false := by simpa using a
   have Z := tk_ok (d := d) h a
   split
   ·exact Z.1
   ·rename_i X;have X : (tkB s d).2 = false := by simpa using X
    have j := tk_ok (d := d - 1) Z.1 X
    split
    ·exact j.1
    ·exact bd_ok z n _ _ (z _ _ j.1)
def FnF (a : Nat) (W : World) (b o : Nat) (P : Bool) (d : Int) (s : BS) (r : Fml × BS) : Prop := Fn Zp 79 [pt a, .pointer (some ⟨b, o, none⟩), .bool P, iV d] W fun u Z => Keep [a] W Z ∧ BAt Z a r.2 ∧ FAt (fun x => W.heap.size ≤ x) Z u r.1
set_option maxHeartbeats 1000000 in
theorem gbounded_ok (a : Nat) (P : Bool) (N : Int) (g : Int → BS → Fml × BS) (b o b' o' al cc : Nat) (q : World) (f5 : 1 ≤ al) (q0 : q.cell? ⟨b, o + 0, none⟩ = some (iV N)) (q4 : q.cell? ⟨b, o + 4, none⟩ = some (.slice (some ⟨b', o', none⟩) al cc)) (R : b ≠ a) (hbb : a < q.heap.size) (hg : ∀ d s, bsOk s → bsOk (g d s).2)
  (b5 : ∀ (W : World) (d : Int) (s : BS), Keep [a] q W → 0 ≤ d → d ≤ 1000 → bsOk s → BAt W a s → FnF a W b' (o' + 0 * 5) P d s (g d s)) :
  ∀ (n : Nat) (W : World) (d : Int) (s : BS), n ≤ 9 → Keep [a] q W → 0 ≤ d → d ≤ 1000 → bsOk s → BAt W a s → Fn Zp 124 [pt a, .pointer (some ⟨b, o, none⟩), iV (n : Int), .bool P, iV d] W fun u w' => Keep [a] W w' ∧ BAt w' a (bdB N P g n d s).2 ∧ FAt (fun x => W.heap.size ≤ x) w' u (bdB N P g n d s).1 := by
 intro n;have e0 := World.block_lt_of_cell? q _ q0;simp only at e0
 induction n with
 | zero =>
  intro W d s _ p hd c0 D S;have z0 := p.size;have c7 := p.cell q4 (by simpa using R);refine AG Tryz.func124 rfl Tryz.ntmps124 (go ?_);refine AQ (L := zero5) (fun Q E => ?_);have z1 := E.size;have q41 := E.E.cell c7 O;refine go ?_;refine AC (b5 Q d s (p.ext E.E) hd c0 D (S.E E.E O)) rfl ?_;rintro u w2 ⟨A, z, f2⟩;obtain ⟨t, rfl, e1, e4⟩ := f2.cells;obtain ⟨F, H, K, I, r, rfl⟩ := AX e1;refine AE (cs := [F, H, K, I, r]) rfl rfl rfl e4 (E.D.E A Dl) Dp (fun m e => ?_);refine go ?_;exact AT rfl rfl rfl e.D.cells ⟨(E.E.any.trans A (fun _ h _ => h)).trans e.E (fun y hy w => by simp at hy; omega), z.E e.E Dl, (f2.E e.E (fun y hy hm => by simp at hm; omega)).mono fun y hy => by omega⟩
 | succ n ih =>
  intro W d s hn p hd c0 D S;have z0 := p.size;have c7 := p.cell q4 (by simpa using R);have e8 := p.cell q0 (by simpa using R);obtain ⟨l, ov⟩ := s;refine AG Tryz.func124 rfl Tryz.ntmps124 (go ?_);refine AQ (L := zero5) (fun Q E => ?_);have z1 := E.size;have b6 := S.E E.E O;refine go ?_;rw [bdB];cases ov with
  | true =>
   rw [if_pos rfl];refine go ?_;refine AE (cs := zero5) rfl rfl rfl (AU rfl) ((E).D.E (Keep.refl [a] Q) Dl) Dp (fun m e => ?_);refine go ?_;have z9 := (E).size;exact AT rfl rfl rfl e.D.cells ⟨((E).E.any.trans (Keep.refl [a] Q) (fun _ h _ => h)).trans e.E (fun x h w => by simp at h; omega), (b6).E e.E Dl, FAt.leaf _ _ 0 [] 0 0⟩
  | false =>
   rw [if_neg Bool.false_ne_true];refine go ?_;refine AC (gtake_ok Q a (l, false) d b6 D) rfl ?_;rintro _ w2 ⟨rfl, A, z⟩;obtain ⟨c2, b9⟩ := tk_ok (d := d) D rfl;cases ht : (tkB (l, false) d).2 with
   | true =>
    rw [if_pos rfl];refine go ?_;refine AE (cs := zero5) rfl rfl rfl (AU rfl) ((E).D.E A Dl) Dp (fun m e => ?_);refine go ?_;have z9 := (E).size;exact AT rfl rfl rfl e.D.cells ⟨((E).E.any.trans A (fun _ h _ => h)).trans e.E (fun x h w => by simp at h; omega), (z).E e.E Dl, FAt.leaf _ _ 0 [] 0 0⟩
   | false =>
    rw [if_neg Bool.false_ne_true];have b9 := b9 ht;refine go ?_;refine AC (gtake_ok w2 a _ (d - 1) z c2) rfl ?_;rintro _ w3 ⟨rfl, k3, b7⟩;obtain ⟨c3, c1⟩ := tk_ok (d := d - 1) c2 ht;have Z : Keep [a] Q w3 := A.trans k3 (fun _ h _ => h);cases ht3 : (tkB (tkB (l, false) d) (d - 1)).2 with
    | true =>
     rw [if_pos rfl];refine go ?_;refine AE (cs := zero5) rfl rfl rfl (AU rfl) ((E).D.E Z Dl) Dp (fun m e => ?_);refine go ?_;have z9 := (E).size;exact AT rfl rfl rfl e.D.cells ⟨((E).E.any.trans Z (fun _ h _ => h)).trans e.E (fun x h w => by simp at h; omega), (b7).E e.E Dl, FAt.leaf _ _ 0 [] 0 0⟩
    | false =>
     rw [if_neg Bool.false_ne_true];have c1 := c1 ht3;have g7 := Z.size;have f8 := Z.cell (E.E.cell e8 O) (by simpa using R);refine go ?_;refine AC (full_ok w3 N) rfl ?_;rintro _ w3 ⟨rfl, rfl⟩;refine go ?_;refine AQ (L := zero5) (fun w4 n4 => ?_);refine AE (cs := [iV (Ci N), AI [], iV 0, iV 0, .slice none 0 0]) rfl rfl rfl (AU rfl) n4.D Dp (fun w5 p5 => ?_);have z4 := n4.size;have z5 := p5.size;have c5 : Ext w3 w5 := n4.E.E p5.E O;obtain ⟨T, b8⟩ : ∃ T, T = w3.heap.size := ⟨_, rfl⟩;have b3 : Blk w5 T 36 [iV (Ci N), AI [], iV 0, iV 0, .slice none 0 0] := by rw [b8]; exact p5.D
     rw [← b8];refine go ?_;refine C_mid (α := Unit) (fun _ => [(0, pt a), (1, .pointer (some ⟨b, o, none⟩)), (2, iV ((n + 1 : Nat) : Int)), (3, .bool P), (4, iV d), (10, pt W.heap.size), (11, pt T)]) (fun _ f => Keep [T] w5 f ∧ Blk f T 36 [iV (negM P (Ci N)), AI [], iV 0, iV 0, .slice none 0 0]) ?_ ?_
     ·cases P with
      | false =>
       refine go ?_;exact Aw () ag ⟨Keep.refl _ _, b3⟩
      | true =>
       refine go ?_;refine AC (dual_ok w5 (Ci N)) rfl ?_;rintro _ w5 ⟨rfl, rfl⟩;refine go ?_;refine AN (v := iV (dualM (Ci N))) rfl rfl rfl b3 O (fun f p6 => go ?_);exact Aw () ag ⟨p6.E, p6.D⟩
     rintro _ f f6 ⟨a4, d1⟩;have z6 := a4.size;have a1 : Keep [a] Q f := (Z.ext c5).trans a4 (fun x h w => by simp at h; omega);have a7 : Keep [a] q f := (p.ext E.E).trans a1 (fun x h _ => h);have d7 := (b7.E c5 O).E a4 Dl;have g0 := a7.cell q4 (by simpa using R);refine go ?_;have hbw := S.lt;have z62 := a1.size;refine AC (b5 f (d - 1) _ a7 U U c3 d7) rfl ?_;rintro u7 w7 ⟨k7, d8, f7⟩;obtain ⟨f4, rfl, e3, e6⟩ := f7.cells;obtain ⟨C, G, k, j, M, rfl⟩ := AX e3;have z7 := k7.size;refine AQ (L := zero5) (fun w8 n8 => ?_);have z8 := n8.size;refine AE (cs := [C, G, k, j, M]) rfl rfl rfl e6 n8.D Dp (fun m e => ?_);have z9 := e.size;have a6 : Ext w7 m := n8.E.E e.E O;have c9 : Blk m w7.heap.size 36 [C, G, k, j, M] := e.D;have c6 : Keep [a] f m := k7.ext a6;have e7 : Keep [a] q m := a7.trans c6 (fun x h _ => h);have d9 := d8.E a6 O;have f9 := f7.ext a6;refine go ?_;rw [show ((n + 1 : Nat) : Int) - 1 = (n : Int) by omega];refine AC (ih m (d - 2) _ U e7 U U (hg _ _ c3) d9) rfl ?_;rintro g1 c8 ⟨a0, d6, b4⟩;obtain ⟨f3, rfl, e2, e5⟩ := b4.cells;obtain ⟨F, H, K, I, r, rfl⟩ := AX e2;have g4 := a0.size;refine AQ (L := zero5) (fun g2 a8 => ?_);have g5 := a8.size;refine AE (cs := [F, H, K, I, r]) rfl rfl rfl e5 a8.D Dp (fun i b0 => ?_);have g6 := b0.size;have X : Ext c8 i := a8.E.E b0.E O;have f1 : Blk i c8.heap.size 36 [F, H, K, I, r] := b0.D;have f0 : Blk i w7.heap.size 36 [C, G, k, j, M] := (c9.E a0 Dl).E X O;have d3 := (f9.E a0 (fun x V h => by simp at h; omega)).ext X;have d2 := b4.ext X;refine go ?_;refine AL (out := [F, H, K, I, r]) rfl U Dr (fun b1 a2 => ?_);have g8 := a2.size;refine go ?_;refine AL (out := [C, G, k, j, M, iV 8, AI [], iV 0, iV 0, .slice (sm i.heap.size) 1 1]) rfl U D8 (fun b2 a9 => ?_);have g9 := a9.size;have c4 : Ext i b2 := a2.E.trans a9.E;have a5 : Keep [a] f b2 := ((c6.trans a0 (fun x h _ => h)).ext X).ext c4;have d0 : Blk b2 T 36 [iV (negM P (Ci N)), AI [], iV 0, iV 0, .slice none 0 0] := d1.E a5 Dl;refine go ?_;refine AN (v := .slice (sm b1.heap.size) 2 2) rfl rfl rfl d0 O (fun e9 B => ?_);have c15 : Blk e9 T 36 [iV (negM P (Ci N)), AI [], iV 0, iV 0, .slice (sm b1.heap.size) 2 2] := B.D;have h0 := B.size;refine go ?_;refine AE (cs := [iV (negM P (Ci N)), AI [], iV 0, iV 0, .slice (sm b1.heap.size) 2 2]) rfl rfl rfl (AU rfl) (((E.D.E a1 Dl).E a5 Dl).E B.E Dl) Dp (fun g3 a3 => ?_);refine go ?_;have d4 : FsAt (fun x => W.heap.size ≤ x ∧ x ≠ W.heap.size ∧ x ≠ T) i [[F, H, K, I, r]] [(bdB N P g n (d - 2) (g (d - 1) (tkB (tkB (l, false) d) (d - 1))).2).1] := FsAt.one (d2.mono fun x V => by omega) rfl;obtain ⟨h1, h2⟩ := FsAt.fresh (L := [[F, H, K, I, r]]) a2 d4 U O;have hN := FAt.node 8 [] 0 0 h1 h2;have d5 := FsAt.two (c := [C, G, k, j, M]) (d := [iV 8, AI [], iV 0, iV 0, .slice (sm i.heap.size) 1 1]) ((d3.mono (ok' := fun x => W.heap.size ≤ x ∧ x ≠ W.heap.size ∧ x ≠ T) fun x V => by omega).ext a2.E) rfl hN rfl;obtain ⟨h3, h4⟩ := FsAt.fresh (L := [[C, G, k, j, M], [iV 8, AI [], iV 0, iV 0, .slice (sm i.heap.size) 1 1]]) a9 d5 U O;have hM := ((FAt.node (negM P (Ci N)) [] 0 0 h3 h4).E B.E (fun x V h => by simp at h; omega)).E a3.E (fun x V h => by simp at h; omega);refine AT rfl rfl rfl a3.D.cells ⟨?_, ((((d6.E X O).E c4 O).E B.E Dl).E a3.E Dl), hM.mono fun x V => V.1⟩;exact (((E.E.any.trans a1 (fun _ h _ => h)).trans a5 (fun _ h _ => h)).trans B.E (fun x h w => by simp at h; omega)).trans a3.E (fun x h w => by simp at h; omega)
mutual
theorem fmB_ok : ∀ (f : Fml) (neg : Bool) (d : Int) (s : BS), bsOk s → bsOk (fmB f neg d s).2
 | .mk op nm v b args, neg, d, s, h => by
  rw [fmB]
  split
  ·exact h
  ·rename_i h0;have h0 : s.2 = false := by simpa using h0
   have t1 := (tk_ok (d := d) h h0).1
   split
   ·exact fm0_ok args _ _ _ h
   ·split
    ·split
     ·exact t1
     ·rename_i h1;have t2 := (tk_ok (d := d - 1) t1 (by simpa using h1)).1
      split <;> exact t2
    ·split
     ·exact bd_ok (fun d s hs => fm0_ok args neg d s hs) _ _ _ h
     ·split
      ·exact t1
      ·rename_i h1;refine fmL_ok _ args _ _ _ ?_
       split
       ·unfold lnB;have t2 := (tk_ok (d := d - 1) t1 (by simpa using h1)).1
        split <;> exact t2
       ·exact t1
theorem fm0_ok : ∀ (l : LF) (neg : Bool) (d : Int) (s : BS), bsOk s → bsOk (fm0 l neg d s).2
 | [], _, _, _, h => h
 | a :: _, neg, d, s, h => fmB_ok a neg d s h
theorem fmL_ok : ∀ (t : Bool) (l : LF) (neg : Bool) (d : Int) (s : BS), bsOk s → bsOk (fmL t l neg d s).2
 | _, [], _, _, _, h => h
 | t, a :: l, neg, d, s, h => fmL_ok false l neg d _ (fmB_ok a _ d s h)
end
theorem fmL_len : ∀ (t : Bool) (l : LF) (P : Bool) (d : Int) (s : BS), (fmL t l P d s).1.length = l.length
 | _, [], _, _, _ => rfl
 | t, a :: l, P, d, s => by rw [fmL]; simp [fmL_len false l]
theorem fmL_snoc : ∀ (args : LF) (k : Nat) (x : Fml) (t : Bool) (P : Bool) (d : Int) (s : BS), args[k]? = some x →
  fmL t (args.take (k + 1)) P d s = ((fmL t (args.take k) P d s).1 ++ [(fmB x (P != (t && k == 0)) d (fmL t (args.take k) P d s).2).1], (fmB x (P != (t && k == 0)) d (fmL t (args.take k) P d s).2).2)
 | [], k, x, t, P, d, s, h => by cases h
 | a :: l, 0, x, t, P, d, s, h => by
  cases h;simp [fmL]
 | a :: l, k + 1, x, t, P, d, s, h => by
  have o := fmL_snoc l k x false P d (fmB a (P != t) d s).2 Dy;simp only [List.take_succ_cons, fmL, o];have e : (t && (k + 1 == 0)) = (false && k == 0) := by simp
  simp [e]
def lnF (N v : Int) (P : Bool) (d : Int) (s : BS) : Int × LF × BS := if isLn N then lnB (negM P (Ci N)) (Cp N v P) d s else (Cp N v P, [], s)
theorem fmB_eq (N v b : Int) (nm : LU) (args : LF) (P : Bool) (d : Int) (s : BS) : fmB (.mk N nm v b args) P d s =
  if s.2 then (Ae, s)
  else if N = 4 then fm0 args (!P) d s
  else if N = 3 ∧ P = true then (if (tkB s d).2 then (Ae, tkB s d) else if (tkB (tkB s d) (d - 1)).2 then (Ae, tkB (tkB s d) (d - 1)) else (⟨4, [], 0, 0, [⟨3, nm, v, 0, []⟩]⟩, tkB (tkB s d) (d - 1)))
  else if N = 13 ∨ N = 14 then bdB N P (fm0 args P) b.toNat d s
  else if (tkB s d).2 then (Ae, tkB s d)
  else (⟨negM P (Ci N), nm, (lnF N v P d (tkB s d)).1, 0, (lnF N v P d (tkB s d)).2.1 ++ (fmL (N == 7) args P (d - 1) (lnF N v P d (tkB s d)).2.2).1⟩, (fmL (N == 7) args P (d - 1) (lnF N v P d (tkB s d)).2.2).2) := by
 rw [fmB];rfl
mutual
def okN : Fml → Bool
 | .mk op _ v b args => (if op = 4 ∨ op = 13 ∨ op = 14 then decide (1 ≤ args.length) else true) && decide (0 ≤ b) && decide (b ≤ 9) && decide (-9 ≤ v) && decide (v ≤ 9) && okNL args
def okNL : LF → Bool
 | [] => true
 | a :: l => okN a && okNL l
end
theorem okNL_mem : ∀ {l : LF} {a : Fml}, okNL l = true → a ∈ l → okN a = true
 | [], _, _, h => by cases h
 | b :: l, a, h, A => by
  simp only [okNL, Bool.and_eq_true] at h;rcases List.mem_cons.1 A with rfl | A
  ·exact h.1
  ·exact okNL_mem h.2 A
theorem okN_parts {N v b : Int} {nm : LU} {args : LF} (h : okN (.mk N nm v b args) = true) : (N = 4 ∨ N = 13 ∨ N = 14 → 1 ≤ args.length) ∧ 0 ≤ b ∧ b ≤ 9 ∧ -9 ≤ v ∧ v ≤ 9 ∧ ∀ a ∈ args, okN a = true := by
 simp only [okN, Bool.and_eq_true, decide_eq_true_eq] at h;obtain ⟨⟨⟨⟨⟨X, W⟩, R⟩, w⟩, P⟩, c⟩ := h;refine ⟨fun h => by rw [if_pos h] at X; simpa using X, W, R, w, P, fun a H => okNL_mem c H⟩
set_option maxHeartbeats 4000000 in
theorem gform_ok (m : Nat) : ∀ (n : Nat) (w : World) (b o : Nat) (f : Fml) (P : Bool) (d : Int) (s : BS), dpF f ≤ n → szF f ≤ 1000 → PF (fun b => b ≠ m) w b o f → okN f = true → 0 ≤ d → d ≤ 1000 → bsOk s → BAt w m s → FnF m w b o P d s (fmB f P d s) := by
 intro n
 induction n with
 | zero => intro w b o f P d s hn; rw [BP] at hn; omega
 | succ n ih =>
 intro w b o f P d s hn hz hf hp hd b3 hs hb;unfold FnF;obtain ⟨aa, cc, h6, q0, q1, q2, q3, q4, qa⟩ := hf.all;obtain ⟨N, nm, v, bd, j⟩ := f;obtain ⟨p1, p2, p3, p4, p5, p7⟩ := okN_parts hp;have k0 := Bv j;rw [BP] at hn;rw [Bd] at hz;simp only [Fml.op, Fml.name, Fml.val, Fml.bound, Fml.args] at hn hz h6 q0 q1 q2 q3 q4 qa;have hbw := World.block_lt_of_cell? w _ q0;simp only at hbw;have j0 := hb.lt;have a4 : b ≠ m := hf.1;obtain ⟨l, ov⟩ := s;rw [fmB_eq];refine AG Tryz.func79 rfl Tryz.ntmps79 (go ?_);refine AQ (L := zero5) (fun D E => ?_);have z1 := E.size;have c1 := hb.E E.E O;have i0 := E.E.cell q0 O;have i4 := E.E.cell q4 O;have q31 := E.E.cell q3 O;refine go ?_;cases ov with
 | true =>
  rw [if_pos rfl];refine go ?_;refine AE (cs := zero5) rfl rfl rfl (AU rfl) ((E).D.E (Keep.refl [m] D) Dl) Dp (fun w9 q => ?_);refine go ?_;have z9 := (E).size;exact AT rfl rfl rfl q.D.cells ⟨((E).E.any.trans (Keep.refl [m] D) (fun _ h _ => h)).trans q.E (fun x h H => by simp at h; omega), (c1).E q.E Dl, FAt.leaf _ _ 0 [] 0 0⟩
 | false =>
 rw [if_neg Bool.false_ne_true];refine go ?_;by_cases h4 : N = 4
 ·rw [if_pos h4];obtain ⟨a, ha⟩ := gl (l := j) (k := 0) (p1 (.inl h4));obtain ⟨b', o', rfl, e7⟩ := qa 0 a ha;have b4 := List.mem_of_getElem? ha;have X := Ba b4;have h2 := Bq b4
  have he : fm0 j (!P) d (l, false) = fmB a (!P) d (l, false) := by
   cases j with
   | nil => cases ha
   | cons c l' => cases ha; rfl
  rw [he];have := p1 (.inl h4);refine go ?_;refine AC (ih D b' _ a (!P) d _ U U (e7.E E.E (fun _ _ => by simp)) (p7 a b4) hd b3 hs c1) rfl ?_;exact EP
 rw [if_neg h4];by_cases h3 : N = 3 ∧ P = true
 ·rw [if_pos h3];obtain ⟨f7, rfl⟩ := h3;refine go ?_;refine AC (gtake_ok D m (l, false) d c1 hs) rfl ?_;rintro _ w2 ⟨rfl, k2, a7⟩;obtain ⟨b0, c2⟩ := tk_ok (d := d) hs rfl;cases ht : (tkB (l, false) d).2 with
  | true =>
   exact Eh
  | false =>
  rw [if_neg Bool.false_ne_true];have c2 := c2 ht;refine go ?_;refine AC (gtake_ok w2 m _ (d - 1) a7 b0) rfl ?_;rintro _ w3 ⟨rfl, k3, f8⟩;obtain ⟨j7, j2⟩ := tk_ok (d := d - 1) b0 ht;have c5 : Keep [m] D w3 := k2.trans k3 (fun _ h _ => h);cases ht3 : (tkB (tkB (l, false) d) (d - 1)).2 with
  | true =>
   rw [if_pos rfl];refine go ?_;refine AE (cs := zero5) rfl rfl rfl (AU rfl) ((E).D.E c5 Dl) Dp (fun w9 q => ?_);refine go ?_;have z9 := (E).size;exact AT rfl rfl rfl q.D.cells ⟨((E).E.any.trans c5 (fun _ h _ => h)).trans q.E (fun x h H => by simp at h; omega), (f8).E q.E Dl, FAt.leaf _ _ 0 [] 0 0⟩
  | false =>
  rw [if_neg Bool.false_ne_true];have z2 := k2.size;have z3 := k3.size;refine go ?_;refine AW (rd 0 9 (.alt 9 (.read 10 (.alt 11 .done .stop)) .stop)) Al Dk (fun B kd ed => ⟨fun V => Keep [w.heap.size] B V, ?_, ?_⟩)
  ·exact Ep
  have e1 : ∀ (i : Nat) (u : Value), w.cell? ⟨b, i, none⟩ = some u → B.cell? ⟨b, i, none⟩ = some u := fun i u hu => kd.cell (c5.cell (E.E.cell hu O) Dx) O;have s1 : ∀ V, Keep [w.heap.size] B V → V.cell? ⟨b, o + 1, none⟩ = some (AI nm) := fun V e => e.cell (e1 _ _ q1) Dl;have s2 : ∀ V, Keep [w.heap.size] B V → V.cell? ⟨b, o + 2, none⟩ = some (iV v) := fun V e => e.cell (e1 _ _ q2) Dl;refine go ?_;refine D_E rfl ?_;refine AL (out := [iV 3, AI nm, iV v, iV 0, .slice none 0 0]) rfl U Dr (fun w4 n4 => ?_);refine wNl n4.E.any ?_;refine go ?_;refine D_E rfl ?_;have zd := kd.size;have z4 := n4.size;refine AE (cs := [iV 4, AI [], iV 0, iV 0, .slice (sm B.heap.size) 1 1]) rfl rfl rfl (AU rfl) (((E.D.E c5 Dl).E kd O).E n4.E O) Dp (fun w9 q => ?_);refine wNl (n4.E.any.trans q.E (fun _ h _ => h)) ?_;refine go ?_;have hF : FsAt (fun b => D.heap.size ≤ b) B [[iV 3, AI nm, iV v, iV 0, .slice none 0 0]] [⟨3, nm, v, 0, []⟩] := FsAt.one (FAt.leaf _ _ 3 nm v 0) rfl;obtain ⟨X, h2⟩ := FsAt.fresh (L := [[iV 3, AI nm, iV v, iV 0, .slice none 0 0]]) n4 hF U O;refine AT rfl rfl rfl q.D.cells ⟨?_, ((f8.E kd O).E n4.E O).E q.E Dl, ((FAt.node 4 [] 0 0 X h2).E q.E (fun y K A => by simp at A; omega)).mono fun y K => by omega⟩;exact ((E.E.any.trans c5 (fun _ h _ => h)).ext (kd.trans n4.E)).trans q.E (fun y K H => by simp at K; omega)
 rw [if_neg h3];refine mO1 ?_;refine mO1 ?_;refine mO1 ?_;repeat first | refine nx rfl ?_ | refine nf rfl ?_
 refine C_mid (α := Unit) (fun _ => [(0, pt m), (1, .pointer (some ⟨b, o, none⟩)), (2, .bool P), (3, iV d), (8, pt w.heap.size), (34, .bool false)]) (fun _ W => W = D) ?_ ?_
 ·by_cases f7 : N = 3
  ·have hneg : P = false := by
    cases P with
    | false => rfl
    | true => exact absurd ⟨f7, rfl⟩ h3
   subst hneg;exact Ew
  ·exact Ew
 rintro _ _ f1 e1;rw [e1];clear e1
 have g1 : ∀ {a : Fml} {b' o' : Nat}, j[0]? = some a → aa = some ⟨b', o', none⟩ → Fn Zp 124 [pt m, .pointer (some ⟨b, o, none⟩), iV bd, .bool P, iV d] D fun u w' => Keep [m] D w' ∧ BAt w' m (bdB N P (fm0 j P) bd.toNat d (l, false)).2 ∧ FAt (fun x => D.heap.size ≤ x) w' u (bdB N P (fm0 j P) bd.toNat d (l, false)).1 := fun {a b' o'} ha b7 => by
  have b4 := List.mem_of_getElem? ha;have X := Ba b4;have h2 := Bq b4;have h0 := (List.getElem?_eq_some_iff.1 ha).1;obtain ⟨b2, o2, e2, e7⟩ := qa 0 a ha;rw [b7] at e2;cases e2;have e : bd = ((bd.toNat : Nat) : Int) := by omega
  have he : fm0 j P = fmB a P := by
   cases j with
   | nil => cases ha
   | cons c l' => cases ha; rfl
  have hh := gbounded_ok m P N (fm0 j P) b o b' o' j.length cc D U i0 (by rw [← b7]; exact i4) a4 U (fun d s hs => fm0_ok j P d s hs) (fun W d s kW h0 b3 hs hb => by
   rw [he];exact ih W b' _ a P d s U U ((e7.E E.E (fun _ _ => by simp)).E kW (fun y K A => by simp at A; exact K A)) (p7 a b4) h0 b3 hs hb) bd.toNat D d (l, false) U (Keep.refl _ _) hd b3 hs c1
  rw [← e] at hh;exact hh
 by_cases h13 : N = 13 ∨ N = 14
 ·rw [if_pos h13];obtain ⟨a, ha⟩ := gl (l := j) (k := 0) (p1 (.inr h13));obtain ⟨b', o', b7, _⟩ := qa 0 a ha;have g0 := g1 ha b7;have step : ∀ (Q : Prop), Q → Q := fun _ h => h;rcases h13 with h13 | h13
  ·refine go ?_;refine AC g0 rfl ?_;exact EP
  ·refine go ?_;refine AC g0 rfl ?_;exact EP
 rw [if_neg h13];clear g1;have i8 : ¬ N = 13 := fun h => h13 (.inl h);have i9 : ¬ N = 14 := fun h => h13 (.inr h);refine go ?_;refine AC (gtake_ok D m (l, false) d c1 hs) rfl ?_;rintro _ w2 ⟨rfl, k2, a7⟩;obtain ⟨b0, c2⟩ := tk_ok (d := d) hs rfl;cases ht : (tkB (l, false) d).2 with
 | true =>
  exact Eh
 | false =>
 rw [if_neg Bool.false_ne_true];have c2 := c2 ht;have z2 := k2.size;refine go ?_;have j9 := z1;refine AW (rd 0 4 (rd 5 8 (.alt 4 (.read 13 (.alt 14 (.alt 15 .done .stop) .stop)) (.alt 14 (.alt 4 (.read 13 (.alt 15 .done .stop)) .stop) .stop)))) Al Dk (fun B kd ed => ⟨Ext B, ?_, ?_⟩)
 ·exact EZ
 have e0 : ∀ (i : Nat) (u : Value), w.cell? ⟨b, i, none⟩ = some u → B.cell? ⟨b, i, none⟩ = some u := fun i u hu => kd.cell (k2.cell (E.E.cell hu O) Dx) O;have s0 := e0 _ _ q0;have s1 := e0 _ _ q1;have s2 := e0 _ _ q2;refine go ?_;refine D_leaf (α := Unit) (.alt 15 .done .stop) (fun _ => [(0, pt m), (1, .pointer (some ⟨b, o, none⟩)), (2, .bool P), (3, iV d), (8, pt w.heap.size), (9, pt B.heap.size), (106, .agg #[iV (Ci N), AI nm, iV v, iV 0, .slice none 0 0])]) (fun _ W => New B W 36 zero5) ?_ (fun b1 => ?_)
 ·rintro _ f' W n4;refine D_E rfl ?_;refine AE (cs := [iV (Ci N), AI nm, iV v, iV 0, .slice none 0 0]) rfl rfl rfl (AU rfl) n4.D Dp (fun w5 p5 => ?_);refine AH ⟨Ext B, fun _ e => e, n4.E.E p5.E O, ?_⟩;clear s0 s1 s2;have zd := kd.size;have z4 := n4.size;have z5 := p5.size;obtain ⟨T, g2⟩ : ∃ T, T = B.heap.size := ⟨_, rfl⟩;have d0 : Blk w5 T 36 [iV (Ci N), AI nm, iV v, iV 0, .slice none 0 0] := by rw [g2]; exact p5.D
  have kd5 : Ext B w5 := n4.E.E p5.E O;have k15 : Keep [m] D w5 := (k2.ext kd).ext kd5;have g7 : Keep [m] w w5 := E.E.any.trans k15 (fun _ h _ => h);have e4 := (a7.E kd O).E kd5 O;have f5 := E.D.E k15 Dl;rw [← g2];have j1 : D.heap.size ≤ T := by omega
  have hc5l : T < w5.heap.size := d0.lt;clear n4 p5 kd5 a7 kd ed e0;refine go ?_
  refine C_mid (α := Unit) (fun _ => [(0, pt m), (1, .pointer (some ⟨b, o, none⟩)), (2, .bool P), (3, iV d), (8, pt w.heap.size), (9, pt T)])
   (fun _ W => Keep [m] w W ∧ BAt W m (tkB (l, false) d) ∧ Blk W T 36 [iV (negM P (Ci N)), AI nm, iV v, iV 0, .slice none 0 0] ∧ Blk W w.heap.size 36 zero5 ∧ T < W.heap.size) ?_ ?_
  ·cases P with
   | false =>
    refine go ?_;exact Aw () ag ⟨g7, e4, d0, f5, hc5l⟩
   | true =>
    refine go ?_;refine AC (dual_ok w5 (Ci N)) rfl ?_;rintro _ w5 ⟨rfl, rfl⟩;refine go ?_;refine AN (v := iV (dualM (Ci N))) rfl rfl rfl d0 O (fun w6 p6 => go ?_);exact Aw () ag ⟨g7.trans p6.E (fun x h H => by simp at h; omega), e4.E p6.E Dl, p6.D, f5.E p6.E Dl, by have := p6.size; omega⟩
  clear d0 e4 f5 k15;rintro _ W f6 ⟨kW, a3, cW, zW, lW⟩;have g8 := kW.cell q0 Dx;have i3 := kW.cell q2 Dx;have zz : D.heap.size ≤ W.heap.size := by omega
  obtain ⟨a6, g5⟩ : ∃ a6, a6 = negM P (Ci N) := ⟨_, rfl⟩;rw [← g5] at cW ⊢;obtain ⟨ln, a5⟩ : ∃ ln, ln = lnF N v P d (tkB (l, false) d) := ⟨_, rfl⟩;rw [← a5];unfold lnF at a5;rw [← g5] at a5;repeat refine nx rfl ?_
  (refine AJ (Ag rfl (AK rfl (AF rfl (AM rfl Do ?_)))) <;> refine AH ?_)
  refine Q_then ?_
  refine C_mid (α := Value × List (LV)) (fun _ => [(0, pt m), (1, .pointer (some ⟨b, o, none⟩)), (2, .bool P), (3, iV d), (8, pt w.heap.size), (9, pt T)])
   (fun y W => Keep [m] w W ∧ BAt W m ln.2.2 ∧ Bld D W T a6 nm ln.1 0 ln.2.1 y.1 y.2 ∧ Blk W w.heap.size 36 zero5 ∧ T < W.heap.size) ?_ ?_
  ·by_cases d9 : N = 15
   ·have hl : ln = (Cp N v P, [], tkB (l, false) d) := by rw [a5, if_neg (by simp [isLn, d9])]
    rw [hl];cases P with
    | false =>
     exact El
    | true =>
     have hv : Cp N v true = 1 - v := by simp [Cp, isPs, d9]
     exact EW
   by_cases h16 : N = 16
   ·have hl : ln = (Cp N v P, [], tkB (l, false) d) := by rw [a5, if_neg (by simp [isLn, h16])]
    rw [hl];cases P with
    | false =>
     exact El
    | true =>
     have hv : Cp N v true = 1 - v := by simp [Cp, isPs, h16]
     exact EW
   by_cases h17 : N = 17
   ·have hl : ln = (Cp N v P, [], tkB (l, false) d) := by rw [a5, if_neg (by simp [isLn, h17])]
    rw [hl];cases P with
    | false =>
     exact El
    | true =>
     have hv : Cp N v true = 1 - v := by simp [Cp, isPs, h17]
     exact EW
   by_cases d7 : N = 11
   ·have hl : ln = lnB a6 (Cp N v P) d (tkB (l, false) d) := by rw [a5, if_pos (by simp [isLn, d7])]
    have hv : Cp N v P = v := by simp [Cp, isPs, d7]
    exact EK
   by_cases d8 : N = 12
   ·have hl : ln = lnB a6 (Cp N v P) d (tkB (l, false) d) := by rw [a5, if_pos (by simp [isLn, d8])]
    have hv : Cp N v P = v := by simp [Cp, isPs, d8]
    exact EK
   by_cases h18 : N = 18
   ·have hl : ln = lnB a6 (Cp N v P) d (tkB (l, false) d) := by rw [a5, if_pos (by simp [isLn, h18])]
    have hv : Cp N v P = v := by simp [Cp, isPs, h18]
    exact EK
   by_cases h19 : N = 19
   ·have hl : ln = lnB a6 (Cp N v P) d (tkB (l, false) d) := by rw [a5, if_pos (by simp [isLn, h19])]
    have hv : Cp N v P = v := by simp [Cp, isPs, h19]
    exact EK
   have hl : ln = (v, [], tkB (l, false) d) := by rw [a5, if_neg (by simp [isLn, d7, d8, h18, h19]), show Cp N v P = v by simp [Cp, isPs, d9, h16, h17]]
   rw [hl];refine go ?_;exact Aw (.slice none 0 0, []) ag ⟨kW, a3, Bld.start cW, zW, lW⟩
  clear a3 cW zW g8 i3;rintro ⟨v0, L0⟩ W0 f2 ⟨kW0, f9, d6, i5, h5⟩;simp only at d6;have f4 := kW0.cell q4 Dx;have k4 := kW0.size;obtain ⟨sl, e8⟩ : ∃ sl, sl = ln.2.2 := ⟨_, rfl⟩;obtain ⟨c7, d2⟩ : ∃ c7, c7 = ln.2.1 := ⟨_, rfl⟩;obtain ⟨vk, e9⟩ : ∃ vk, vk = ln.1 := ⟨_, rfl⟩
  have h1 : bsOk sl := by
   rw [e8, a5]
   split
   ·unfold lnB;have t2 := (tk_ok (d := d - 1) b0 ht).1
    split <;> exact t2
   ·exact b0
  have j6 : c7.length ≤ 1 := by
   rw [d2, a5]
   split
   ·unfold lnB
    split <;> simp
   ·simp
  rw [← e8] at f9 ⊢;rw [← d2, ← e9] at d6;rw [← d2, ← e9];clear a5 e8 d2 e9;refine go ?_
  refine Ah (α := Nat × Value × List (LV)) (fun y => [(0, pt m), (1, .pointer (some ⟨b, o, none⟩)), (2, .bool P), (3, iV d), (8, pt w.heap.size), (9, pt T), (139, iV (j.length : Int)), (140, iV (y.1 : Int))])
   (fun y W => y.1 ≤ j.length ∧ Keep [m] w W ∧ BAt W m (fmL (N == 7) (j.take y.1) P (d - 1) sl).2 ∧ Bld D W T a6 nm vk 0 (c7 ++ (fmL (N == 7) (j.take y.1) P (d - 1) sl).1) y.2.1 y.2.2 ∧ Blk W w.heap.size 36 zero5 ∧ T < W.heap.size) (fun y => j.length - y.1) (0, v0, L0) ag
   ⟨by simp, kW0, by simpa [fmL] using f9, by simpa [fmL] using d6, i5, h5⟩ ?_
  rintro ⟨k, v0, L0⟩ W fr ⟨hk, kW, a3, bW, zW, hcW⟩;simp only at hk kW a3 bW zW hcW;have f4 := kW.cell q4 Dx;have g8 := kW.cell q0 Dx;repeat refine nx rfl ?_
  by_cases H : k < j.length
  ·refine AJ (W_lssT rfl rfl U ?_);repeat refine nx rfl ?_
   refine AJ (Af rfl (Ac (Af rfl ?_)));repeat refine nx rfl ?_
   obtain ⟨x, hx⟩ := gl H;obtain ⟨d5, d3⟩ : ∃ d5, d5 = (P != (N == 7 && k == 0)) := ⟨_, rfl⟩;refine C_mid (α := Unit) (fun _ => [(0, pt m), (1, .pointer (some ⟨b, o, none⟩)), (2, .bool P), (3, iV d), (8, pt w.heap.size), (9, pt T), (10, iV (k : Int)), (11, .bool d5), (139, iV (j.length : Int)), (140, iV (k : Int))]) (fun _ W' => W' = W) ?_ ?_
   ·by_cases h7 : N = 7
    ·by_cases g4 : k = 0
     ·rw [d3, show (N == 7 && k == 0) = true by simp [h7, g4]];exact Ew
     ·rw [d3, show (N == 7 && k == 0) = false by simp [g4]];exact Ew
    ·rw [d3, show (N == 7 && k == 0) = false by simp [h7]];exact Ew
   rintro _ _ f3 e3;rw [e3];clear e3;obtain ⟨b', o', b7, h8⟩ := qa k x hx;subst b7;have e6 := List.mem_of_getElem? hx;have j3 := Ba e6;have k1 := Bq e6;obtain ⟨Rk, d1⟩ : ∃ Rk, Rk = fmL (N == 7) (j.take k) P (d - 1) sl := ⟨_, rfl⟩;have hRl : Rk.1.length = k := by rw [d1, fmL_len, List.length_take]; omega
   have h9 : bsOk Rk.2 := by rw [d1]; exact fmL_ok _ _ _ _ _ h1
   rw [← d1] at a3 bW;obtain ⟨rx, g6⟩ : ∃ rx, rx = fmB x (P != (N == 7 && k == 0)) (d - 1) Rk.2 := ⟨_, rfl⟩;have a9 := fmL_snoc j k x (N == 7) P (d - 1) sl hx;rw [← d1, ← g6] at a9;obtain ⟨R, b8⟩ : ∃ R, R = c7 ++ Rk.1 := ⟨_, rfl⟩;have j5 : R.length + 1 ≤ 1002 := by rw [b8, List.length_append, hRl]; omega
   rw [← b8] at bW
   have c4 : ∀ W, PF (fun b => b ≠ m) W b' (o' + k * 5) x → BAt W m Rk.2 → FnF m W b' (o' + k * 5) d5 (d - 1) Rk.2 rx := fun W hp hb => by
    rw [g6, d3];exact ih W b' _ x _ (d - 1) _ U U hp (p7 x e6) U U h9 hb
   refine go ?_;refine AW (.read 0 (rd 2 10 (.alt 1 (.read 13 (.alt 12 (.alt 14 (.alt 15 (.read 16 (.read 18 (.alt 17 (.alt 19 .done .stop) (.alt 19 (.alt 17 .done .stop) .stop)))) .stop) .stop) (.alt 14 (.alt 12 (.alt 15 (.read 16 (.read 18 (.alt 17 (.alt 19 .done .stop) (.alt 19 (.alt 17 .done .stop) .stop)))) .stop) .stop) .stop))) (.alt 12 (.alt 1 (.read 13 (.alt 14 (.alt 15 (.read 16 (.read 18 (.alt 17 (.alt 19 .done .stop) (.alt 19 (.alt 17 .done .stop) .stop)))) .stop) .stop)) (.alt 14 (.alt 1 (.read 13 (.alt 15 (.read 16 (.read 18 (.alt 17 (.alt 19 .done .stop) (.alt 19 (.alt 17 .done .stop) .stop)))) .stop)) .stop) .stop)) (.alt 14 (.alt 1 (.read 13 (.alt 12 (.alt 15 (.read 16 (.read 18 (.alt 17 (.alt 19 .done .stop) (.alt 19 (.alt 17 .done .stop) .stop)))) .stop) .stop)) (.alt 12 (.alt 1 (.read 13 (.alt 15 (.read 16 (.read 18 (.alt 17 (.alt 19 .done .stop) (.alt 19 (.alt 17 .done .stop) .stop)))) .stop)) .stop) .stop)) .stop))))) Al Dk (fun B kd ed => ⟨fun V => V.cell? ⟨b, o + 4, none⟩ = some (.slice (some ⟨b', o', none⟩) j.length cc), ?_, ?_⟩)
   ·exact kd.cell f4 O
   have ca : ∀ V : World, V.cell? ⟨b, o + 4, none⟩ = some (.slice (some ⟨b', o', none⟩) j.length cc) → V.cell? ⟨b, o + 4, none⟩ = some (.slice (some ⟨b', o', none⟩) j.length cc) := fun V e => e;refine go ?_;have b5 : Keep [m] w B := kW.ext kd;have r := bW.ext kd;have b9 := zW.E kd O;have k5 := kd.size;have b6 : Keep [m] B B := Keep.refl _ _;have c9 := a3.E kd O;have c0 := r.D;have swd : B.cell? ⟨b, o + 4, none⟩ = some (.slice (some ⟨b', o', none⟩) j.length cc) := kd.cell f4 O;have f0 : ∀ V, Keep [m] B V → PF (fun b => b ≠ m) V b' (o' + k * 5) x := fun V e => h8.E (b5.trans e (fun _ h _ => h)) (fun y K A => by simp at A; exact K A);have g9 := f0 B b6
   obtain ⟨vp, vc, rfl⟩ : ∃ p c, v0 = .slice p R.length c := by
    rcases r.own.2 with ⟨e, h0⟩ | ⟨g, i6, i7, e, _⟩
    ·exact ⟨none, 0, by rw [e, h0]⟩
    ·exact ⟨_, _, e⟩
   have a2 : ∀ g, (Value.slice vp R.length vc).ownBlock = some g → D.heap.size ≤ g ∧ g < B.heap.size ∧ g ≠ T := fun g z => ⟨(Ab r.own z).1, (Ab r.own z).2, r.ne g z⟩;have t : ∀ y ∈ (Value.slice vp R.length vc).ownBlock.toList, D.heap.size ≤ y ∧ y < B.heap.size ∧ y ≠ T := fun y K => a2 y (Option.mem_toList.1 K)
   refine D_leaf (α := Value × LV) (.read 16 (.read 18 (.alt 17 (.alt 19 .done .stop) (.alt 19 (.alt 17 .done .stop) .stop)))) (fun y => [(0, pt m), (1, .pointer (some ⟨b, o, none⟩)), (2, .bool P), (3, iV d), (8, pt w.heap.size), (9, pt T), (139, iV (j.length : Int)), (140, iV (k : Int)), (166, .agg y.2.toArray), (167, iV (R.length : Int)), (169, y.1)])
    (fun y V => Keep [m] w V ∧ BAt V m rx.2 ∧ Blk V T 36 [iV a6, AI nm, iV vk, iV 0, .slice vp R.length vc] ∧ V.ownsRow D.heap.size 36 5 y.1 (R.length + 1) (L0.flatten ++ zero5) ∧ y.2.length = 5 ∧ oneC y.2 ∧ (∀ g, y.1.ownBlock = some g → g ≠ T) ∧
     FAt (fun b => (D.heap.size ≤ b ∧ b ≠ T) ∧ y.1.ownBlock ≠ some b) V (.agg y.2.toArray) rx.1 ∧ FsAt (fun b => (D.heap.size ≤ b ∧ b ≠ T) ∧ y.1.ownBlock ≠ some b) V L0 R ∧ Blk V w.heap.size 36 zero5 ∧ T < V.heap.size) ?_ (fun b1 => ?_)
   ·rintro ⟨I, F⟩ f' V ⟨kV, bV, cV, oV, a0, a1, c3, fV, sV, zV, lV⟩;simp only at oV a0 a1 c3 fV sV;obtain ⟨g, cap8, M, rfl, z, bM, hM, i1, i2⟩ := own_set (cs := F) oV (by rw [r.fs.flat]) a0 cV c3;have j4 : g ≠ m := by omega
    have g3 : g ≠ T := c3 g rfl;have d4 := kV.cell q4 Dx;have j8 := kV.size;refine go ?_;refine D_A rfl ?_ (D_E rfl ?_)
    ·refine AE (o := 0 + R.length * 5) (cs := F) rfl rfl a0 a1 bM U (fun w8 p8 => ?_);refine wNl (p8.E.cell d4 Dl) ?_;refine D_E rfl ?_;refine AN rfl rfl rfl (cV.E p8.E (by simpa using g3.symm)) O (fun w9 q => ?_);refine wNl (q.E.cell (p8.E.cell d4 Dl) Dl) ?_;rw [Nat.zero_add] at p8;obtain ⟨kE, cE, oE⟩ := i1 w8 w9 p8 q;refine go ?_;have a9 := a9;refine ⟨(k + 1, .slice (sm g) _ cap8, L0 ++ [F]), ⟨rfl, ag, ⟨by simp only; omega, kV.trans kE (fun y K H => by simp at K; rcases K with rfl | rfl; omega; omega), ?_, ⟨cE, ?_, ?_, fun g' e5 => c3 g' e5⟩, zV.E kE Dl, by have := kE.size; omega⟩⟩, by simp only; omega⟩
     ·simp only;rw [a9];exact bV.E kE Dl
     ·simp only;rw [a9, ← List.append_assoc, ← b8];exact own_snoc oE
     ·exact FH
    ·refine AN rfl rfl rfl cV O (fun w8 p8 => ?_);refine wNl (p8.E.cell d4 Dl) ?_;refine D_E rfl ?_;refine AE (o := 0 + R.length * 5) (cs := F) rfl rfl a0 a1 (bM.E p8.E (by simpa using g3)) U (fun w9 q => ?_);refine wNl (q.E.cell (p8.E.cell d4 Dl) Dl) ?_;rw [Nat.zero_add] at q;obtain ⟨kE, cE, oE⟩ := i2 w8 w9 p8 q;refine go ?_;have a9 := a9;refine ⟨(k + 1, .slice (sm g) _ cap8, L0 ++ [F]), ⟨rfl, ag, ⟨by simp only; omega, kV.trans kE (fun y K H => by simp at K; rcases K with rfl | rfl; omega; omega), ?_, ⟨cE, ?_, ?_, fun g' e5 => c3 g' e5⟩, zV.E kE Dl, by have := kE.size; omega⟩⟩, by simp only; omega⟩
     ·simp only;rw [a9];exact bV.E kE Dl
     ·simp only;rw [a9, ← List.append_assoc, ← b8];exact own_snoc oE
     ·exact FH
   refine D_A rfl ?_ (D_A rfl ?_ (D_E rfl ?_))
   ·refine AM rfl (c0.cell (o := 4) rfl) ?_;refine wNl swd ?_;refine go ?_;refine D_A rfl ?_ (D_E rfl ?_)
    ·refine AC (c4 B g9 c9) rfl ?_;rintro u8 wA ⟨kc, bA, G⟩;obtain ⟨F, rfl, a0, a1⟩ := G.cells;obtain ⟨x0, x1, x2, x3, x4, rfl⟩ := AX a0;have kA : Keep [m] B wA := b6.trans kc (fun _ h _ => h);have cA := c0.E kc Dl;have sA := kc.cell swd Dx;have gA : FAt (fun b => B.heap.size ≤ b) wA (.agg [x0, x1, x2, x3, x4].toArray) rx.1 := G.mono fun y K => Nat.le_trans b6.size K;refine wNl sA ?_;refine D_E rfl ?_;refine AL (out := zero5) rfl U Dr (fun wB C => ?_);have kB : Keep [m] B wB := kA.ext C.E;have cB := cA.E C.E O;have bB := bA.E C.E O;have sB := C.E.cell sA O;have oz := C.own (n := 1) (size := 5) rfl Dq (Nat.le_refl _);refine wNl sB ?_;have gB := gA.E C.E (fun _ _ => by simp);refine D_E rfl ?_;refine Ak (ok := AZ) (v := .slice vp R.length vc) rfl rfl (Ad r.own kB (fun g z A => by have := (Ab r.own z).1; simp at A; omega)) (AV (oz) fun _ _ => trivial) U rfl rfl (AU rfl) U U EB (fun I w8 S => ?_);refine wNl (S.E.cell sB (fun K => by have := (t _ K).1; omega)) ?_;have zk := kB.size
     have Z : ∀ g, I.ownBlock = some g → D.heap.size ≤ g ∧ g ≠ T ∧ ((Value.slice vp R.length vc).ownBlock = some g ∨ wB.heap.size ≤ g) := fun g z => by
      rcases S.D with e | e
      ·rw [e] at z; exact ⟨(a2 g z).1, (a2 g z).2.2, .inl z⟩
      ·rw [e] at z; obtain rfl := Option.some.inj z; exact ⟨by omega, by omega, .inr (Nat.le_refl _)⟩
     exact b1 (I, [x0, x1, x2, x3, x4]) _ _ ag ⟨(b5.trans kB (fun _ h _ => h)).trans S.E (fun y K H => by have := (t y K).1; omega), bB.E S.E (fun K => by have := (t _ K).1; omega), cB.E S.E (fun K => (t _ K).2.2 rfl), S.own, rfl, a1, (fun g z => (Z g z).2.1),
      (gB.lt.E S.E (fun y K A => by have := (t y A).2.1; have := K.1; omega)).mono fun y K => ⟨⟨by have := K.1; omega, by have := K.1; omega⟩, fun e => by have X := (Z y e).2.2; have h2 := K.1; have h3 := K.2; rcases X with X | X; have := (a2 y X).2.1; omega; omega⟩,
      ((r.fs.lt.E kB (fun y K A => by have := K.1.1.1; simp at A; omega)).E S.E (fun y K A => K.1.2 (Option.mem_toList.1 A))).mono fun y K => ⟨K.1.1, fun e => by have X := (Z y e).2.2; have h2 := K.2; rcases X with X | X; exact K.1.2 X; omega⟩,
      (b9.E kB Dl).E S.E (fun K => by have := (t _ K).1; omega), by have := S.E.size; omega⟩
    ·refine AL (out := zero5) rfl U Dr (fun wA C => ?_);have kA : Keep [m] B wA := b6.ext C.E;have cA := c0.E C.E O;have bA := c9.E C.E O;have sA := C.E.cell swd O;have oz := C.own (n := 1) (size := 5) rfl Dq (Nat.le_refl _);refine wNl sA ?_;have xA := f0 wA kA;refine D_E rfl ?_;refine AC (c4 wA xA bA) rfl ?_;rintro u8 wB ⟨kc, bB, G⟩;obtain ⟨F, rfl, a0, a1⟩ := G.cells;obtain ⟨x0, x1, x2, x3, x4, rfl⟩ := AX a0;have kB : Keep [m] B wB := kA.trans kc (fun _ h _ => h);have cB := cA.E kc Dl;have sB := kc.cell sA Dx;have gB : FAt (fun b => B.heap.size ≤ b) wB (.agg [x0, x1, x2, x3, x4].toArray) rx.1 := G.mono fun y K => Nat.le_trans kA.size K;refine wNl sB ?_;have c6 := Ad oz kc (fun g z A => by have := (Ab oz z).1; simp at A; omega);refine D_E rfl ?_;refine Ak (ok := AZ) (v := .slice vp R.length vc) rfl rfl (Ad r.own kB (fun g z A => by have := (Ab r.own z).1; simp at A; omega)) (AV (c6) fun _ _ => trivial) U rfl rfl (AU rfl) U U EB (fun I w8 S => ?_);refine wNl (S.E.cell sB (fun K => by have := (t _ K).1; omega)) ?_;have zk := kB.size
     have Z : ∀ g, I.ownBlock = some g → D.heap.size ≤ g ∧ g ≠ T ∧ ((Value.slice vp R.length vc).ownBlock = some g ∨ wB.heap.size ≤ g) := fun g z => by
      rcases S.D with e | e
      ·rw [e] at z; exact ⟨(a2 g z).1, (a2 g z).2.2, .inl z⟩
      ·rw [e] at z; obtain rfl := Option.some.inj z; exact ⟨by omega, by omega, .inr (Nat.le_refl _)⟩
     exact b1 (I, [x0, x1, x2, x3, x4]) _ _ ag ⟨(b5.trans kB (fun _ h _ => h)).trans S.E (fun y K H => by have := (t y K).1; omega), bB.E S.E (fun K => by have := (t _ K).1; omega), cB.E S.E (fun K => (t _ K).2.2 rfl), S.own, rfl, a1, (fun g z => (Z g z).2.1),
      (gB.lt.E S.E (fun y K A => by have := (t y A).2.1; have := K.1; omega)).mono fun y K => ⟨⟨by have := K.1; omega, by have := K.1; omega⟩, fun e => by have X := (Z y e).2.2; have h2 := K.1; have h3 := K.2; rcases X with X | X; have := (a2 y X).2.1; omega; omega⟩,
      ((r.fs.lt.E kB (fun y K A => by have := K.1.1.1; simp at A; omega)).E S.E (fun y K A => K.1.2 (Option.mem_toList.1 A))).mono fun y K => ⟨K.1.1, fun e => by have X := (Z y e).2.2; have h2 := K.2; rcases X with X | X; exact K.1.2 X; omega⟩,
      (b9.E kB Dl).E S.E (fun K => by have := (t _ K).1; omega), by have := S.E.size; omega⟩
   ·refine AC (c4 B g9 c9) rfl ?_;rintro u8 wA ⟨kc, bA, G⟩;obtain ⟨F, rfl, a0, a1⟩ := G.cells;obtain ⟨x0, x1, x2, x3, x4, rfl⟩ := AX a0;have kA : Keep [m] B wA := b6.trans kc (fun _ h _ => h);have cA := c0.E kc Dl;have sA := kc.cell swd Dx;have gA : FAt (fun b => B.heap.size ≤ b) wA (.agg [x0, x1, x2, x3, x4].toArray) rx.1 := G.mono fun y K => Nat.le_trans b6.size K;refine wNl sA ?_;refine D_A rfl ?_ (D_E rfl ?_)
    ·refine AM rfl (cA.cell (o := 4) rfl) ?_;refine wNl sA ?_;refine go ?_;refine D_E rfl ?_;refine AL (out := zero5) rfl U Dr (fun wB C => ?_);have kB : Keep [m] B wB := kA.ext C.E;have cB := cA.E C.E O;have bB := bA.E C.E O;have sB := C.E.cell sA O;have oz := C.own (n := 1) (size := 5) rfl Dq (Nat.le_refl _);refine wNl sB ?_;have gB := gA.E C.E (fun _ _ => by simp);refine D_E rfl ?_;refine Ak (ok := AZ) (v := .slice vp R.length vc) rfl rfl (Ad r.own kB (fun g z A => by have := (Ab r.own z).1; simp at A; omega)) (AV (oz) fun _ _ => trivial) U rfl rfl (AU rfl) U U EB (fun I w8 S => ?_);refine wNl (S.E.cell sB (fun K => by have := (t _ K).1; omega)) ?_;have zk := kB.size
     have Z : ∀ g, I.ownBlock = some g → D.heap.size ≤ g ∧ g ≠ T ∧ ((Value.slice vp R.length vc).ownBlock = some g ∨ wB.heap.size ≤ g) := fun g z => by
      rcases S.D with e | e
      ·rw [e] at z; exact ⟨(a2 g z).1, (a2 g z).2.2, .inl z⟩
      ·rw [e] at z; obtain rfl := Option.some.inj z; exact ⟨by omega, by omega, .inr (Nat.le_refl _)⟩
     exact b1 (I, [x0, x1, x2, x3, x4]) _ _ ag ⟨(b5.trans kB (fun _ h _ => h)).trans S.E (fun y K H => by have := (t y K).1; omega), bB.E S.E (fun K => by have := (t _ K).1; omega), cB.E S.E (fun K => (t _ K).2.2 rfl), S.own, rfl, a1, (fun g z => (Z g z).2.1),
      (gB.lt.E S.E (fun y K A => by have := (t y A).2.1; have := K.1; omega)).mono fun y K => ⟨⟨by have := K.1; omega, by have := K.1; omega⟩, fun e => by have X := (Z y e).2.2; have h2 := K.1; have h3 := K.2; rcases X with X | X; have := (a2 y X).2.1; omega; omega⟩,
      ((r.fs.lt.E kB (fun y K A => by have := K.1.1.1; simp at A; omega)).E S.E (fun y K A => K.1.2 (Option.mem_toList.1 A))).mono fun y K => ⟨K.1.1, fun e => by have X := (Z y e).2.2; have h2 := K.2; rcases X with X | X; exact K.1.2 X; omega⟩,
      (b9.E kB Dl).E S.E (fun K => by have := (t _ K).1; omega), by have := S.E.size; omega⟩
    ·refine AL (out := zero5) rfl U Dr (fun wB C => ?_);have kB : Keep [m] B wB := kA.ext C.E;have cB := cA.E C.E O;have bB := bA.E C.E O;have sB := C.E.cell sA O;have oz := C.own (n := 1) (size := 5) rfl Dq (Nat.le_refl _);refine wNl sB ?_;have gB := gA.E C.E (fun _ _ => by simp);refine D_E rfl ?_;refine AM rfl (cB.cell (o := 4) rfl) ?_;refine wNl sB ?_;refine go ?_;refine D_E rfl ?_;refine Ak (ok := AZ) (v := .slice vp R.length vc) rfl rfl (Ad r.own kB (fun g z A => by have := (Ab r.own z).1; simp at A; omega)) (AV (oz) fun _ _ => trivial) U rfl rfl (AU rfl) U U EB (fun I w8 S => ?_);refine wNl (S.E.cell sB (fun K => by have := (t _ K).1; omega)) ?_;have zk := kB.size
     have Z : ∀ g, I.ownBlock = some g → D.heap.size ≤ g ∧ g ≠ T ∧ ((Value.slice vp R.length vc).ownBlock = some g ∨ wB.heap.size ≤ g) := fun g z => by
      rcases S.D with e | e
      ·rw [e] at z; exact ⟨(a2 g z).1, (a2 g z).2.2, .inl z⟩
      ·rw [e] at z; obtain rfl := Option.some.inj z; exact ⟨by omega, by omega, .inr (Nat.le_refl _)⟩
     exact b1 (I, [x0, x1, x2, x3, x4]) _ _ ag ⟨(b5.trans kB (fun _ h _ => h)).trans S.E (fun y K H => by have := (t y K).1; omega), bB.E S.E (fun K => by have := (t _ K).1; omega), cB.E S.E (fun K => (t _ K).2.2 rfl), S.own, rfl, a1, (fun g z => (Z g z).2.1),
      (gB.lt.E S.E (fun y K A => by have := (t y A).2.1; have := K.1; omega)).mono fun y K => ⟨⟨by have := K.1; omega, by have := K.1; omega⟩, fun e => by have X := (Z y e).2.2; have h2 := K.1; have h3 := K.2; rcases X with X | X; have := (a2 y X).2.1; omega; omega⟩,
      ((r.fs.lt.E kB (fun y K A => by have := K.1.1.1; simp at A; omega)).E S.E (fun y K A => K.1.2 (Option.mem_toList.1 A))).mono fun y K => ⟨K.1.1, fun e => by have X := (Z y e).2.2; have h2 := K.2; rcases X with X | X; exact K.1.2 X; omega⟩,
      (b9.E kB Dl).E S.E (fun K => by have := (t _ K).1; omega), by have := S.E.size; omega⟩
   ·refine AL (out := zero5) rfl U Dr (fun wA C => ?_);have kA : Keep [m] B wA := b6.ext C.E;have cA := c0.E C.E O;have bA := c9.E C.E O;have sA := C.E.cell swd O;have oz := C.own (n := 1) (size := 5) rfl Dq (Nat.le_refl _);refine wNl sA ?_;have xA := f0 wA kA;refine D_A rfl ?_ (D_E rfl ?_)
    ·refine AM rfl (cA.cell (o := 4) rfl) ?_;refine wNl sA ?_;refine go ?_;refine D_E rfl ?_;refine AC (c4 wA xA bA) rfl ?_;rintro u8 wB ⟨kc, bB, G⟩;obtain ⟨F, rfl, a0, a1⟩ := G.cells;obtain ⟨x0, x1, x2, x3, x4, rfl⟩ := AX a0;have kB : Keep [m] B wB := kA.trans kc (fun _ h _ => h);have cB := cA.E kc Dl;have sB := kc.cell sA Dx;have gB : FAt (fun b => B.heap.size ≤ b) wB (.agg [x0, x1, x2, x3, x4].toArray) rx.1 := G.mono fun y K => Nat.le_trans kA.size K;refine wNl sB ?_;have c6 := Ad oz kc (fun g z A => by have := (Ab oz z).1; simp at A; omega);refine D_E rfl ?_;refine Ak (ok := AZ) (v := .slice vp R.length vc) rfl rfl (Ad r.own kB (fun g z A => by have := (Ab r.own z).1; simp at A; omega)) (AV (c6) fun _ _ => trivial) U rfl rfl (AU rfl) U U EB (fun I w8 S => ?_);refine wNl (S.E.cell sB (fun K => by have := (t _ K).1; omega)) ?_;have zk := kB.size
     have Z : ∀ g, I.ownBlock = some g → D.heap.size ≤ g ∧ g ≠ T ∧ ((Value.slice vp R.length vc).ownBlock = some g ∨ wB.heap.size ≤ g) := fun g z => by
      rcases S.D with e | e
      ·rw [e] at z; exact ⟨(a2 g z).1, (a2 g z).2.2, .inl z⟩
      ·rw [e] at z; obtain rfl := Option.some.inj z; exact ⟨by omega, by omega, .inr (Nat.le_refl _)⟩
     exact b1 (I, [x0, x1, x2, x3, x4]) _ _ ag ⟨(b5.trans kB (fun _ h _ => h)).trans S.E (fun y K H => by have := (t y K).1; omega), bB.E S.E (fun K => by have := (t _ K).1; omega), cB.E S.E (fun K => (t _ K).2.2 rfl), S.own, rfl, a1, (fun g z => (Z g z).2.1),
      (gB.lt.E S.E (fun y K A => by have := (t y A).2.1; have := K.1; omega)).mono fun y K => ⟨⟨by have := K.1; omega, by have := K.1; omega⟩, fun e => by have X := (Z y e).2.2; have h2 := K.1; have h3 := K.2; rcases X with X | X; have := (a2 y X).2.1; omega; omega⟩,
      ((r.fs.lt.E kB (fun y K A => by have := K.1.1.1; simp at A; omega)).E S.E (fun y K A => K.1.2 (Option.mem_toList.1 A))).mono fun y K => ⟨K.1.1, fun e => by have X := (Z y e).2.2; have h2 := K.2; rcases X with X | X; exact K.1.2 X; omega⟩,
      (b9.E kB Dl).E S.E (fun K => by have := (t _ K).1; omega), by have := S.E.size; omega⟩
    ·refine AC (c4 wA xA bA) rfl ?_;rintro u8 wB ⟨kc, bB, G⟩;obtain ⟨F, rfl, a0, a1⟩ := G.cells;obtain ⟨x0, x1, x2, x3, x4, rfl⟩ := AX a0;have kB : Keep [m] B wB := kA.trans kc (fun _ h _ => h);have cB := cA.E kc Dl;have sB := kc.cell sA Dx;have gB : FAt (fun b => B.heap.size ≤ b) wB (.agg [x0, x1, x2, x3, x4].toArray) rx.1 := G.mono fun y K => Nat.le_trans kA.size K;refine wNl sB ?_;have c6 := Ad oz kc (fun g z A => by have := (Ab oz z).1; simp at A; omega);refine D_E rfl ?_;refine AM rfl (cB.cell (o := 4) rfl) ?_;refine wNl sB ?_;refine go ?_;refine D_E rfl ?_;refine Ak (ok := AZ) (v := .slice vp R.length vc) rfl rfl (Ad r.own kB (fun g z A => by have := (Ab r.own z).1; simp at A; omega)) (AV (c6) fun _ _ => trivial) U rfl rfl (AU rfl) U U EB (fun I w8 S => ?_);refine wNl (S.E.cell sB (fun K => by have := (t _ K).1; omega)) ?_;have zk := kB.size
     have Z : ∀ g, I.ownBlock = some g → D.heap.size ≤ g ∧ g ≠ T ∧ ((Value.slice vp R.length vc).ownBlock = some g ∨ wB.heap.size ≤ g) := fun g z => by
      rcases S.D with e | e
      ·rw [e] at z; exact ⟨(a2 g z).1, (a2 g z).2.2, .inl z⟩
      ·rw [e] at z; obtain rfl := Option.some.inj z; exact ⟨by omega, by omega, .inr (Nat.le_refl _)⟩
     exact b1 (I, [x0, x1, x2, x3, x4]) _ _ ag ⟨(b5.trans kB (fun _ h _ => h)).trans S.E (fun y K H => by have := (t y K).1; omega), bB.E S.E (fun K => by have := (t _ K).1; omega), cB.E S.E (fun K => (t _ K).2.2 rfl), S.own, rfl, a1, (fun g z => (Z g z).2.1),
      (gB.lt.E S.E (fun y K A => by have := (t y A).2.1; have := K.1; omega)).mono fun y K => ⟨⟨by have := K.1; omega, by have := K.1; omega⟩, fun e => by have X := (Z y e).2.2; have h2 := K.1; have h3 := K.2; rcases X with X | X; have := (a2 y X).2.1; omega; omega⟩,
      ((r.fs.lt.E kB (fun y K A => by have := K.1.1.1; simp at A; omega)).E S.E (fun y K A => K.1.2 (Option.mem_toList.1 A))).mono fun y K => ⟨K.1.1, fun e => by have X := (Z y e).2.2; have h2 := K.2; rcases X with X | X; exact K.1.2 X; omega⟩,
      (b9.E kB Dl).E S.E (fun K => by have := (t _ K).1; omega), by have := S.E.size; omega⟩
  ·obtain rfl : k = j.length := by omega
   rw [List.take_length] at a3 bW;have bf := bW.D;refine go ?_;refine AE (cs := [iV a6, AI nm, iV vk, iV 0, v0]) rfl rfl rfl ?_ zW Dp (fun w9 q => ?_)
   ·intro u hu;simp at hu;rcases hu with rfl | rfl | rfl | rfl | rfl <;> first | rfl | exact Cs bW.own
   refine go ?_;exact AT rfl rfl rfl q.D.cells ⟨kW.trans q.E (fun y K H => by simp at K; omega), a3.E q.E Dl, (bW.fin.E q.E (fun y K A => by have := K.1; simp at A; omega)).mono fun y K => by have := K.1; omega⟩
 refine D_A rfl ?_ (D_E rfl ?_)
 ·refine AC (full_ok B N) rfl ?_;rintro _ _ ⟨rfl, rfl⟩;refine wNl (Ext.refl _) ?_;refine go ?_;refine D_E rfl ?_;refine AQ (L := zero5) (fun w4 n4 => ?_);refine wNl n4.E ?_;exact b1 () _ _ ag n4
 ·refine AQ (L := zero5) (fun w4 n4 => ?_);refine wNl n4.E ?_;refine D_E rfl ?_;refine AC (full_ok w4 N) rfl ?_;rintro _ _ ⟨rfl, rfl⟩;refine wNl n4.E ?_;refine go ?_;exact b1 () _ _ ag n4
theorem shaped_ok9 {N v b : Int} {nm : LU} {n : Nat} (h : Bp N nm v b n = true) : (N = 4 ∨ N = 13 ∨ N = 14 → 1 ≤ n) ∧ 0 ≤ b ∧ b ≤ 9 ∧ -9 ≤ v ∧ v ≤ 9 := by
 simp only [Bp, Bool.and_eq_true, decide_eq_true_eq, Ar] at h;obtain ⟨⟨⟨⟨⟨⟨⟨_, _⟩, R⟩, w⟩, P⟩, W⟩, m⟩, _⟩ := h;refine ⟨fun f => ?_, W, ?_, by omega, ?_⟩
 ·rcases f with rfl | rfl | rfl <;> (simp at R; omega)
 ·split at m <;> omega
 ·split at P
  ·omega
  ·split at P <;> omega
theorem okN_mk {N v b : Int} {nm : LU} {args : LF} (h : Bp N nm v b args.length = true) (H : okNL args = true) : okN (.mk N nm v b args) = true := by
 obtain ⟨X, W, R, w, P⟩ := shaped_ok9 h;simp only [okN, Bool.and_eq_true, decide_eq_true_eq];refine ⟨⟨⟨⟨⟨?_, W⟩, R⟩, w⟩, P⟩, H⟩
 split
 ·rename_i h; simpa using X h
 ·rfl
theorem okNL_of : ∀ {l : LF}, (∀ a ∈ l, okN a = true) → okNL l = true
 | [], _ => rfl
 | a :: l, h => by rw [okNL, h a O, okNL_of fun c T => h c Dw]; rfl
theorem okN_of : ∀ (n : Nat) (f : Fml) (i : Bool), szF f ≤ n → n ≤ 1000000 → (DW i f).all (fun x => De x.1) = true → okN f = true
 | 0, f, i, hz, _, _ => by rw [Bd] at hz; omega
 | n + 1, .mk op nm v b args, i, hz, hn, h => by
  rw [Bd] at hz;have C : szL args + 1 ≤ n + 1 := hz
  have M : ∀ (l : LF) (j : Bool), (∀ a ∈ l, a ∈ args) → (C8 j l).all (fun x => De x.1) = true → ∀ a ∈ l, okN a = true := by
   intro l
   induction l with
   | nil => intro j _ _ a H; cases H
   | cons a l ih =>
    intro j A h;have X := Bq (A a O);rw [C8, List.all_append, Bool.and_eq_true] at h;intro c T;rcases List.mem_cons.1 T with rfl | T
    ·exact okN_of n c j U U h.1
    ·exact ih j (fun c T => A c Dw) h.2 c T
  rw [DW, List.all_cons, Bool.and_eq_true] at h;have X := h.1;simp only at X;rw [shapeF_eq _ (by simp only [Fml.args]; have := Bv args; omega)] at X;exact okN_mk X (okNL_of (M args _ (fun a h => h) h.2))
theorem valid_okN {f : Fml} (h : validG f = true) : szF f ≤ 60 ∧ dpF f ≤ 20 ∧ okN f = true := by
 simp only [validG, Bool.and_eq_true, decide_eq_true_eq] at h;exact ⟨h.1.1, h.1.2, okN_of _ f false (Nat.le_refl _) U h.2⟩
theorem bare_okN : ∀ (n : Nat) (f : Fml) (i : Bool), szF f ≤ n → BC i f = true → okN f = true
 | 0, f, i, hz, _ => by rw [Bd] at hz; omega
 | n + 1, .mk op nm v b args, i, hz, h => by
  rw [Bd] at hz;have C : szL args + 1 ≤ n + 1 := hz;obtain ⟨_, W, _, w⟩ := Bz h;refine okN_mk W (okNL_of fun a H => ?_);have := Bq H;exact bare_okN n a _ U (w a H)
theorem loose_okN {f : Fml} (h : BD f = true) : szF f ≤ 400 ∧ dpF f ≤ 60 ∧ BC false f = true ∧ okN f = true := by
 simp only [BD, Bool.and_eq_true, decide_eq_true_eq] at h;obtain ⟨⟨X, W⟩, R⟩ := h;rw [bareG_eq U] at R;exact ⟨X, W, R, bare_okN _ f false (Nat.le_refl _) R⟩
def CQ (f : Fml) : Fml × Int := if (validG f && layG f) = true then (if (fmB f false 20 (60, false)).2.2 = true then (Ae, 2) else ((fmB f false 20 (60, false)).1, 0)) else (Ae, 30)
def notR (f : Fml) : Fml := if BD f = true then (if (fmB f true 60 (400, false)).2.2 = true then Ae else (fmB f true 60 (400, false)).1) else Ae
theorem not_ok (w : World) (v : Value) (f : Fml) (C : FAt AZ w v f) (D : GF w) (hK : KY w) (hN : 10 ≤ w.heap.size) :
  Fn Zp 47 [v] w fun u w' => Ext w w' ∧ FAt (fun b => w.heap.size ≤ b) w' u (notR f) := by
 obtain ⟨c, rfl, a1, n⟩ := C.cells;obtain ⟨Z, x1, x2, j, i, rfl⟩ := AX a1;have G := C.lt;refine AG Tryz.func47 rfl Tryz.ntmps47 (go ?_);refine Aj (L := [Z, x1, x2, j, i]) rfl (fun w1 E => ?_);refine AQ (L := zero5) (fun p V => go ?_);have z1 := E.size;have z2 := V.size;have e := E.E.trans V.E;have k : Blk p w.heap.size 36 [Z, x1, x2, j, i] := E.D.E V.E O;have x := V.D;have a4 : PF AZ p w.heap.size 0 f := ⟨trivial, _, rfl, k.cells, (G.ext e).mono fun _ _ => trivial⟩;refine AC (loose_ok p _ _ f a4 (D.ext e) (hK.E e O) (Nat.le_trans hN e.size)) rfl ?_;rintro _ T ⟨rfl, m⟩;have z3 := m.size;unfold notR;cases hl : BD f with
 | false =>
  rw [if_neg Bool.false_ne_true];refine go ?_;refine AE (cs := zero5) rfl rfl rfl (AU rfl) (x.E m O) Dp (fun d a => go ?_);exact AT rfl rfl rfl a.D.cells ⟨(e.trans m).E a.E Dl, FAt.leaf _ _ 0 [] 0 0⟩
 | true =>
  rw [if_pos rfl];obtain ⟨hz, hd, a8, a3⟩ := loose_okN hl;refine go ?_;refine Aj (L := [iV 400, .bool false]) rfl (fun W K => ?_);have B := (e.trans m).trans K.E;have z5 := K.size;have M : Ext p W := m.trans K.E;have a0 := k.E M O;have a5 : PF (fun b => b ≠ T.heap.size) W w.heap.size 0 f := ⟨by omega, _, rfl, a0.cells, (G.ext B).mono fun b hb => by have := hb.2; omega⟩;refine go ?_;refine AC (gform_ok T.heap.size _ W w.heap.size 0 f true 60 (400, false) (Nat.le_refl _) U a5 a3 U U ⟨by simp, by simp, by simp⟩ K.D) rfl ?_;rintro u o ⟨S, A, X⟩;obtain ⟨t, rfl, a2, n⟩ := X.cells;obtain ⟨F, H, q, I, r, rfl⟩ := AX a2;obtain ⟨R, hR⟩ : ∃ R, R = fmB f true 60 (400, false) := ⟨_, rfl⟩;rw [← hR] at A X ⊢;obtain ⟨g, l, ov⟩ := R;simp only at A X ⊢;have z6 := S.size;refine AQ (L := zero5) (fun w7 P => ?_);refine AE (cs := [F, H, q, I, r]) rfl rfl rfl n P.D Dp (fun s Q => ?_);have h : Ext o s := P.E.E Q.E O;have a7 := A.E h O;have a6 : Blk s o.heap.size 36 [F, H, q, I, r] := Q.D;have z : Blk s w1.heap.size 36 zero5 := ((x.E M O).E S Dl).E h O;have N : Ext w s := (B.E S Dl).trans h;refine go ?_;cases ov with
  | true =>
   rw [if_pos rfl];refine go ?_;refine AE (cs := zero5) rfl rfl rfl (AU rfl) (z) Dp (fun d a => go ?_);exact AT rfl rfl rfl a.D.cells ⟨N.E a.E Dl, FAt.leaf _ _ 0 [] 0 0⟩
  | false =>
   rw [if_neg Bool.false_ne_true];refine go ?_;refine AE (cs := [F, H, q, I, r]) rfl rfl rfl n z Dp (fun d a => go ?_);exact AT rfl rfl rfl a.D.cells ⟨N.E a.E Dl, ((X.ext h).E a.E (fun y hy hm => by simp at hm; omega)).mono fun y hy => by omega⟩
theorem gkernel_ok (w : World) (v : Value) (f : Fml) (I : FAt AZ w v f) (D : GF w) (hK : KY w) (P : 10 ≤ w.heap.size) :
  Fn Zp 57 [v] w fun u w' => ∃ c : Value, u = .tuple #[c, iV (CQ f).2] ∧ Ext w w' ∧ FAt (fun b => w.heap.size ≤ b) w' c (CQ f).1 := by
 obtain ⟨c, rfl, a2, n⟩ := I.cells;obtain ⟨x0, x1, x2, x3, x4, rfl⟩ := AX a2;have a4 := I.lt;refine AG Tryz.func57 rfl Tryz.ntmps57 (go ?_);refine Aj (L := [x0, x1, x2, x3, x4]) rfl (fun w1 E => ?_);refine AQ (L := zero5) (fun m V => ?_);have z1 := E.size;have z2 := V.size;have i := E.E.trans V.E;have k : Blk m w.heap.size 36 [x0, x1, x2, x3, x4] := E.D.E V.E O;have B := V.D;refine go ?_;refine AC (fvalid_ok m _ f (I.ext i) (D.ext i) (hK.E i O) (Nat.le_trans P i.size)) rfl ?_;rintro _ w3 ⟨rfl, e⟩;have z3 := e.size;have z := i.trans e;have a7 := k.E e O;have T := B.E e O;unfold CQ;cases hv : validG f with
 | false =>
  rw [Bool.false_and, if_neg Bool.false_ne_true];refine go ?_;refine AE (cs := zero5) rfl rfl rfl (AU rfl) (T) Dp (fun d a => go ?_);exact Bm rfl rfl rfl a.D.cells ⟨_, rfl, z.E a.E Dl, FAt.leaf _ _ 0 [] 0 0⟩
 | true =>
 rw [Bool.true_and];obtain ⟨hz, hd, a5⟩ := valid_okN hv;refine go ?_;refine AC (flay_ok w3 _ f (I.ext z) (D.ext z) (Nat.le_trans P z.size) U) rfl ?_;rintro _ p ⟨rfl, j⟩;have z4 := j.size;have G := z.trans j;have a1 := T.E j O;cases hl : layG f with
 | false =>
  rw [if_neg Bool.false_ne_true];refine go ?_;refine AE (cs := zero5) rfl rfl rfl (AU rfl) (a1) Dp (fun d a => go ?_);exact Bm rfl rfl rfl a.D.cells ⟨_, rfl, G.E a.E Dl, FAt.leaf _ _ 0 [] 0 0⟩
 | true =>
  rw [if_pos rfl];refine go ?_;refine Aj (L := [iV 60, .bool false]) rfl (fun W K => ?_);have M := G.trans K.E;have z5 := K.size;have Q : Ext m W := (e.trans j).trans K.E;have a0 := k.E Q O;have a6 : PF (fun b => b ≠ p.heap.size) W w.heap.size 0 f := ⟨by omega, _, rfl, a0.cells, (a4.ext M).mono fun b hb => by have := hb.2; omega⟩;refine go ?_;refine AC (gform_ok p.heap.size _ W w.heap.size 0 f false 20 (60, false) (Nat.le_refl _) U a6 a5 U U ⟨by simp, by simp, by simp⟩ K.D) rfl ?_;rintro u o ⟨S, A, X⟩;obtain ⟨t, rfl, a3, n⟩ := X.cells;obtain ⟨F, H, q, r, x, rfl⟩ := AX a3;obtain ⟨R, hR⟩ : ∃ R, R = fmB f false 20 (60, false) := ⟨_, rfl⟩;rw [← hR] at A X ⊢;obtain ⟨g, l, ov⟩ := R;simp only at A X ⊢;have z6 := S.size;refine AQ (L := zero5) (fun w7 Z => ?_);refine AE (cs := [F, H, q, r, x]) rfl rfl rfl n Z.D Dp (fun s p8 => ?_);have h : Ext o s := Z.E.E p8.E O;have a9 := A.E h O;have a8 : Blk s o.heap.size 36 [F, H, q, r, x] := p8.D;have C : Blk s w1.heap.size 36 zero5 := ((B.E Q O).E S Dl).E h O;have N : Ext w s := (M.E S Dl).trans h;refine go ?_;cases ov with
  | true =>
   rw [if_pos rfl];refine go ?_;refine AE (cs := zero5) rfl rfl rfl (AU rfl) (C) Dp (fun d a => go ?_);exact Bm rfl rfl rfl a.D.cells ⟨_, rfl, N.E a.E Dl, FAt.leaf _ _ 0 [] 0 0⟩
  | false =>
   rw [if_neg Bool.false_ne_true];refine go ?_;refine AE (cs := [F, H, q, r, x]) rfl rfl rfl n C Dp (fun d a => go ?_);exact Bm rfl rfl rfl a.D.cells ⟨_, rfl, N.E a.E Dl, ((X.ext h).E a.E (fun y hy hm => by simp at hm; omega)).mono fun y hy => by omega⟩
end
def Ck (N : Int) (l : LF) : Fml := if l.all BD = true then (if BD (Di N (l.map Ao)) = true then Di N (l.map Ao) else Ae) else Ae
theorem sz_cons : ∀ {l : LF}, (∀ x ∈ l, BD x = true) → szL (l.map Ao) ≤ 400 * l.length
 | [], _ => by simp [szL]
 | a :: l, h => by
  obtain ⟨X, _, R⟩ := BG (h a O);have w := canon_sz (DL R);have P := sz_cons fun x V => h x (List.mem_cons_of_mem _ V);simp only [List.map_cons, szL, List.length_cons];omega
theorem connect_ok (w : World) (N : Int) (a8 : N = 5 ∨ N = 6) (a : Option Addr) (cap : Nat) (l : LF) (hl : SlAt fmlR AZ w (.slice a l.length cap) l) (hn : l.length ≤ 200 ∨ szL l ≤ 1000) (D : GF w) (hK : KY w) (hN : 10 ≤ w.heap.size) :
  Fn Zp 80 [iV N, .slice a l.length cap] w fun u w' => Ext w w' ∧ FAt (fun b => w.heap.size ≤ b ∧ Unm w' b) w' u (Ck N l) := by
 have hln := Bv l;refine AG Tryz.func80 rfl Tryz.ntmps80 (go ?_);refine AQ (L := zero5) (fun w1 E => ?_);have z1 := E.size;have b1 := E.D;refine go ?_
 refine Ah (α := Nat) (fun k => [(0, iV N), (1, .slice a l.length cap), (4, pt w.heap.size), (8, iV (l.length : Int)), (9, iV (k : Int))])
  (fun k W => k ≤ l.length ∧ Ext w W ∧ Blk W w.heap.size 36 zero5 ∧ (∀ x ∈ l.take k, BD x = true) ∧ w.heap.size < W.heap.size) (fun k => l.length - k) 0 ag ⟨by omega, E.E, b1, by simp, by omega⟩ ?_
 rintro k W fr ⟨hk, T, C, f, b2⟩;refine go ?_;by_cases r : k < l.length
 ·obtain ⟨b, o, x0, x1, x2, x3, x4, rfl, M, X⟩ := hl.c5 r;obtain ⟨x, c⟩ := gl r;rw [List.getD_eq_getElem?_getD, c] at X;have a7 := List.mem_of_getElem? c;refine go ?_;refine AC (loose_ok W b (o + k * 5) x ⟨trivial, _, rfl, M.E T O, X.ext T⟩ (D.ext T) (hK.E T O) (Nat.le_trans hN T.size)) rfl ?_;rintro _ m ⟨rfl, e⟩;have z := T.trans e;have z3 := e.size;cases hx3 : BD x with
  | false =>
   have A : Ck N l = Ae := by
    unfold Ck;rw [if_neg];intro h;rw [List.all_eq_true.1 h x a7] at hx3;cases hx3
   rw [A];refine go ?_;refine AE (cs := zero5) rfl rfl rfl (AU rfl) (C.E e O) Dp (fun w9 q => go ?_);exact AT rfl rfl rfl q.D.cells ⟨(z).E q.E mSx, (FAt.leaf _ _ 0 [] 0 0).mono fun _ h => h⟩
  | true =>
   refine go ?_;refine ⟨k + 1, ⟨rfl, ag, ⟨by omega, z, C.E e O, ?_, by omega⟩⟩, by omega⟩;intro y K;rw [List.take_add_one, c] at K;rcases List.mem_append.1 K with K | K
   ·exact f y K
   ·simp at K; rw [K]; exact hx3
 ·obtain rfl : k = l.length := by omega
  rw [List.take_length] at f
  have a6 : ArgC W a l := fun k x c V kV => by
   have r := (List.getElem?_eq_some_iff.1 c).1;obtain ⟨b, o, x0, x1, x2, x3, x4, rfl, M, X⟩ := hl.c5 r;rw [List.getD_eq_getElem?_getD, c] at X;obtain ⟨l1, l2, l3⟩ := BG (f x (List.mem_of_getElem? c));exact ⟨b, o, rfl, canon_ok 60 V b (o + k * 5) x l2 U ⟨trivial, _, rfl, M.E (T.trans kV) O, X.ext (T.trans kV)⟩ (DL l3)⟩
  refine go ?_;refine AC (canons_ok W l a cap U a6) rfl ?_;rintro _ Z ⟨R, g, rfl, a5⟩;have z2 := R.size
  have b3 : szL (l.map Ao) ≤ 80000 := by
   have h1 := sz_cons f;have h2 := szL_map Ao l fun x c => canon_sz (DL (BG (f x c)).2.2);omega
  have a3 : (l.map Ao).length = l.length := by simp
  have a9 : ∀ x ∈ l.map Ao, Sh x := fun x c => by
   obtain ⟨y, K, rfl⟩ := List.mem_map.1 c;exact cf_sh (canon_cf (DL (BG (f y K)).2.2))
  have hj := join_ok Z N a8 (sm g) l.length (l.map Ao) (fun b => (W.heap.size ≤ b ∧ Unm Z b) ∧ b < Z.heap.size) (by rw [a3]; exact SlAt.lt D9 a5) (fun b S => S.1.2) U a9;rw [a3] at hj;refine go ?_;refine AC hj rfl ?_;rintro u m ⟨e, Q⟩;have z3 := e.size
  have Q : FAt (fun b => W.heap.size ≤ b ∧ Unm m b) m u (Di N (l.map Ao)) := by
   obtain ⟨t, rfl, a2, n⟩ := Q.cells;exact Q.mono fun b S => S.elim (fun h => ⟨h.1.1, h.1.2.eq (e.block b h.2 O)⟩) fun h => ⟨by omega, h.2⟩
  obtain ⟨t, rfl, a2, n⟩ := Q.cells;obtain ⟨F, H, y2, I, v, rfl⟩ := AX a2;obtain ⟨G, a1⟩ : ∃ G, G = Di N (l.map Ao) := ⟨_, rfl⟩;rw [← a1] at Q
  have A : Ck N l = if BD G = true then G else Ae := by
   unfold Ck;rw [if_pos (List.all_eq_true.2 f), a1]
  rw [A];refine AQ (L := zero5) (fun w7 n7 => ?_);refine AE (cs := [F, H, y2, I, v]) rfl rfl rfl n n7.D Dp (fun s p8 => ?_);have B : Ext m s := n7.E.E p8.E O;have z8 := B.size;have a0 : Blk s m.heap.size 36 [F, H, y2, I, v] := p8.D;have p : Ext w s := ((T.trans R).trans e).trans B;have a4 := C.E ((R.trans e).trans B) O;have P := Q.unm B (fun _ _ => by simp);refine go ?_;refine AC (loose_ok s m.heap.size 0 G ⟨trivial, _, rfl, a0.cells, P.mono fun _ _ => trivial⟩ (D.ext p) (hK.E p O) (Nat.le_trans hN p.size)) rfl ?_;rintro _ w9 ⟨rfl, j⟩;have z9 := j.size;have d := a4.E j O;have b0 := a0.E j O;cases hGl : BD G with
  | false =>
   rw [if_neg Bool.false_ne_true];refine go ?_;refine AE (cs := zero5) rfl rfl rfl (AU rfl) (d) Dp (fun w9 q => go ?_);exact AT rfl rfl rfl q.D.cells ⟨(p.trans j).E q.E mSx, (FAt.leaf _ _ 0 [] 0 0).mono fun _ h => h⟩
  | true =>
   rw [if_pos rfl];refine go ?_;refine AE (cs := [F, H, y2, I, v]) rfl rfl rfl n d Dp (fun b4 i => go ?_);exact AT rfl rfl rfl i.D.cells ⟨(p.trans j).E i.E mSx, ((P.unm j (fun _ _ => by simp)).unm i.E (fun y K A => by rw [List.mem_singleton] at A; omega)).mono fun y K => ⟨by omega, K.2⟩⟩
theorem andor_ok (w : World) (N : Int) (a : Option Addr) (cap : Nat) (l : LF) (M : SlAt fmlR AZ w (.slice a l.length cap) l) (G : l.length ≤ 200 ∨ szL l ≤ 1000) (D : GF w) (h : KY w) (c : 10 ≤ w.heap.size) :
  Fn Zp 48 [.slice a l.length cap] w (fun u w' => Ext w w' ∧ FAt (fun b => w.heap.size ≤ b ∧ Unm w' b) w' u (Ck 5 l)) ∧ Fn Zp 49 [.slice a l.length cap] w fun u w' => Ext w w' ∧ FAt (fun b => w.heap.size ≤ b ∧ Unm w' b) w' u (Ck 6 l) := by
 constructor
 ·refine AG Tryz.func48 rfl Tryz.ntmps48 (go ?_);refine AQ (L := zero5) (fun Q E => go ?_);refine AC (connect_ok Q 5 (.inl rfl) a cap l (M.ext E.E) G (D.ext E.E) (h.E E.E O) (Nat.le_trans c E.E.size)) rfl ?_;exact Ec
 ·refine AG Tryz.func49 rfl Tryz.ntmps49 (go ?_);refine AQ (L := zero5) (fun Q E => go ?_);refine AC (connect_ok Q 6 (.inr rfl) a cap l (M.ext E.E) G (D.ext E.E) (h.E E.E O) (Nat.le_trans c E.E.size)) rfl ?_;exact Ec
theorem fm_over (f : Fml) (P : Bool) (d : Int) {s : BS} (h : s.2 = true) : (fmB f P d s).2.2 = true := by
 obtain ⟨N, o, v, b, j⟩ := f;rw [fmB_eq, h]; exact h
theorem fmL_over : ∀ (t : Bool) (l : LF) (P : Bool) (d : Int) {s : BS}, s.2 = true → (fmL t l P d s).2.2 = true
 | _, [], _, _, _, h => h
 | t, a :: l, P, d, s, h => fmL_over false l P d (fm_over a _ d h)
theorem loose_ops {N : Int} (h : looseO N = true) : Ci N = N ∧ isLn N = false ∧ (N == 7) = false ∧ ¬ (N = 13 ∨ N = 14) := by
 rcases Bj h with rfl | rfl | rfl | rfl | rfl | rfl | rfl | rfl | rfl | rfl | rfl | rfl <;> exact ⟨rfl, rfl, rfl, by decide⟩
def pm (P : Bool) (p : Prop) : Prop := if P = true then ¬ p else p
theorem yest_not (v : Int) (s : v = 0 ∨ v = 1) (p : Nat → Prop) (t : Nat) : yestS (1 - v) (fun i => ¬ p i) t ↔ ¬ yestS v p t := by
 cases t with
 | zero => show (1 - v = 1) ↔ ¬ (v = 1); omega
 | succ t => exact Iff.rfl
theorem since_not (v : Int) (s : v = 0 ∨ v = 1) (p q : Nat → Prop) (t : Nat) : BK (1 - v) (fun i => ¬ p i) (fun i => ¬ q i) t ↔ ¬ DJ v p q t := by
 rw [trig_not, Classical.not_not];rcases s with rfl | rfl <;> exact Iff.rfl
theorem trig_neg (v : Int) (s : v = 0 ∨ v = 1) (p q : Nat → Prop) (t : Nat) : DJ (1 - v) (fun i => ¬ p i) (fun i => ¬ q i) t ↔ ¬ BK v p q t := by
 have h := trig_not (1 - v) (fun i => ¬ p i) (fun i => ¬ q i) t;rw [h];have e : (fun i => ¬ ¬ p i) = p := by funext i; exact propext Classical.not_not
 have X : (fun i => ¬ ¬ q i) = q := by funext i; exact propext Classical.not_not
 rw [e, X];rcases s with rfl | rfl <;> exact Iff.rfl
theorem until_not (p q : Nat → Prop) (t : Nat) : CT (fun i => ¬ p i) (fun i => ¬ q i) t ↔ ¬ relS p q t := by rw [rel_not, Classical.not_not]
theorem rel_neg (p q : Nat → Prop) (t : Nat) : relS (fun i => ¬ p i) (fun i => ¬ q i) t ↔ ¬ CT p q t := by
 rw [rel_not];have e : (fun i => ¬ ¬ p i) = p := by funext i; exact propext Classical.not_not
 have X : (fun i => ¬ ¬ q i) = q := by funext i; exact propext Classical.not_not
 rw [e, X]
theorem op_neg (s : Wd) {N v : Int} {nm : LU} (h : N = 1 ∨ N = 2 ∨ N = 5 ∨ N = 6 ∨ N = 8 ∨ N = 9 ∨ N = 10 ∨ N = 15 ∨ N = 16 ∨ N = 17) (a : v = 0 ∨ v = 1) {ps qs : List (Nat → Prop)} (M : Ar N ps.length = true)
  (H : qs = ps.map fun p i => ¬ p i) (t : Nat) : opS s (negM true N) nm (Cp N v true) 0 qs t ↔ ¬ opS s N nm v 0 ps t := by
 subst H;rcases h with rfl | rfl | rfl | rfl | rfl | rfl | rfl | rfl | rfl | rfl
 ·simp [opS, opP, negM, dualM]
 ·simp [opS, opP, negM, dualM]
 ·simp only [opS, opP, negM, dualM];simp;exact ⟨fun ⟨_, ⟨p, hp, e⟩, h⟩ => ⟨p, hp, by rw [← e] at h; exact h⟩, fun ⟨p, hp, h⟩ => ⟨_, ⟨p, hp, rfl⟩, h⟩⟩
 ·simp [opS, opP, negM, dualM]
 ·obtain ⟨p, rfl⟩ : ∃ p, ps = [p] := by
   match ps, M with
   | [p], _ => exact ⟨p, rfl⟩
   | [], h => cases h
   | _ :: _ :: _, h => simp [Ar] at h
  simp [opS, opP, negM, dualM]
 all_goals
  first
  | (obtain ⟨p, q, rfl⟩ : ∃ p q, ps = [p, q] := (by match ps, M with | [p, q], _ => exact ⟨p, q, rfl⟩ | [], h => simp [Ar] at h | [_], h => simp [Ar] at h | _ :: _ :: _ :: _, h => simp [Ar] at h); first | exact rel_neg p q t | exact until_not p q t | exact trig_neg v a p q t | exact since_not v a p q t)
  | (obtain ⟨p, rfl⟩ : ∃ p, ps = [p] := (by match ps, M with | [p], _ => exact ⟨p, rfl⟩ | [], h => cases h | _ :: _ :: _, h => simp [Ar] at h); exact yest_not v a p t)
theorem op_pos (s : Wd) {N v : Int} {nm : LU} : opS s (negM false N) nm (Cp N v false) 0 = opS s N nm v 0 := by
 have e : Cp N v false = v := by simp [Cp]
 rw [e];rfl
mutual
theorem fm_sem (s : Wd) : ∀ (f : Fml) (i neg : Bool) (d : Int) (st : BS), BC i f = true → (fmB f neg d st).2.2 = false → ∀ t, sem s (fmB f neg d st).1 t ↔ pm neg (sem s f t)
 | .mk op nm v b args, i, neg, d, st, hb, ho, t => by
  obtain ⟨h1, h2, h3, h4⟩ := Bz hb;obtain ⟨e1, e2, e3, e4⟩ := loose_ops h1;have ha := Bg h2;have hsh := DL hb;obtain ⟨hb0, ⟨_, _, _, _, hneg⟩, _⟩ := sh_iff.1 hsh;rw [fmB_eq] at ho ⊢;by_cases c0 : st.2 = true
  ·rw [if_pos c0] at ho; rw [c0] at ho; cases ho
  rw [if_neg c0] at ho ⊢;by_cases c4 : op = 4
  ·rw [if_pos c4] at ho ⊢;subst c4;obtain ⟨a, rfl⟩ := C7 (l := args) (by simpa [Ar] using ha);rw [fm0] at ho ⊢;have hI := fm_sem s a _ (!neg) d st (h4 a O) ho t;rw [hI];have hn : sem s (.mk 4 nm v b [a]) t ↔ ¬ sem s a t := by simp [sem, semL, opS, opP]
   unfold pm;cases neg <;> simp [hn]
  rw [if_neg c4] at ho ⊢;by_cases c3 : op = 3 ∧ neg = true
  ·rw [if_pos c3] at ho ⊢;obtain ⟨rfl, rfl⟩ := c3;by_cases t1 : (tkB st d).2 = true
   ·rw [if_pos t1] at ho; rw [t1] at ho; cases ho
   rw [if_neg t1] at ho ⊢;by_cases t2 : (tkB (tkB st d) (d - 1)).2 = true
   ·rw [if_pos t2] at ho; rw [t2] at ho; cases ho
   rw [if_neg t2];simp [sem, semL, opS, opP, pm]
  rw [if_neg c3, if_neg e4] at ho ⊢;by_cases t1 : (tkB st d).2 = true
  ·rw [if_pos t1] at ho; rw [t1] at ho; cases ho
  rw [if_neg t1] at ho ⊢;have eL : lnF op v neg d (tkB st d) = (Cp op v neg, [], tkB st d) := by unfold lnF; rw [e2]; rfl
  rw [eL] at ho ⊢;rw [e3] at ho ⊢;rw [e1];simp only [List.nil_append] at ho ⊢;have hI := fmL_sem s args _ neg (d - 1) (tkB st d) (fun a ha => h4 a ha) ho;rw [sem_mk, sem_mk, hb0, hI];cases neg with
  | false =>
   rw [op_pos]
   have e : args.map (fun a t => pm false (sem s a t)) = args.map (sem s) := by
    refine List.map_congr_left fun a _ => ?_
    funext t
    simp [pm]
   rw [e];simp [pm]
  | true =>
   have hop : op = 1 ∨ op = 2 ∨ op = 5 ∨ op = 6 ∨ op = 8 ∨ op = 9 ∨ op = 10 ∨ op = 15 ∨ op = 16 ∨ op = 17 := by
    have := Bj h1;have : ¬ op = 3 := fun e => c3 ⟨e, rfl⟩;omega
   have hvv : v = 0 ∨ v = 1 := by
    simp only [Bp, Bool.and_eq_true, decide_eq_true_eq] at h2;obtain ⟨⟨⟨⟨⟨⟨⟨q1, q2⟩, q3⟩, q4⟩, q5⟩, q6⟩, q7⟩, q8⟩ := h2
    split at q5
    ·omega
    ·split at q5 <;> omega
   have := op_neg s (nm := nm) hop hvv (ps := args.map (sem s)) (qs := args.map fun a t => pm true (sem s a t)) (by rw [List.length_map]; exact ha) (by
    rw [List.map_map];refine List.map_congr_left fun a _ => ?_
    funext t
    simp [pm]) t
   rw [this];simp [pm]
theorem fmL_sem (s : Wd) : ∀ (l : LF) (i neg : Bool) (d : Int) (st : BS), (∀ a ∈ l, BC i a = true) → (fmL false l neg d st).2.2 = false → (fmL false l neg d st).1.map (sem s) = l.map fun a t => pm neg (sem s a t)
 | [], _, _, _, _, _, _ => rfl
 | a :: l, i, neg, d, st, hl, ho => by
  rw [fmL] at ho ⊢;have e : (neg != false) = neg := by simp
  simp only [e] at ho ⊢
  have h1 : (fmB a neg d st).2.2 = false := by
   cases h : (fmB a neg d st).2.2 with
   | false => rfl
   | true => rw [fmL_over false l neg d h] at ho; cases ho
  rw [List.map_cons, List.map_cons, fmL_sem s l i neg d _ (fun c hc => hl c (by simp [hc])) ho]
  congr 1
  funext t
  exact propext (fm_sem s a i neg d st (hl a O) h1 t)
end
theorem notR_sem (s : Wd) {f : Fml} (h : (notR f).op ≠ 0) (t : Nat) : BD f = true ∧ (sem s (notR f) t ↔ ¬ sem s f t) := by
 unfold notR at h ⊢;by_cases M : BD f = true
 ·rw [if_pos M] at h ⊢;by_cases a : (fmB f true 60 (400, false)).2.2 = true
  ·rw [if_pos a] at h; exact absurd rfl h
  ·rw [if_neg a];exact ⟨M, (fm_sem s f _ true 60 (400, false) (BG M).2.2 (by simpa using a) t).trans (by simp [pm])⟩
 ·rw [if_neg M] at h; exact absurd rfl h
theorem is_bd {k : LU → Int → Bool} {N : Int} {P : Bool} (I : N = 13 ∨ N = 14) {g : Int → BS → Fml × BS} (z : ∀ d s, isB k (g d s).1 = true) : ∀ (n : Nat) (d : Int) (s : BS), isB k (bdB N P g n d s).1 = true
 | 0, d, s => z d s
 | n + 1, d, s => by
  rw [bdB]
  split
  ·rfl
  split
  ·rfl
  split
  ·rfl
  have R : negM P (Ci N) ≠ 3 := by rcases I with rfl | rfl <;> cases P <;> decide
  refine is_iff.2 ⟨fun e => absurd e R, fun a H => ?_⟩;simp only [List.mem_cons, List.not_mem_nil, or_false] at H;rcases H with rfl | rfl
  ·exact z _ _
  ·refine is_iff.2 ⟨fun e => absurd e Dt, fun a H => ?_⟩;simp only [List.mem_cons, List.not_mem_nil, or_false] at H;rw [H];exact is_bd I z n _ _
theorem neg_three {P : Bool} {N : Int} (h : negM P (Ci N) = 3) : N = 3 := by
 unfold negM dualM Ci at h;repeat' split at h
 all_goals omega
mutual
theorem is_fm {k : LU → Int → Bool} : ∀ (f : Fml) (neg : Bool) (d : Int) (s : BS), isB k f = true → isB k (fmB f neg d s).1 = true
 | .mk op nm v b args, neg, d, s, hk => by
  obtain ⟨k1, k2⟩ := is_iff.1 hk;rw [fmB_eq]
  split
  ·rfl
  split
  ·exact is_fm0 args _ d s k2
  split
  ·rename_i h3
   split
   ·rfl
   split
   ·rfl
   refine is_iff.2 ⟨fun e => absurd e Dt, fun a ha => ?_⟩;simp only [List.mem_cons, List.not_mem_nil, or_false] at ha;rw [ha];exact is_iff.2 ⟨fun _ => k1 h3.1, fun a ha => by cases ha⟩
  split
  ·rename_i h13;exact is_bd h13 (fun d s => is_fm0 args neg d s k2) _ _ _
  split
  ·rfl
  refine is_iff.2 ⟨fun e => ?_, fun a ha => ?_⟩
  ·have h3 := neg_three e;subst h3;have : (lnF 3 v neg d (tkB s d)).1 = v := by simp [lnF, isLn, Cp, isPs]
   rw [this];exact k1 rfl
  ·rcases List.mem_append.1 ha with ha | ha
   ·unfold lnF at ha
    split at ha
    ·unfold lnB at ha
     split at ha
     ·cases ha
     ·simp only [List.mem_cons, List.not_mem_nil, or_false] at ha;rw [ha]
      split <;> rfl
    ·cases ha
   ·exact is_fmL _ args neg _ _ k2 a ha
theorem is_fm0 {k : LU → Int → Bool} : ∀ (l : LF) (neg : Bool) (d : Int) (s : BS), (∀ a ∈ l, isB k a = true) → isB k (fm0 l neg d s).1 = true
 | [], _, _, _, _ => rfl
 | a :: _, neg, d, s, h => is_fm a neg d s (h a O)
theorem is_fmL {k : LU → Int → Bool} : ∀ (t : Bool) (l : LF) (neg : Bool) (d : Int) (s : BS), (∀ a ∈ l, isB k a = true) → ∀ c ∈ (fmL t l neg d s).1, isB k c = true
 | _, [], _, _, _, _, c, hc => by cases hc
 | t, a :: l, neg, d, s, h, c, hc => by
  rw [fmL] at hc;rcases List.mem_cons.1 hc with rfl | hc
  ·exact is_fm a _ d s (h a O)
  ·exact is_fmL false l neg d _ (fun a ha => h a (by simp [ha])) c hc
end
theorem is_kern {k : LU → Int → Bool} {f : Fml} (h : isB k f = true) : isB k (CQ f).1 = true := by
 unfold CQ
 split
 ·split
  ·rfl
  ·exact is_fm f _ _ _ h
 ·rfl
theorem is_notR {k : LU → Int → Bool} {f : Fml} (h : isB k f = true) : isB k (notR f) = true := by
 unfold notR
 split
 ·split
  ·rfl
  ·exact is_fm f _ _ _ h
 ·rfl
mutual
def allNd (p : Fml → Bool) : Fml → Bool
 | .mk op nm v b args => p (.mk op nm v b args) && allNdL p args
def allNdL (p : Fml → Bool) : LF → Bool
 | [] => true
 | a :: l => allNd p a && allNdL p l
end
theorem allNdL_iff (p : Fml → Bool) : ∀ {l : LF}, allNdL p l = true ↔ ∀ a ∈ l, allNd p a = true
 | [] => by simp [allNdL]
 | a :: l => by rw [allNdL, Bool.and_eq_true, allNdL_iff p]; simp
theorem allNd_eq (p : Fml → Bool) (f : Fml) : allNd p f = (p f && allNdL p f.args) := by cases f; rfl
structure TnG (yv : Value) (X : List Nat) (B N : Nat) (p : Fml → Bool) (J D : World → Prop) : Prop where
 fn : ∃ y, yv = .func (.yield y) #[] #[]
 ext : ∀ {W W' : World}, J W → Ext W W' → J W'
 step : ∀ {W : World} {b o : Nat} {f : Fml}, J W → PF (fun b => b ∉ X ∧ b < B) W b o f → szF f ≤ N → YldP Zp yv [.pointer (some ⟨b, o, none⟩)] W (fun v W' => v = .bool (p f) ∧ Keep X W W' ∧ if p f = true then J W' else D W') fun _ _ => False
abbrev tvV (G E : Nat) : Value := .func (.func 185) #[] #[pt G, pt E]
theorem gvisit_ok {Z : Value} {X : List Nat} {B N : Nat} {p : Fml → Bool} {j D : World → Prop} (H : TnG Z X B N p j D) (G E : Nat) (L : G ∉ X) (m : E ∉ X) : ∀ (n : Nat) (w : World) (b o : Nat) (f : Fml), dpF f ≤ n → szF f ≤ N → PF (fun b => b ∉ X ∧ b < B) w b o f →
  Blk w G 102 [Z] → Blk w E 102 [tvV G E] → j w →
  Fn Zp 185 [.pointer (some ⟨b, o, none⟩), pt G, pt E] w fun v w' => v = .bool (allNd p f) ∧ Keep X w w' ∧ if allNd p f = true then j w' else D w' := by
 intro n
 induction n with
 | zero => intro w b o f u; rw [BP] at u; omega
 | succ n ih =>
 intro w b o f u hz I b1 b2 hJ;rw [BP] at u;have hzz := Bd f;obtain ⟨y, rfl⟩ := H.fn;rw [allNd_eq];refine AG Tryz.func185 rfl Tryz.ntmps185 (go ?_);refine W_yield rfl rfl (H.step hJ I hz) ?_;rintro _ w1 ⟨rfl, i, l⟩;have T := I.E i (fun _ h => h.1);have b11 := b1.E i L;have a1 := b2.E i m;obtain ⟨a0, a6, a7, a8, _⟩ := T.arg;cases hp : p f with
 | false =>
  rw [hp, if_neg Bool.false_ne_true] at l;rw [Bool.false_and];refine go ?_;exact AA rfl ⟨rfl, i, by rw [if_neg Bool.false_ne_true]; exact l⟩
 | true =>
 rw [hp, if_pos rfl] at l;rw [Bool.true_and];refine go ?_;refine Ah (α := Nat) (fun k => [(0, .pointer (some ⟨b, o, none⟩)), (1, pt G), (2, pt E), (14, iV (f.args.length : Int)), (15, iV (k : Int))]) (fun k W => k ≤ f.args.length ∧ Keep X w W ∧ j W ∧ PF (fun b => b ∉ X ∧ b < B) W b o f ∧ Blk W G 102 [.func (.yield y) #[] #[]] ∧ Blk W E 102 [tvV G E] ∧ ∀ a ∈ f.args.take k, allNd p a = true) (fun k => f.args.length - k) 0 ag ⟨by omega, i, l, T, b11, a1, by simp⟩ ?_;rintro k W fr ⟨b0, P, M, C, F, Q, s⟩;refine go ?_;by_cases a5 : k < f.args.length
 ·obtain ⟨x, z⟩ := gl a5;obtain ⟨aa, cc, _, a2, a3⟩ := C.arg;obtain ⟨r, A, rfl, a4⟩ := a3 k x z;have t := List.mem_of_getElem? z;have a9 := Ba t;have hzx := Bq t;refine go ?_;refine AW (rd 0 7 (.alt 7 (.read 8 .done) .stop)) Al Dk (fun K d ed => ⟨Keep X K, ?_, ?_⟩)
  ·exact Ep
  have ca : ∀ V, Keep X K V → V.cell? ⟨E, 0, none⟩ = some (tvV G E) := fun V e => ((Q.E d O).E e m).cell rfl;have cb : ∀ V, Keep X K V → V.cell? ⟨b, o + 4, none⟩ = some (.slice (some ⟨r, A, none⟩) f.args.length cc) := fun V e => e.cell (d.cell a2 O) C.1.1;refine go ?_;refine D_E rfl ?_;refine Av (v1 := []) (v2 := [pt G, pt E]) (vs := [.pointer (some ⟨r, A + k * 5, none⟩)]) rfl (ih K r (A + k * 5) x U U (a4.E d (fun _ _ => by simp)) (F.E d O) (Q.E d O) (H.ext M d)) rfl ?_;rintro _ w4 ⟨rfl, R, c⟩;refine wNl R ?_;have S := (P.trans d (fun x h => by cases h)).trans R (fun x h _ => h);refine go ?_;cases hpx : allNd p x with
  | false =>
   rw [hpx, if_neg Bool.false_ne_true] at c
   have q : allNdL p f.args = false := by
    rw [← Bool.not_eq_true, allNdL_iff];intro h;rw [h x t] at hpx;cases hpx
   rw [q];refine go ?_;exact AA rfl ⟨rfl, S, by rw [if_neg Bool.false_ne_true]; exact c⟩
  | true =>
   rw [hpx, if_pos rfl] at c;refine go ?_;refine ⟨k + 1, ⟨rfl, ag, ⟨by omega, S, c, (C.E d (fun _ _ => by simp)).E R (fun _ h => h.1), (F.E d O).E R L, (Q.E d O).E R m, fun a g => ?_⟩⟩, by omega⟩;rw [List.take_add_one, z] at g;rcases List.mem_append.1 g with g | g
   ·exact s a g
   ·simp at g; rw [g]; exact hpx
 ·obtain rfl : k = f.args.length := by omega
  rw [List.take_length] at s;have q := (allNdL_iff p).2 s;rw [q];refine go ?_;exact AA rfl ⟨rfl, P, by rw [if_pos rfl]; exact M⟩
theorem gnodesIt_ok {S : Value} {X : List Nat} {N : Nat} {p : Fml → Bool} {a D : World → Prop} (w : World) (i b o : Nat) (f : Fml) (H : TnG S X w.heap.size N p a D) (s : Blk w i 96 [.pointer (some ⟨b, o, none⟩)]) (I : PF (fun b => b ∉ X ∧ b < w.heap.size) w b o f) (n : szF f ≤ N) (m : a w) (r : ∀ x ∈ X, x < w.heap.size) :
  Fn Zp 184 [S, pt i] w fun _ w' => Keep X w w' ∧ if allNd p f = true then a w' else D w' := by
 have j : ∀ {c : Nat}, w.heap.size ≤ c → c ∉ X := fun h t => by have := r _ t; omega
 obtain ⟨y, rfl⟩ := H.fn;refine AG Tryz.func184 rfl Tryz.ntmps184 (go ?_);refine Aj (L := [.func (.yield y) #[] #[]]) rfl (fun Q E => go ?_);refine AQ (fun z V => go ?_);refine AN (v := tvV w.heap.size Q.heap.size) rfl rfl rfl V.D O (fun u d => ?_);have e := E.size;have C := V.size;have B := d.size;have P : Ext Q u := V.E.E d.E O;have g : Ext w u := E.E.trans P;have l : Blk u w.heap.size 102 [.func (.yield y) #[] #[]] := E.D.E P O;have k : Blk u Q.heap.size 102 [tvV w.heap.size Q.heap.size] := d.D;have W := (s.E g O).cell (o := 0) rfl;refine go ?_;refine Av (v1 := []) (v2 := [pt w.heap.size, pt Q.heap.size]) (vs := [.pointer (some ⟨b, o, none⟩)]) rfl (gvisit_ok H w.heap.size Q.heap.size (j (Nat.le_refl _)) (j U) (dpF f) u b o f (Nat.le_refl _) n (I.E g (fun _ _ => by simp)) l k (H.ext m g)) rfl ?_;rintro _ A ⟨rfl, R, q⟩;refine go ?_;exact BF rfl ⟨(g.any : Keep X w u).trans R (fun y K _ => K), q⟩
theorem gnodes_ok (w : World) (b o : Nat) : Fn Zp 138 [.pointer (some ⟨b, o, none⟩)] w fun v w' => v = .func (.func 184) #[] #[pt w.heap.size] ∧ New w w' 96 [.pointer (some ⟨b, o, none⟩)] := by
 refine AG Tryz.func138 rfl Tryz.ntmps138 (go ?_);refine Aj (L := [.pointer (some ⟨b, o, none⟩)]) rfl (fun Q E => go ?_);exact AA rfl ⟨rfl, E⟩
def isPstE (N : Int) : Bool := decide (N = 15) || decide (N = 16) || decide (N = 17) || decide (N = 18) || decide (N = 19)
def ndOk (S : List Sgn) (f : Fml) : Bool := if f.op = 3 then knS S f.name f.val else if isPstE f.op = true then f.args.all pastG else true
theorem find_cases (S : List Sgn) (nm : LU) : (Dg S nm = -1 ∧ ∀ v, knS S nm v = false) ∨ ∃ (i : Nat) (s : Sgn), Dg S nm = (i : Int) ∧ S[i]? = some s ∧ ∀ v, knS S nm v = decide (v < s.size) := by
 unfold Dg knS;cases hi : S.findIdx? (fun y => decide (y.name = nm)) with
 | none => exact .inl ⟨rfl, fun _ => rfl⟩
 | some i =>
  obtain ⟨a, -⟩ := List.findIdx?_eq_some_iff_getElem.1 hi;refine .inr ⟨i, S[i], rfl, List.getElem?_eq_getElem a, fun v => ?_⟩;simp [List.getElem?_eq_getElem a]
theorem gnodeErr_ok (w : World) (M : Option Addr) (L : Nat) (S : List Sgn) (b o : Nat) (f : Fml) (j : SlAt sgnR AZ w (.slice M S.length L) S) (I : PF AZ w b o f) (G : GF w) (c : 10 ≤ w.heap.size) (C : dpF f ≤ 5000) : Fn Zp 139 [.slice M S.length L, .pointer (some ⟨b, o, none⟩)] w fun u w' => ∃ e : Int, u = iV e ∧ Ext w w' ∧ (e = 0 ↔ ndOk S f = true) := by
 obtain ⟨aa, cc, a5, q0, q1, q2, q3, q4, qa⟩ := I.all;unfold ndOk;refine AG Tryz.func139 rfl Tryz.ntmps139 (go ?_);by_cases R : f.op = 3
 ·rw [if_pos R];refine go ?_;refine AC (sigFind_ok w _ S f.name j) rfl ?_;rintro _ w5 ⟨rfl, rfl⟩;rcases find_cases S f.name with ⟨A, P⟩ | ⟨i, s, A, D, P⟩
  ·rw [A, P];refine go ?_;exact AA rfl ⟨70, rfl, Ext.refl _, by simp⟩
  ·rw [A, P];have a3 := (List.getElem?_eq_some_iff.1 D).1;obtain ⟨_, sb, so, rfl, _, a0⟩ := j.sig D;have X := a0 2 _ rfl;refine go ?_;refine AW (rd 0 10 .done) Al Dk (fun g N ed => ⟨Ext g, ?_, ?_⟩)
   ·exact EZ
   have s1 : g.cell? ⟨b, o + 2, none⟩ = some (iV f.val) := N.cell q2 O;have s2 : g.cell? ⟨sb, so + i * 3 + 2, none⟩ = some (iV s.size) := N.cell X O;by_cases q : f.val < s.size
   ·refine go ?_;exact AA rfl ⟨0, rfl, N, by simp [q]⟩
   ·refine go ?_;exact AA rfl ⟨71, rfl, N, by simp [q]⟩
 rw [if_neg R];cases v : isPstE f.op with
 | false =>
  rw [if_neg Bool.false_ne_true];have v := v;simp only [isPstE, Bool.or_eq_false_iff, decide_eq_false_iff_not] at v;obtain ⟨⟨⟨⟨m, r⟩, n⟩, p⟩, a1⟩ := v;refine go ?_;exact AA rfl ⟨0, rfl, Ext.refl _, by simp⟩
 | true =>
  rw [if_pos rfl];refine mO1 ?_;refine mO1 ?_;refine mO1 ?_;iterate 4 (first | refine nx rfl ?_ | refine nf rfl ?_)
  refine C_mid (α := Unit) (fun _ => [(0, .slice M S.length L), (1, .pointer (some ⟨b, o, none⟩)), (31, .bool true)]) (fun _ W => W = w) ?_ ?_
  ·have v := v;simp only [isPstE, Bool.or_eq_true, decide_eq_true_eq] at v;by_cases m : f.op = 15
   ·exact Ew
   by_cases r : f.op = 16
   ·exact Ew
   by_cases n : f.op = 17
   ·exact Ew
   by_cases p : f.op = 18
   ·exact Ew
   exact Ew
  rintro _ _ f3 z;rw [z];clear z;refine go ?_;refine Ah (α := Nat) (fun k => [(0, .slice M S.length L), (1, .pointer (some ⟨b, o, none⟩)), (41, iV (f.args.length : Int)), (42, iV (k : Int))]) (fun k W => k ≤ f.args.length ∧ Ext w W ∧ ∀ a ∈ f.args.take k, pastG a = true) (fun k => f.args.length - k) 0 ag ⟨by omega, Ext.refl _, by simp⟩ ?_;rintro k W fr ⟨a4, T, V⟩;have a6 := T.cell q4 O;refine go ?_;by_cases y : k < f.args.length
  ·obtain ⟨x, d⟩ := gl y;obtain ⟨b', o', rfl, K⟩ := qa k x d;have B := List.mem_of_getElem? d;have a2 := Ba B;rw [BP] at C;obtain ⟨_, x5, F, t, E⟩ := K;obtain ⟨x0, x1, x2, x3, x4, rfl⟩ := AX F;have Z := t.E T O;refine go ?_;refine AR rfl Dn Z ?_;refine AC (fpast_ok W _ x (E.ext T) (G.ext T) (Nat.le_trans c T.size) U) rfl ?_;rintro _ w4 ⟨rfl, l⟩;cases K : pastG x with
   | false =>
    have Q : f.args.all pastG = false := by
     rw [← Bool.not_eq_true, List.all_eq_true];intro h;rw [h x B] at K;cases K
    rw [Q];refine go ?_;exact AA rfl ⟨72, rfl, T.trans l, by simp⟩
   | true =>
    refine go ?_;refine ⟨k + 1, ⟨rfl, ag, ⟨by omega, T.trans l, fun a H => ?_⟩⟩, by omega⟩;rw [List.take_add_one, d] at H;rcases List.mem_append.1 H with H | H
    ·exact V a H
    ·simp at H; rw [H]; exact K
  ·obtain rfl : k = f.args.length := by omega
   rw [List.take_length] at V;refine go ?_;exact AA rfl ⟨0, rfl, T, by simpa using V⟩
end Go.Proofs.YtohodbnnhlddpaaGreatDoor
