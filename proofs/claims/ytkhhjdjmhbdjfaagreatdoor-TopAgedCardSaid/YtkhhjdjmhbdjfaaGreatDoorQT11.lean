/- Raw residuals: progress.node, reader.raw and the functions of its table. formula.Canon; progress.residual, loose, known, fits. progress.known, fits, Step, Run. A lasso of two letters: word.below, formed, Valid, pick, the reader. The letters of a lasso of two letters: word.reader, letters, Prefix. Rules for maps from integers to integers: made, looked up, stored into, ranged over. The axis of a lasso of two letters: truth.nested, place, axisOf. Conditions: none. -/
import Derived.Test.YtkhhjdjmhbdjfaaGreatDoorQT10
import Derived.Maps.RangeRun

namespace Go.Proofs.YtkhhjdjmhbdjfaaGreatDoor
open Go.RowKit
set_option linter.unusedVariables false
variable {mk : Prop} [MK mk]
theorem node_ok (w : World) (op : Int) (a : Option Addr) (n c : Nat) : Fn Tryz.prog 116 [.int .i64 op, .slice a n c] w fun u w' => u = .agg #[.int .i64 op, An [], .int .i64 0, .int .i64 0, .slice a n c] ∧ Ext w w' := by
 refine AR Tryz.func116 rfl Tryz.ntmps116 (Nat.le_of_ble_eq_true rfl) (by kernel_rfl) ?_
 repeat refine nx rfl ?_
 (refine AA ?_; refine Ar (L := zero5) (fun w1 n1 => ?_))
 repeat refine nx rfl ?_
 refine AA (AG rfl (AM rfl (BE (by rfl) (by rfl) ?_)))
 refine AU (cs := [.int .i64 op, An [], .int .i64 0, .int .i64 0, .slice a n c]) rfl rfl rfl (Ap rfl) n1.blk (by simp [zero5]) (fun w3 p3 => ?_)
 repeat refine nx rfl ?_
 exact A2 rfl rfl rfl p3.blk.cells ⟨rfl, n1.keep.keep p3.keep (by simp)⟩
def ArgW (w : World) (r : Nat) (X : Vl) (aa : Option Addr) (args : List Fml) : Prop := ∀ (k : Nat) (a : Fml), args[k]? = some a → ∀ W, Ext w W → ∃ b' o', aa = some ⟨b', o', none⟩ ∧ Fn Tryz.prog 90 [pt r, .pointer (some ⟨b', o' + k * 5, none⟩)] W fun u w' => Ext W w' ∧ FAt (fun b => W.heap.size ≤ b) w' u (rawF X a)
theorem rconn_ok (w : World) (r b o : Nat) (X : Vl) (op : Int) (args : List Fml) (aa : Option Addr) (cc : Nat) (hla : args.length ≤ 1000) (q0 : w.cell? ⟨b, o + 0, none⟩ = some (.int .i64 op)) (q4 : w.cell? ⟨b, o + 4, none⟩ = some (.slice aa args.length cc)) (harg : ArgW w r X aa args) :
  Fn Tryz.prog 86 [pt r, .pointer (some ⟨b, o, none⟩)] w fun u w' => Ext w w' ∧ FAt (fun b => w.heap.size ≤ b) w' u (opF op (args.map (rawF X))) := by
 refine AR Tryz.func86 rfl Tryz.ntmps86 (Nat.le_of_ble_eq_true rfl) (by kernel_rfl) ?_
 repeat refine nx rfl ?_
 (refine AA ?_; refine Ar (L := zero5) (fun w1 n1 => ?_))
 repeat refine nx rfl ?_
 have q41 := n1.keep.cell q4 (by simp)
 (refine AA (AP rfl (AH rfl (AD rfl (AF rfl (by assumption) ?_)))) <;> refine AZ rfl ?_)
 refine W_make (n := args.length) rfl rfl rfl rfl (by omega) (by unfold maxLen; omega) (fun w2 n2 => ?_)
 have hF := Fil.start (B := w1.heap.size) n2 (Nat.le_refl _)
 have k2 : Ext w w2 := n1.keep.trans n2.keep
 have z1 := n1.size
 have b4 : Blk w2 w.heap.size 25 zero5 := n1.blk.keep n2.keep (by simp)
 have q42 := k2.cell q4 (by simp)
 refine AC (AM rfl ?_)
 repeat refine nx rfl ?_
 (refine AA (AP rfl (AH rfl (AD rfl (AF rfl (by assumption) ?_)))) <;> refine AZ rfl (AG rfl ?_))
 repeat refine nx rfl ?_
 refine A3 (α := Nat × List (List Value) × List Value) (fun y => [(0, pt r), (1, .pointer (some ⟨b, o, none⟩)), (4, pt w.heap.size), (5, .slice (some ⟨w1.heap.size, 0, none⟩) args.length args.length), (17, .int .i64 (args.length : Int)), (18, .int .i64 (y.1 : Int))])
  (fun y W => y.1 ≤ args.length ∧ Ext w W ∧ Blk W w.heap.size 25 zero5 ∧ Fil w1.heap.size W w1.heap.size args.length ((args.take y.1).map (rawF X)) y.2.1 y.2.2 ∧ w1.heap.size < W.heap.size) (fun y => args.length - y.1) (0, [], _) ⟨rfl, rfl, rfl, rfl, rfl, rfl, trivial⟩ ⟨by simp, k2, b4, by simpa using hF, by have := n2.size; omega⟩ ?_
 rintro ⟨k, L, Z⟩ W fr ⟨hk, kW, bW, fW, lW⟩
 simp only at hk kW bW fW lW
 have q4W := kW.cell q4 (by simp)
 have hlen : ((args.take k).map (rawF X)).length = k := by simp; omega
 repeat refine nx rfl ?_
 by_cases hlt : k < args.length
 ·refine AA (At rfl rfl (by omega) ?_)
  repeat refine nx rfl ?_
  refine AA (AG rfl (AC (AG rfl ?_)))
  repeat refine nx rfl ?_
  obtain ⟨x, hx⟩ : ∃ x, args[k]? = some x := ⟨_, List.getElem?_eq_getElem hlt⟩
  obtain ⟨b', o', rfl, hfn⟩ := harg k x hx W kW
  (refine AA (AM rfl (AG rfl (AP rfl (AP rfl (AH rfl (AD rfl (AF rfl (by assumption) ?_))))))) <;> refine AG rfl (Au rfl rfl rfl (by omega) ?_))
  refine AQ hfn rfl ?_
  rintro u w4 ⟨k4, f4⟩
  obtain ⟨cs, rfl, hcs, hone⟩ := f4.cells
  refine Au rfl rfl rfl (by omega) ?_
  have f5 := fW.ext k4
  have hroom := f5.room (by rw [hlen]; exact hlt)
  rw [hlen] at hroom
  refine AU (cs := cs) rfl rfl hcs hone f5.blk (by omega) (fun w5 p5 => ?_)
  refine AO ?_
  have p6 := p5
  rw [show 0 + k * 5 = ((args.take k).map (rawF X)).length * 5 by rw [hlen]; omega] at p6
  have f6 := f5.push (f4.mono fun y hy => ⟨by omega, by omega⟩) hcs (by rw [hlen]; exact hlt) p6 rfl
  repeat refine nx rfl ?_
  (refine AA (Av rfl rfl (by first | exact AV (by omega) (by omega) | exact AY (by omega) (by omega) | exact AW (by omega) (by omega)) ?_) <;> refine AG rfl ?_)
  repeat refine nx rfl ?_
  refine ⟨(k + 1, L ++ [cs], Z.drop 5), ⟨rfl, ⟨rfl, rfl, rfl, rfl, rfl, ?_, trivial⟩, ⟨by simp only; omega, (kW.trans k4).keep p5.keep (by simp; omega), (bW.keep k4 (by simp)).keep p5.keep (by simp; omega), ?_, by have := p5.size; have := k4.size; omega⟩⟩, by simp only; omega⟩
  ·show Value.int .i64 ((k : Int) + 1) = _
   rw [Int.natCast_add]; rfl
  ·simp only
   rw [List.take_add_one, hx, List.map_append]
   exact f6
 ·refine AA (Aj rfl rfl (by omega) ?_)
  repeat first | refine nx rfl ?_ | refine nf rfl ?_
  rw [List.take_of_length_le (by omega)] at fW
  have q0W := kW.cell q0 (by simp)
  obtain ⟨_, hfa⟩ := fW.fin (by simp) (by omega)
  (refine AA (AP rfl (AH rfl (AD rfl (AF rfl (by assumption) ?_)))) <;> refine AM rfl ?_)
  refine AQ (node_ok W op _ _ _) rfl ?_
  rintro _ w5 ⟨rfl, k5⟩
  refine AU (cs := [.int .i64 op, An [], .int .i64 0, .int .i64 0, .slice (some ⟨w1.heap.size, 0, none⟩) args.length args.length]) rfl rfl rfl (Ap rfl) (bW.keep k5 (by simp)) (by simp [zero5]) (fun w6 p6 => ?_)
  repeat refine nx rfl ?_
  exact A2 rfl rfl rfl p6.blk.cells ⟨(kW.trans k5).keep p6.keep (by simp), (((hfa op [] 0 0).ext k5).keep p6.keep (fun y hy hm => by simp at hm; omega)).mono fun y hy => by omega⟩
def FnA (w : World) (r : Nat) (X : Vl) (b o : Nat) (f : Fml) : Prop := Fn Tryz.prog 117 [pt r, .pointer (some ⟨b, o, none⟩)] w fun u w' => Ext w w' ∧ FAt (fun b => w.heap.size ≤ b) w' u (CG X f)
theorem rnext_ok (w : World) (r b o : Nat) (X : Vl) (args : List Fml) (a : Fml) (aa : Option Addr) (cc : Nat) (q4 : w.cell? ⟨b, o + 4, none⟩ = some (.slice aa args.length cc)) (ha : args = [a])
  (harg : ∀ W, Ext w W → ∃ b' o', aa = some ⟨b', o', none⟩ ∧ FnA W r X b' (o' + 0 * 5) a) : Fn Tryz.prog 87 [pt r, .pointer (some ⟨b, o, none⟩)] w fun u w' => Ext w w' ∧ FAt (fun b => w.heap.size ≤ b) w' u (CG X a) := by
 subst ha
 obtain ⟨b', o', rfl, _⟩ := harg w (Ext.refl _)
 simp only [List.length_singleton] at q4
 refine AR Tryz.func87 rfl Tryz.ntmps87 (Nat.le_of_ble_eq_true rfl) (by kernel_rfl) ?_
 repeat refine nx rfl ?_
 (refine AA ?_; refine Ar (L := zero5) (fun w1 n1 => ?_))
 repeat refine nx rfl ?_
 have q41 := n1.keep.cell q4 (by simp)
 have z1 := n1.size
 obtain ⟨_, _, e2, hfn⟩ := harg w1 n1.keep
 cases e2
 (refine AA (AP rfl (AP rfl (AH rfl (AD rfl (AF rfl (by assumption) ?_))))) <;> refine Aq rfl rfl (by omega) (by omega) ?_)
 refine AQ hfn rfl ?_
 rintro u w4 ⟨k4, f4⟩
 obtain ⟨cs, rfl, hcs, hone⟩ := f4.cells
 obtain ⟨x0, x1, x2, x3, x4, rfl⟩ := A7 hcs
 refine AU (cs := [x0, x1, x2, x3, x4]) rfl rfl rfl hone (n1.blk.keep k4 (by simp)) (by simp [zero5]) (fun w5 p5 => ?_)
 repeat refine nx rfl ?_
 exact A2 rfl rfl rfl p5.blk.cells ⟨(n1.keep.trans k4).keep p5.keep (by simp), (f4.keep p5.keep (fun y hy hm => by simp at hm; omega)).mono fun y hy => by omega⟩
theorem two_new {w w' : World} {ok : Nat → Prop} {x0 x1 x2 x3 x4 y0 y1 y2 y3 y4 : Value} {f g : Fml} (n : New w w' 25 [x0, x1, x2, x3, x4, y0, y1, y2, y3, y4]) (hf : FAt ok w (.agg #[x0, x1, x2, x3, x4]) f) (hg : FAt ok w (.agg #[y0, y1, y2, y3, y4]) g) (hb : ok w.heap.size) (op : Int) :
  FAt ok w' (.agg #[.int .i64 op, An [], .int .i64 0, .int .i64 0, .slice (some ⟨w.heap.size, 0, none⟩) 2 2]) (opF op [f, g]) := by
 have hL : FsAt ok w [[x0, x1, x2, x3, x4], [y0, y1, y2, y3, y4]] [f, g] := FsAt.two hf rfl hg rfl
 obtain ⟨h1, h2⟩ := FsAt.fresh (L := [[x0, x1, x2, x3, x4], [y0, y1, y2, y3, y4]]) n hL hb (by simp)
 exact FAt.node op [] 0 0 h1 h2
theorem runtil_ok (w : World) (r b o : Nat) (X : Vl) (f : Fml) (a c : Fml) (aa : Option Addr) (cc : Nat) (q4 : w.cell? ⟨b, o + 4, none⟩ = some (.slice aa [a, c].length cc)) (harg : ArgW w r X aa [a, c]) (hself : ∀ W, Ext w W → FnA W r X b o f) :
  Fn Tryz.prog 88 [pt r, .pointer (some ⟨b, o, none⟩)] w fun u w' => Ext w w' ∧ FAt (fun b => w.heap.size ≤ b) w' u (opF 6 [rawF X c, opF 5 [rawF X a, CG X f]]) := by
 obtain ⟨b', o', rfl, _⟩ := harg 0 a rfl w (Ext.refl _)
 simp only [List.length_cons, List.length_nil] at q4
 refine AR Tryz.func88 rfl Tryz.ntmps88 (Nat.le_of_ble_eq_true rfl) (by kernel_rfl) ?_
 repeat refine nx rfl ?_
 (refine AA ?_; refine Ar (L := zero5) (fun w1 n1 => ?_))
 repeat refine nx rfl ?_
 have z1 := n1.size
 refine Ad (.read 0 (.read 1 (.read 2 (.read 3 (.read 4 (.read 5 (.read 7 (.read 8 (.read 9 (.read 10 (.read 11 (.read 12 (.read 14 (.read 15 (.alt 6 (.alt 13 (.alt 16 (.alt 17 (.alt 18 (.alt 19 (.alt 20 (.alt 21 .done .stop) .stop) .stop) .stop) .stop) .stop) .stop) .stop))))))))))))))) Ax (by kernel_rfl) (fun wd kd ed => ⟨fun V => Keep [w.heap.size] wd V, ?_, ?_⟩)
 ·exact Keep.refl _ _
 have k0 := n1.keep.trans kd
 have zd := kd.size
 have hbw := World.block_lt_of_cell? w _ q4
 simp only at hbw
 have s1 : ∀ V, Keep [w.heap.size] wd V → V.cell? ⟨b, o + 4, none⟩ = some (.slice (some ⟨b', o', none⟩) (0 + 1 + 1) cc) := fun V e => e.cell (k0.cell q4 (by simp)) (by simp; omega)
 refine D_R rfl rfl (fun W hW => AP rfl Z3) (D_R rfl rfl (fun W hW => AP rfl Z3) (D_R rfl rfl (fun W hW => AH rfl Z3) (D_R rfl rfl (fun W hW => AD rfl Z3) (D_R rfl rfl (fun W hW => AF rfl (s1 W hW) Z3) (D_R rfl rfl (fun W hW => Aq rfl rfl (by omega) (by omega) Z3) (D_R rfl rfl (fun W hW => AP rfl Z3) (D_R rfl rfl (fun W hW => AP rfl Z3) (D_R rfl rfl (fun W hW => AH rfl Z3) (D_R rfl rfl (fun W hW => AD rfl Z3) (D_R rfl rfl (fun W hW => AF rfl (s1 W hW) Z3) (D_R rfl rfl (fun W hW => Aq rfl rfl (by omega) (by omega) Z3) (D_R rfl rfl (fun W hW => AP rfl Z3) (D_R rfl rfl (fun W hW => AP rfl Z3) ?_)))))))))))))
 refine D_E rfl ?_
 obtain ⟨_, _, e2, hfn⟩ := harg 1 c rfl wd k0
 cases e2
 refine AQ hfn rfl ?_
 rintro u2 w2 ⟨k2, f2⟩
 obtain ⟨cs, rfl, hcs, hone2⟩ := f2.cells
 obtain ⟨x0, x1, x2, x3, x4, rfl⟩ := A7 hcs
 have z2 := k2.size
 refine AO ⟨_, fun _ e => e, (k2).any, ?_⟩
 refine D_E rfl ?_
 obtain ⟨_, _, e2, hfn⟩ := harg 0 a rfl w2 (k0.trans k2)
 cases e2
 refine AQ hfn rfl ?_
 rintro u3 w3 ⟨k3, f3⟩
 obtain ⟨cs, rfl, hcs, hone3⟩ := f3.cells
 obtain ⟨y0, y1, y2, y3, y4, rfl⟩ := A7 hcs
 have z3 := k3.size
 refine AO ⟨_, fun _ e => e, (k2.trans k3).any, ?_⟩
 refine D_E rfl ?_
 refine AQ (hself w3 ((k0.trans k2).trans k3)) rfl ?_
 rintro u4 w4 ⟨k4, f4⟩
 obtain ⟨cs, rfl, hcs, hone4⟩ := f4.cells
 obtain ⟨v0, v1, v2, v3, v4, rfl⟩ := A7 hcs
 have z4 := k4.size
 refine AO ⟨_, fun _ e => e, ((k2.trans k3).trans k4).any, ?_⟩
 refine D_E rfl ?_
 refine Ab (out := [y0, y1, y2, y3, y4, v0, v1, v2, v3, v4]) rfl (by omega) (by rw [made10]; rfl) (fun w5 n5 => ?_)
 have z5 := n5.size
 refine AO ⟨_, fun _ e => e, (((k2.trans k3).trans k4).trans n5.keep).any, ?_⟩
 have g5 := two_new (ok := fun b => w1.heap.size ≤ b) n5 ((f3.ext k4).mono fun y hy => by omega) (f4.mono fun y hy => by omega) (by omega) 5
 refine D_E rfl ?_
 refine AQ (node_ok w5 5 _ _ _) rfl ?_
 rintro _ w6 ⟨rfl, k6⟩
 have z6 := k6.size
 have g6 := g5.ext k6
 refine AO ⟨_, fun _ e => e, ((((k2.trans k3).trans k4).trans n5.keep).trans k6).any, ?_⟩
 refine D_E rfl ?_
 refine Ab (out := [x0, x1, x2, x3, x4, .int .i64 5, An [], .int .i64 0, .int .i64 0, .slice (some ⟨w4.heap.size, 0, none⟩) 2 2]) rfl (by omega) (by rw [made10]; rfl) (fun w7 n7 => ?_)
 have z7 := n7.size
 refine AO ⟨_, fun _ e => e, (((((k2.trans k3).trans k4).trans n5.keep).trans k6).trans n7.keep).any, ?_⟩
 have g7 := two_new (ok := fun b => w1.heap.size ≤ b) n7 (((((f2.ext k3).ext k4).ext n5.keep).ext k6).mono fun y hy => by omega) g6 (by omega) 6
 refine D_E rfl ?_
 refine AQ (node_ok w7 6 _ _ _) rfl ?_
 rintro _ w8 ⟨rfl, k8⟩
 have kk := (((((k2.trans k3).trans k4).trans n5.keep).trans k6).trans n7.keep).trans k8
 refine AO ⟨_, fun _ e => e, (kk).any, ?_⟩
 refine D_E rfl ?_
 refine AU (cs := [.int .i64 6, An [], .int .i64 0, .int .i64 0, .slice (some ⟨w6.heap.size, 0, none⟩) 2 2]) rfl rfl rfl (Ap rfl) (n1.blk.keep (kd.trans kk) (by simp)) (by simp [zero5]) (fun w9 p9 => ?_)
 refine AO ⟨_, fun _ e => e, kk.any.trans p9.keep (fun _ h _ => h), ?_⟩
 refine Ah ?_
 repeat refine nx rfl ?_
 exact A2 rfl rfl rfl p9.blk.cells ⟨(k0.trans kk).keep p9.keep (by simp), ((g7.ext k8).keep p9.keep (fun y hy hm => by simp at hm; omega)).mono fun y hy => by omega⟩
theorem rrel_ok (w : World) (r b o : Nat) (X : Vl) (f : Fml) (a c : Fml) (aa : Option Addr) (cc : Nat) (q4 : w.cell? ⟨b, o + 4, none⟩ = some (.slice aa [a, c].length cc)) (harg : ArgW w r X aa [a, c]) (hself : ∀ W, Ext w W → FnA W r X b o f) :
  Fn Tryz.prog 89 [pt r, .pointer (some ⟨b, o, none⟩)] w fun u w' => Ext w w' ∧ FAt (fun b => w.heap.size ≤ b) w' u (opF 5 [rawF X c, opF 6 [rawF X a, CG X f]]) := by
 obtain ⟨b', o', rfl, _⟩ := harg 0 a rfl w (Ext.refl _)
 simp only [List.length_cons, List.length_nil] at q4
 refine AR Tryz.func89 rfl Tryz.ntmps89 (Nat.le_of_ble_eq_true rfl) (by kernel_rfl) ?_
 repeat refine nx rfl ?_
 (refine AA ?_; refine Ar (L := zero5) (fun w1 n1 => ?_))
 repeat refine nx rfl ?_
 have z1 := n1.size
 refine Ad (.read 0 (.read 1 (.read 2 (.read 3 (.read 4 (.read 5 (.read 7 (.read 8 (.read 9 (.read 10 (.read 11 (.read 12 (.read 14 (.read 15 (.alt 6 (.alt 13 (.alt 16 (.alt 17 (.alt 18 (.alt 19 (.alt 20 (.alt 21 .done .stop) .stop) .stop) .stop) .stop) .stop) .stop) .stop))))))))))))))) Ax (by kernel_rfl) (fun wd kd ed => ⟨fun V => Keep [w.heap.size] wd V, ?_, ?_⟩)
 ·exact Keep.refl _ _
 have k0 := n1.keep.trans kd
 have zd := kd.size
 have hbw := World.block_lt_of_cell? w _ q4
 simp only at hbw
 have s1 : ∀ V, Keep [w.heap.size] wd V → V.cell? ⟨b, o + 4, none⟩ = some (.slice (some ⟨b', o', none⟩) (0 + 1 + 1) cc) := fun V e => e.cell (k0.cell q4 (by simp)) (by simp; omega)
 refine D_R rfl rfl (fun W hW => AP rfl Z3) (D_R rfl rfl (fun W hW => AP rfl Z3) (D_R rfl rfl (fun W hW => AH rfl Z3) (D_R rfl rfl (fun W hW => AD rfl Z3) (D_R rfl rfl (fun W hW => AF rfl (s1 W hW) Z3) (D_R rfl rfl (fun W hW => Aq rfl rfl (by omega) (by omega) Z3) (D_R rfl rfl (fun W hW => AP rfl Z3) (D_R rfl rfl (fun W hW => AP rfl Z3) (D_R rfl rfl (fun W hW => AH rfl Z3) (D_R rfl rfl (fun W hW => AD rfl Z3) (D_R rfl rfl (fun W hW => AF rfl (s1 W hW) Z3) (D_R rfl rfl (fun W hW => Aq rfl rfl (by omega) (by omega) Z3) (D_R rfl rfl (fun W hW => AP rfl Z3) (D_R rfl rfl (fun W hW => AP rfl Z3) ?_)))))))))))))
 refine D_E rfl ?_
 obtain ⟨_, _, e2, hfn⟩ := harg 1 c rfl wd k0
 cases e2
 refine AQ hfn rfl ?_
 rintro u2 w2 ⟨k2, f2⟩
 obtain ⟨cs, rfl, hcs, hone2⟩ := f2.cells
 obtain ⟨x0, x1, x2, x3, x4, rfl⟩ := A7 hcs
 have z2 := k2.size
 refine AO ⟨_, fun _ e => e, (k2).any, ?_⟩
 refine D_E rfl ?_
 obtain ⟨_, _, e2, hfn⟩ := harg 0 a rfl w2 (k0.trans k2)
 cases e2
 refine AQ hfn rfl ?_
 rintro u3 w3 ⟨k3, f3⟩
 obtain ⟨cs, rfl, hcs, hone3⟩ := f3.cells
 obtain ⟨y0, y1, y2, y3, y4, rfl⟩ := A7 hcs
 have z3 := k3.size
 refine AO ⟨_, fun _ e => e, (k2.trans k3).any, ?_⟩
 refine D_E rfl ?_
 refine AQ (hself w3 ((k0.trans k2).trans k3)) rfl ?_
 rintro u4 w4 ⟨k4, f4⟩
 obtain ⟨cs, rfl, hcs, hone4⟩ := f4.cells
 obtain ⟨v0, v1, v2, v3, v4, rfl⟩ := A7 hcs
 have z4 := k4.size
 refine AO ⟨_, fun _ e => e, ((k2.trans k3).trans k4).any, ?_⟩
 refine D_E rfl ?_
 refine Ab (out := [y0, y1, y2, y3, y4, v0, v1, v2, v3, v4]) rfl (by omega) (by rw [made10]; rfl) (fun w5 n5 => ?_)
 have z5 := n5.size
 refine AO ⟨_, fun _ e => e, (((k2.trans k3).trans k4).trans n5.keep).any, ?_⟩
 have g5 := two_new (ok := fun b => w1.heap.size ≤ b) n5 ((f3.ext k4).mono fun y hy => by omega) (f4.mono fun y hy => by omega) (by omega) 6
 refine D_E rfl ?_
 refine AQ (node_ok w5 6 _ _ _) rfl ?_
 rintro _ w6 ⟨rfl, k6⟩
 have z6 := k6.size
 have g6 := g5.ext k6
 refine AO ⟨_, fun _ e => e, ((((k2.trans k3).trans k4).trans n5.keep).trans k6).any, ?_⟩
 refine D_E rfl ?_
 refine Ab (out := [x0, x1, x2, x3, x4, .int .i64 6, An [], .int .i64 0, .int .i64 0, .slice (some ⟨w4.heap.size, 0, none⟩) 2 2]) rfl (by omega) (by rw [made10]; rfl) (fun w7 n7 => ?_)
 have z7 := n7.size
 refine AO ⟨_, fun _ e => e, (((((k2.trans k3).trans k4).trans n5.keep).trans k6).trans n7.keep).any, ?_⟩
 have g7 := two_new (ok := fun b => w1.heap.size ≤ b) n7 (((((f2.ext k3).ext k4).ext n5.keep).ext k6).mono fun y hy => by omega) g6 (by omega) 5
 refine D_E rfl ?_
 refine AQ (node_ok w7 5 _ _ _) rfl ?_
 rintro _ w8 ⟨rfl, k8⟩
 have kk := (((((k2.trans k3).trans k4).trans n5.keep).trans k6).trans n7.keep).trans k8
 refine AO ⟨_, fun _ e => e, (kk).any, ?_⟩
 refine D_E rfl ?_
 refine AU (cs := [.int .i64 5, An [], .int .i64 0, .int .i64 0, .slice (some ⟨w6.heap.size, 0, none⟩) 2 2]) rfl rfl rfl (Ap rfl) (n1.blk.keep (kd.trans kk) (by simp)) (by simp [zero5]) (fun w9 p9 => ?_)
 refine AO ⟨_, fun _ e => e, kk.any.trans p9.keep (fun _ h _ => h), ?_⟩
 refine Ah ?_
 repeat refine nx rfl ?_
 exact A2 rfl rfl rfl p9.blk.cells ⟨(k0.trans kk).keep p9.keep (by simp), ((g7.ext k8).keep p9.keep (fun y hy hm => by simp at hm; omega)).mono fun y hy => by omega⟩
theorem rraw_of (w : World) (r : Nat) (S : List Sgn) (x : Int) (F : FuncId) [hF : AS Tryz.prog F] (b o : Nat) (f g : Fml) (hR : Rdr w r S x) (hf : PF As w b o f) (hp : Bv f = false) (hl : (rawT r).lookup f.op = some (mvR F r))
  (hop : ∀ W, Ext w W → Fn Tryz.prog F [pt r, .pointer (some ⟨b, o, none⟩)] W fun u W' => Ext W W' ∧ FAt (fun b => W.heap.size ≤ b) W' u g) : Fn Tryz.prog 90 [pt r, .pointer (some ⟨b, o, none⟩)] w fun u w' => Ext w w' ∧ FAt (fun b => w.heap.size ≤ b) w' u g := by
 obtain ⟨sa, sc, ra, rc, mt, mr, hb, hS, hv, hm', hm⟩ := hR
 have q0 := hf.opc
 have hrl := hb.lt
 have hml := hm.lt
 have hbl := World.block_lt_of_cell? w _ q0
 simp only at hbl
 refine AR Tryz.func90 rfl Tryz.ntmps90 (Nat.le_of_ble_eq_true rfl) (by kernel_rfl) ?_
 repeat refine nx rfl ?_
 (refine AA ?_; refine Ar (L := zero5) (fun w1 n1 => ?_))
 repeat refine nx rfl ?_
 refine AA (AP rfl ?_)
 refine AQ (rpast_ok (dpF f) w1 b o f (Nat.le_refl _) (hf.keep n1.keep (fun _ _ => by simp))) rfl ?_
 rintro _ w2 ⟨rfl, k2⟩
 have e2 := n1.keep.trans k2
 have b4 : Blk w2 w.heap.size 25 zero5 := n1.blk.keep k2 (by simp)
 rw [hp]
 refine Ak rfl ?_
 repeat refine nx rfl ?_
 refine Ad (.read 0 (.read 1 (.read 2 (.read 3 (.read 4 (.read 5 (.read 6 (.read 7 (.read 8 (.read 9 (.alt 10 (.alt 11 .done .stop) .stop))))))))))) Ax (by kernel_rfl) (fun wd kd ed => ⟨fun V => Keep [w.heap.size] wd V, ?_, ?_⟩)
 ·exact Keep.refl _ _
 have ek := e2.trans kd
 have s1 : ∀ V, Keep [w.heap.size] wd V → V.cell? ⟨r, 0 + 3, none⟩ = some (.map (some mr)) := fun V e => e.cell ((hb.keep ek (by simp)).cell rfl) (by simp; omega)
 have s2 : ∀ V, Keep [w.heap.size] wd V → V.cell? ⟨b, o + 0, none⟩ = some (.int .i64 f.op) := fun V e => e.cell (ek.cell q0 (by simp)) (by simp; omega)
 refine D_R rfl rfl (fun W hW => AP rfl Z3) (D_R rfl rfl (fun W hW => AH rfl Z3) (D_R rfl rfl (fun W hW => AD rfl Z3) (D_R rfl rfl (fun W hW => AF rfl (s1 W hW) Z3) (D_R rfl rfl (fun W hW => AP rfl Z3) (D_R rfl rfl (fun W hW => AH rfl Z3) (D_R rfl rfl (fun W hW => AD rfl Z3) (D_R rfl rfl (fun W hW => AF rfl (s2 W hW) Z3) ?_)))))))
 refine D_R rfl rfl (fun V hV => by refine W_lookupV rfl rfl ((hm.keep ek (by simp)).keep hV (by simp; omega)) hl ?_; exact AO ⟨rfl, rfl, rfl⟩) ?_
 ((apply D_R rfl rfl; (intro W hW; refine AP rfl ?_; exact AO ⟨rfl, rfl, rfl⟩)))
 refine D_E rfl ?_
 refine BO (v1 := [pt r]) (v2 := []) (vs := [.pointer (some ⟨b, o, none⟩)]) rfl (hop wd ek) rfl ?_
 rintro u w4 ⟨k4, f4⟩
 obtain ⟨cs, rfl, hcs, hone⟩ := f4.cells
 obtain ⟨x0, x1, x2, x3, x4, rfl⟩ := A7 hcs
 refine AO ⟨_, fun _ e => e, k4.any, ?_⟩
 refine D_E rfl ?_
 have zd := ek.size
 have z1 := n1.size
 have zk := k2.size
 have zkd := kd.size
 refine AU (cs := [x0, x1, x2, x3, x4]) rfl rfl rfl hone ((b4.keep kd (by simp)).keep k4 (by simp)) (by simp [zero5]) (fun w9 p9 => ?_)
 refine AO ⟨_, fun _ e => e, k4.any.trans p9.keep (fun _ h _ => h), ?_⟩
 refine Ah ?_
 repeat refine nx rfl ?_
 exact A2 rfl rfl rfl p9.blk.cells ⟨(ek.trans k4).keep p9.keep (by simp), (f4.keep p9.keep (fun y hy hm => by simp at hm; omega)).mono fun y hy => by omega⟩
theorem past_3 {a : Fml} {i : Bool} (h : A9 i a = true) (h3 : a.op = 3) : Bv a = true := by
 obtain ⟨op, nm, v, b, args⟩ := a
 obtain ⟨_, h2, _, _⟩ := BS h
 obtain rfl : op = 3 := h3
 have hba := Bk h2
 have : args = [] := List.eq_nil_of_length_eq_zero (by simpa [A8] using hba)
 subst this
 rfl
theorem bare_future {op v b : Int} {nm : List UInt8} {args : List Fml} {i : Bool} (h : A9 i (.mk op nm v b args) = true) (hp : Bv (.mk op nm v b args) = false) : op = 5 ∨ op = 6 ∨ op = 8 ∨ op = 9 ∨ op = 10 := by
 obtain ⟨h1, h2, h3, h4⟩ := BS h
 have hba := Bk h2
 have h0 : op = 1 ∨ op = 2 ∨ op = 3 → False := fun ho => by
  have : args = [] := List.eq_nil_of_length_eq_zero (by rcases ho with rfl | rfl | rfl <;> simpa [A8] using hba)
  subst this
  rcases ho with rfl | rfl | rfl <;> simp [Bv, pastL] at hp
 have hq : op = 15 ∨ op = 16 ∨ op = 17 → False := fun ho => by rw [past_of_pst h ho] at hp; cases hp
 have h44 : op = 4 → False := fun ho => by
  have hs := (sh_iff.1 (sh_bare h)).2.1.2.2.2.2 ho
  rw [Bv, pastL_of fun a ha => past_3 (h4 a ha) (hs a ha)] at hp
  subst ho
  simp at hp
 rcases CP h1 with h | h | h | h | h | h | h | h | h | h | h | h <;> first | exact (h0 (by omega)).elim | exact (hq (by omega)).elim | exact (h44 h).elim | omega
theorem rraw_ok (w0 : World) (r : Nat) (S : List Sgn) (x : Int) (hR : Rdr w0 r S x) : ∀ (n : Nat) (w : World) (b o : Nat) (f : Fml), dpF f ≤ n → szF f ≤ 1000 → Ext w0 w → PF As w b o f → A9 false f = true → isB (knS S) f = true →
  Fn Tryz.prog 90 [pt r, .pointer (some ⟨b, o, none⟩)] w fun u w' => Ext w w' ∧ FAt (fun b => w.heap.size ≤ b) w' u (rawF (vlS S x) f) := by
 have hnow := rnow_ok w0 r S x hR
 have haged := raged_ok w0 r S x hR
 obtain ⟨X, hX⟩ : ∃ X, X = vlS S x := ⟨_, rfl⟩
 rw [← hX] at hnow haged ⊢
 intro n
 induction n with
 | zero => intro w b o f hd; rw [Bd] at hd; omega
 | succ n ih =>
 intro w b o f hd hz e0 hf hb hk
 have hdF := hd
 have hzF := hz
 have hRw := hR.ext e0
 obtain ⟨aa, cc, hla, q0, q1, q2, q3, q4, qa⟩ := hf.all
 have hf0 := hf
 cases hp : Bv f with
 | false =>
  obtain ⟨op, nm, vl, bd, args⟩ := f
  obtain ⟨hlo, hsh, _, hbl⟩ := BS hb
  have hba := Bk hsh
  obtain ⟨hk3, hkl⟩ := is_iff.1 hk
  have hlz := CQ args
  rw [Bd] at hd
  rw [BW] at hz
  simp only [Fml.op, Fml.args] at hd hz hla q0 q4 qa
  have hfu := bare_future hb hp
  rw [raw_eq, if_neg (by rw [hp]; exact Bool.false_ne_true)]
  have harg : ArgW w r X aa args := fun k a ha W eW => by
   obtain ⟨b', o', e, hpf⟩ := qa k a ha
   have hm' := List.mem_of_getElem? ha
   have h1 := Bp hm'
   have h2 := BY hm'
   have h3 := hbl a hm'
   rw [show (false || pstB op) = false by rcases hfu with rfl | rfl | rfl | rfl | rfl <;> rfl] at h3
   exact ⟨b', o', e, ih W b' _ a (by omega) (by omega) (e0.trans eW) (hpf.keep eW (fun _ _ => by simp)) h3 (hkl a hm')⟩
  have hax : ∀ W, Ext w W → ArgW W r X aa args := fun W e k a ha V eV => harg k a ha V (e.trans eV)
  have hself : ∀ W, Ext w W → FnA W r X b o (.mk op nm vl bd args) := fun W e => haged (n + 1) W b o _ false hdF hzF (e0.trans e) (hf0.keep e (fun _ _ => by simp)) hb hk
  rcases hfu with rfl | rfl | rfl | rfl | rfl
  ·exact rraw_of w r S x 86 b o _ _ hRw hf0 hp rfl fun W e => rconn_ok W r b o X 5 args aa cc (by omega) (e.cell q0 (by simp)) (e.cell q4 (by simp)) (hax W e)
  ·exact rraw_of w r S x 86 b o _ _ hRw hf0 hp rfl fun W e => rconn_ok W r b o X 6 args aa cc (by omega) (e.cell q0 (by simp)) (e.cell q4 (by simp)) (hax W e)
  ·obtain ⟨a, ha⟩ := Ck (l := args) (by simpa [A8] using hba)
   have hm' : a ∈ args := by rw [ha]; simp
   have h1 := Bp hm'
   have h2 := BY hm'
   obtain ⟨b', o', e', hpf⟩ := qa 0 a (by rw [ha]; rfl)
   have hres : rawOp 8 (CG X (.mk 8 nm vl bd args)) (args.map (rawF X)) (args.map (CG X)) = CG X a := by rw [ha]; rfl
   rw [hres]
   exact rraw_of w r S x 87 b o _ _ hRw hf0 hp rfl fun W e => rnext_ok W r b o X args a aa cc (e.cell q4 (by simp)) ha fun V eV => ⟨b', o', e', haged n V b' _ a _ (by omega) (by omega) (e0.trans (e.trans eV)) (hpf.keep (e.trans eV) (fun _ _ => by simp)) (hbl a hm') (hkl a hm')⟩
  ·obtain ⟨a, c, ha⟩ := two_args (l := args) (by simpa [A8] using hba)
   subst ha
   exact rraw_of w r S x 88 b o _ _ hRw hf0 hp rfl fun W e => runtil_ok W r b o X _ a c aa cc (e.cell q4 (by simp)) (hax W e) fun V eV => hself V (e.trans eV)
  ·obtain ⟨a, c, ha⟩ := two_args (l := args) (by simpa [A8] using hba)
   subst ha
   exact rraw_of w r S x 89 b o _ _ hRw hf0 hp rfl fun W e => rrel_ok W r b o X _ a c aa cc (e.cell q4 (by simp)) (hax W e) fun V eV => hself V (e.trans eV)
 | true =>
  have hres : rawF X f = constF (BH X f) := by
   obtain ⟨op, nm, vl, bd, args⟩ := f
   rw [raw_eq, if_pos hp]
  rw [hres]
  refine AR Tryz.func90 rfl Tryz.ntmps90 (Nat.le_of_ble_eq_true rfl) (by kernel_rfl) ?_
  repeat refine nx rfl ?_
  (refine AA ?_; refine Ar (L := zero5) (fun w1 n1 => ?_))
  repeat refine nx rfl ?_
  refine AA (AP rfl ?_)
  refine AQ (rpast_ok (dpF f) w1 b o f (Nat.le_refl _) (hf.keep n1.keep (fun _ _ => by simp))) rfl ?_
  rintro _ w2 ⟨rfl, k2⟩
  have e2 := n1.keep.trans k2
  have b4 : Blk w2 w.heap.size 25 zero5 := n1.blk.keep k2 (by simp)
  rw [hp]
  refine Ak rfl ?_
  repeat first | refine nx rfl ?_ | refine nf rfl ?_
  refine AA (AP rfl (AP rfl ?_))
  refine AQ (hnow (dpF f) w2 b o f false (Nat.le_refl _) (e0.trans e2) (hf.keep e2 (fun _ _ => by simp)) hb hp hk) rfl ?_
  rintro _ w3 ⟨rfl, k3⟩
  cases BH X f with
  | true =>
   repeat refine nx rfl ?_
   refine AA ?_
   refine AQ (node_ok w3 1 none 0 0) rfl ?_
   rintro _ w4 ⟨rfl, k4⟩
   refine AU (cs := [.int .i64 1, An [], .int .i64 0, .int .i64 0, .slice none 0 0]) rfl rfl rfl (Ap rfl) ((b4.keep k3 (by simp)).keep k4 (by simp)) (by simp [zero5]) (fun w9 p9 => ?_)
   repeat refine nx rfl ?_
   exact A2 rfl rfl rfl p9.blk.cells ⟨((e2.trans k3).trans k4).keep p9.keep (by simp), FAt.leaf _ _ 1 [] 0 0⟩
  | false =>
   repeat first | refine nx rfl ?_ | refine nf rfl ?_
   refine AA ?_
   refine AQ (node_ok w3 2 none 0 0) rfl ?_
   rintro _ w4 ⟨rfl, k4⟩
   refine AU (cs := [.int .i64 2, An [], .int .i64 0, .int .i64 0, .slice none 0 0]) rfl rfl rfl (Ap rfl) ((b4.keep k3 (by simp)).keep k4 (by simp)) (by simp [zero5]) (fun w9 p9 => ?_)
   repeat refine nx rfl ?_
   exact A2 rfl rfl rfl p9.blk.cells ⟨((e2.trans k3).trans k4).keep p9.keep (by simp), FAt.leaf _ _ 2 [] 0 0⟩
end Go.Proofs.YtkhhjdjmhbdjfaaGreatDoor
namespace Go.Proofs.YtkhhjdjmhbdjfaaGreatDoor
open Go.RowKit
set_option linter.unusedVariables false
def canG (f : Fml) : Fml := if Cc f = true then Al f else Af
theorem loose_parts {f : Fml} (h : Cc f = true) : szF f ≤ 400 ∧ dpF f ≤ 60 ∧ A9 false f = true := by
 simp only [Cc, Bool.and_eq_true, decide_eq_true_eq] at h
 obtain ⟨⟨h1, h2⟩, h3⟩ := h
 rw [bareG_eq (by omega)] at h3
 exact ⟨h1, h2, h3⟩
theorem Canon_ok (w : World) (v : Value) (f : Fml) (hf : FAt As w v f) (hG : GF w) (hK : KY w) (hN : 3 ≤ w.heap.size) : Fn Tryz.prog 13 [v] w fun u w' => Ext w w' ∧ FAt (fun b => w.heap.size ≤ b ∧ Unm w' b) w' u (canG f) := by
 obtain ⟨c, rfl, hc5, hone⟩ := hf.cells
 obtain ⟨x0, x1, x2, x3, x4, rfl⟩ := A7 hc5
 refine AR Tryz.func13 rfl Tryz.ntmps13 (Nat.le_of_ble_eq_true rfl) (by kernel_rfl) ?_
 repeat refine nx rfl ?_
 (refine AA ?_; refine A5 (L := [x0, x1, x2, x3, x4]) rfl (fun w1 n1 => ?_))
 refine Ar (L := zero5) (fun w2 n2 => ?_)
 repeat refine nx rfl ?_
 have z1 := n1.size
 have kk := n1.keep.trans n2.keep
 have b1 : Blk w2 w.heap.size 25 [x0, x1, x2, x3, x4] := n1.blk.keep n2.keep (by simp)
 have b2 := n2.blk
 have hp : PF As w2 w.heap.size 0 f := ⟨trivial, _, rfl, b1.cells, hf.ext kk⟩
 refine AA ?_
 refine AQ (loose_ok w2 w.heap.size 0 f hp (hG.ext kk) (hK.keep kk (by simp)) (Nat.le_trans hN kk.size)) rfl ?_
 rintro _ w3 ⟨rfl, k3⟩
 have b23 := b2.keep k3 (by simp)
 unfold canG
 cases hl : Cc f with
 | false =>
  rw [if_neg Bool.false_ne_true]
  refine Ak rfl ?_
  repeat refine nx rfl ?_
  refine AA (BE (by rfl) (by rfl) ?_)
  refine AU (cs := zero5) rfl rfl rfl (Ap rfl) b23 (by simp [zero5]) (fun w9 p9 => ?_)
  repeat refine nx rfl ?_
  exact A2 rfl rfl rfl p9.blk.cells ⟨(kk.trans k3).keep p9.keep (by simp; omega), FAt.leaf _ _ 0 [] 0 0⟩
 | true =>
  rw [if_pos rfl]
  obtain ⟨l1, l2, l3⟩ := loose_parts hl
  refine Ak rfl ?_
  repeat first | refine nx rfl ?_ | refine nf rfl ?_
  refine AA ?_
  refine AQ (canon_ok 60 w3 w.heap.size 0 f l2 (by omega) (hp.keep k3 (fun _ _ => by simp)) (sh_bare l3)) rfl ?_
  rintro u w4 ⟨k4, f4⟩
  obtain ⟨cs, rfl, hcs, hone⟩ := f4.cells
  obtain ⟨y0, y1, y2, y3, y4, rfl⟩ := A7 hcs
  have z3 := kk.size
  have z3' := k3.size
  have z2 := n2.size
  refine AU (cs := [y0, y1, y2, y3, y4]) rfl rfl rfl hone (b23.keep k4 (by simp)) (by simp [zero5]) (fun w9 p9 => ?_)
  repeat refine nx rfl ?_
  exact A2 rfl rfl rfl p9.blk.cells ⟨((kk.trans k3).trans k4).keep p9.keep (by simp; omega), (f4.unm p9.keep (fun y hy hm => by rw [List.mem_singleton] at hm; omega)).mono fun y hy => ⟨by omega, hy.2⟩⟩
def resG (x : Vl) (f : Fml) : Fml := canG (rawF x f)
theorem resid_ok (w : World) (r : Nat) (S : List Sgn) (x : Int) (hR : Rdr w r S x) (b o : Nat) (f : Fml) (hl : Cc f = true) (hk : isB (knS S) f = true) (hf : PF As w b o f) (hG : GF w) (hK : KY w) (hN : 3 ≤ w.heap.size) :
  Fn Tryz.prog 46 [pt r, .pointer (some ⟨b, o, none⟩)] w fun u w' => Ext w w' ∧ FAt (fun b => w.heap.size ≤ b ∧ Unm w' b) w' u (resG (vlS S x) f) := by
 obtain ⟨l1, l2, l3⟩ := loose_parts hl
 refine AR Tryz.func46 rfl Tryz.ntmps46 (Nat.le_of_ble_eq_true rfl) (by kernel_rfl) ?_
 repeat refine nx rfl ?_
 (refine AA ?_; refine Ar (L := zero5) (fun w1 n1 => ?_))
 repeat refine nx rfl ?_
 have z1 := n1.size
 refine AA (AP rfl (AP rfl ?_))
 refine AQ (rraw_ok w r S x hR 60 w1 b o f l2 (by omega) n1.keep (hf.keep n1.keep (fun _ _ => by simp)) l3 hk) rfl ?_
 rintro u w2 ⟨k2, f2⟩
 obtain ⟨cs, rfl, hcs, hone⟩ := f2.cells
 obtain ⟨x0, x1, x2, x3, x4, rfl⟩ := A7 hcs
 refine Ar (L := zero5) (fun w3 n3 => ?_)
 refine AU (cs := [x0, x1, x2, x3, x4]) rfl rfl rfl hone n3.blk (by simp [zero5]) (fun w4 p4 => ?_)
 repeat refine nx rfl ?_
 have b5 : Blk w4 w2.heap.size 25 [x0, x1, x2, x3, x4] := p4.blk
 have k24 : Ext w2 w4 := n3.keep.keep p4.keep (by simp)
 have e4 := (n1.keep.trans k2).trans k24
 have b4 : Blk w4 w.heap.size 25 zero5 := n1.blk.keep (k2.trans k24) (by simp)
 refine AA ?_
 refine Ac rfl b5 rfl ?_
 refine AQ (Canon_ok w4 _ _ ((f2.ext k24).mono fun _ _ => trivial) (hG.ext e4) (hK.keep e4 (by simp)) (Nat.le_trans hN e4.size)) rfl ?_
 rintro u w5 ⟨k5, f5⟩
 obtain ⟨cs, rfl, hcs, hone⟩ := f5.cells
 obtain ⟨y0, y1, y2, y3, y4, rfl⟩ := A7 hcs
 have z4 := e4.size
 have z2 := k2.size
 have z24 := k24.size
 refine AU (cs := [y0, y1, y2, y3, y4]) rfl rfl rfl hone (b4.keep k5 (by simp)) (by simp [zero5]) (fun w9 p9 => ?_)
 repeat refine nx rfl ?_
 exact A2 rfl rfl rfl p9.blk.cells ⟨(e4.trans k5).keep p9.keep (by simp), (f5.unm p9.keep (fun y hy hm => by rw [List.mem_singleton] at hm; omega)).mono fun y hy => ⟨by omega, hy.2⟩⟩
def looseP (f : Fml) : Bool := Ci f || decide ((canG f).op ≠ 0)
theorem rloose_ok (w : World) (b o : Nat) (f : Fml) (hf : PF As w b o f) (hG : GF w) (hK : KY w) (hN : 3 ≤ w.heap.size) : Fn Tryz.prog 68 [.pointer (some ⟨b, o, none⟩)] w fun u w' => u = .bool (looseP f) ∧ Ext w w' := by
 have hf0 := hf
 obtain ⟨_, d, hd, hdc, hdf⟩ := hf
 obtain ⟨x0, x1, x2, x3, x4, rfl⟩ := A7 hd
 refine AR Tryz.func68 rfl Tryz.ntmps68 (Nat.le_of_ble_eq_true rfl) (by kernel_rfl) ?_
 repeat refine nx rfl ?_
 refine AA (AC (AB rfl ?_))
 repeat refine nx rfl ?_
 refine AA (AP rfl (AH rfl ?_))
 refine Ao (L := [x0, x1, x2, x3, x4]) rfl rfl hdc ?_
 refine AQ (iskernel_ok w _ f hdf hG hK hN) rfl ?_
 rintro _ w1 ⟨rfl, k1⟩
 unfold looseP
 cases hkf : Ci f with
 | true =>
  refine AB rfl (AL rfl (AL rfl ?_))
  refine AL rfl (AL rfl (AL rfl (AL rfl (AK rfl (AB rfl (AC (AB rfl ?_)))))))
  repeat refine nx rfl ?_
  exact AI rfl ⟨rfl, k1⟩
 | false =>
  refine AB rfl (AE rfl (AP rfl (AE rfl (AH rfl ?_))))
  refine AE rfl (Ao (L := [x0, x1, x2, x3, x4]) rfl rfl (hdc.keep k1 (by simp)) ?_)
  refine AE rfl (AQ (Canon_ok w1 _ f (hdf.ext k1) (hG.ext k1) (hK.keep k1 (by simp)) (Nat.le_trans hN k1.size)) rfl ?_)
  rintro u w2 ⟨k2, f2⟩
  obtain ⟨av, rfl, _⟩ := f2.form
  refine AE rfl (W_field (L := [.int .i64 (canG f).op, An (canG f).name, .int .i64 (canG f).val, .int .i64 (canG f).bound, av]) rfl rfl ?_)
  by_cases h0 : (canG f).op = 0
  ·rw [decide_eq_false (by omega)]
   refine AE rfl (W_neqF rfl rfl (by omega) (AJ rfl (AB rfl (AC (AB rfl ?_)))))
   repeat refine nx rfl ?_
   exact AI rfl ⟨rfl, k1.trans k2⟩
  ·rw [decide_eq_true h0]
   refine AE rfl (W_neqT rfl rfl (by omega) (AJ rfl (AB rfl (AC (AB rfl ?_)))))
   repeat refine nx rfl ?_
   exact AI rfl ⟨rfl, k1.trans k2⟩
end Go.Proofs.YtkhhjdjmhbdjfaaGreatDoor
namespace Go.Proofs.YtkhhjdjmhbdjfaaGreatDoor
open Go.RowKit
set_option linter.unusedVariables false
theorem isL_all (k : List UInt8 → Int → Bool) : ∀ l : List Fml, isL k l = l.all (isB k)
 | [] => rfl
 | a :: l => by rw [isL, isL_all k l]; rfl
theorem known_ok (w0 : World) (sa : Option Addr) (sc : Nat) (S : List Sgn) (hS : SlAt sgnR As w0 (.slice sa S.length sc) S) : ∀ (n : Nat) (w : World) (b o : Nat) (f : Fml), dpF f ≤ n → Ext w0 w → PF As w b o f → Fn Tryz.prog 69 [.slice sa S.length sc, .pointer (some ⟨b, o, none⟩)] w fun u w' => u = .bool (isB (knS S) f) ∧ Ext w w' := by
 intro n
 induction n with
 | zero => intro w b o f hn; rw [Bd] at hn; omega
 | succ n ih =>
 intro w b o f hn e0 hf
 rw [Bd] at hn
 have hSw := hS.ext e0
 obtain ⟨aa, cc, hla, q0, q1, q2, q3, q4, qa⟩ := hf.all
 obtain ⟨op, nm, v, bd, args⟩ := f
 simp only [Fml.op, Fml.name, Fml.val, Fml.args] at *
 have harg0 : ∀ (k : Nat) (a : Fml), args[k]? = some a → ∀ W, Ext w W → ∃ b' o', aa = some ⟨b', o', none⟩ ∧ Fn Tryz.prog 69 [.slice sa S.length sc, .pointer (some ⟨b', o' + k * 5, none⟩)] W fun u w' => u = .bool (isB (knS S) a) ∧ Ext W w' := fun k a ha W eW => by
  obtain ⟨b', o', e, hp⟩ := qa k a ha
  have hm' := List.mem_of_getElem? ha
  have := Bp hm'
  exact ⟨b', o', e, ih W b' _ a (by omega) (e0.trans eW) (hp.keep eW (fun _ _ => by simp))⟩
 rw [isB]
 refine AR Tryz.func69 rfl Tryz.ntmps69 (Nat.le_of_ble_eq_true rfl) (by kernel_rfl) ?_
 repeat refine nx rfl ?_
 refine AA (AC (AB rfl ?_))
 repeat refine nx rfl ?_
 refine AA (AP rfl (AH rfl (AD rfl (AF rfl (by assumption) ?_))))
 refine W_eqlD rfl rfl ?_
 refine AO ?_
 refine Q_then ?_
 refine Cn (α := Unit) (fun _ => [(0, .slice sa S.length sc), (1, .pointer (some ⟨b, o, none⟩))]) (fun _ W => Ext w W ∧ (if op = 3 then knS S nm v else true) = true) ?_ ?_
 ·by_cases h3 : op = 3
  ·rw [decide_eq_true h3]
   repeat refine nx rfl ?_
   refine AA (AM rfl (AP rfl (AH rfl (AD rfl (AF rfl (by assumption) ?_)))))
   refine AQ (sigFind_ok w _ S nm hSw) rfl ?_
   rintro _ w2 ⟨rfl, rfl⟩
   simp only [if_pos h3]
   unfold Cs knS
   cases hj : S.findIdx? (fun y => decide (y.name = nm)) with
   | none =>
    simp only
    refine AC (AG rfl ?_)
    repeat refine nx rfl ?_
    refine Ad (.read 0 (.read 1 (.read 2 (.read 3 (.read 4 (.read 5 (.read 6 (.read 7 (.read 8 (.read 9 (.read 10 (.read 11 (.read 12 (.read 13 .done)))))))))))))) Ax (by kernel_rfl) (fun wd kd ed => ⟨Ext wd, ?_, ?_⟩)
    ·exact Ext.refl _
    refine D_R rfl rfl (fun W hW => AG rfl Z3) (D_lssT rfl rfl rfl rfl (by omega) (D_R rfl rfl (fun W hW => AB rfl Z3) (Am rfl rfl rfl rfl (Am rfl rfl rfl rfl (Am rfl rfl rfl rfl (Am rfl rfl rfl rfl (Am rfl rfl rfl rfl (Am rfl rfl rfl rfl (Am rfl rfl rfl rfl (Am rfl rfl rfl rfl (Am rfl rfl rfl rfl (Am rfl rfl rfl rfl (D_R rfl rfl (fun W hW => AK rfl (AB rfl Z3)) (Ah ?_))))))))))))))
    repeat refine nx rfl ?_
    refine AA (AC (AB rfl ?_))
    repeat refine nx rfl ?_
    exact AI rfl ⟨rfl, kd⟩
   | some j =>
    have hjl : j < S.length := (List.findIdx?_eq_some_iff_getElem.1 hj).1
    obtain ⟨s, hs⟩ : ∃ s, S[j]? = some s := ⟨_, List.getElem?_eq_getElem hjl⟩
    obtain ⟨_, sb, so, rfl, _, hsc⟩ := hSw.sig hs
    simp only [hs]
    refine AC (AG rfl ?_)
    repeat refine nx rfl ?_
    refine Ad (.read 0 (.read 1 (.read 2 (.read 3 (.read 4 (.read 5 (.read 6 (.read 7 (.read 8 (.read 9 (.read 10 (.read 11 (.read 12 (.read 13 .done)))))))))))))) Ax (by kernel_rfl) (fun wd kd ed => ⟨Ext wd, ?_, ?_⟩)
    ·exact Ext.refl _
    have s1 : ∀ V, Ext wd V → V.cell? ⟨b, o + 2, none⟩ = some (.int .i64 v) := fun V e => (kd.trans e).cell q2 (by simp)
    have s2 : ∀ V, Ext wd V → V.cell? ⟨sb, so + j * 3 + 2, none⟩ = some (.int .i64 s.size) := fun V e => (kd.trans e).cell (hsc 2 _ rfl) (by simp)
    by_cases hv : v < s.size
    ·refine D_R rfl rfl (fun W hW => AG rfl Z3) (D_lssF rfl rfl rfl rfl (by omega) (D_R rfl rfl (fun W hW => AB rfl Z3) (D_R rfl rfl (fun W hW => AE rfl (AP rfl Z3)) (D_R rfl rfl (fun W hW => AE rfl (AH rfl Z3)) (D_R rfl rfl (fun W hW => AE rfl (AD rfl Z3)) (D_R rfl rfl (fun W hW => AE rfl (AF rfl (s1 W hW) Z3)) (D_R rfl rfl (fun W hW => AE rfl (AM rfl Z3)) (D_R rfl rfl (fun W hW => AE rfl (AG rfl Z3)) (D_R rfl rfl (fun W hW => AE rfl (Au rfl rfl rfl (by omega) Z3)) (D_R rfl rfl (fun W hW => AE rfl (AD rfl Z3)) (D_R rfl rfl (fun W hW => AE rfl (AF rfl (s2 W hW) Z3)) (D_geqF rfl rfl rfl rfl (by omega) (D_R rfl rfl (fun W hW => AJ rfl (AB rfl Z3)) (Ah ?_))))))))))))))
     repeat first | refine nx rfl ?_ | refine nf rfl ?_
     exact A0 () ⟨rfl, rfl, trivial⟩ ⟨kd, decide_eq_true hv⟩
    ·refine D_R rfl rfl (fun W hW => AG rfl Z3) (D_lssF rfl rfl rfl rfl (by omega) (D_R rfl rfl (fun W hW => AB rfl Z3) (D_R rfl rfl (fun W hW => AE rfl (AP rfl Z3)) (D_R rfl rfl (fun W hW => AE rfl (AH rfl Z3)) (D_R rfl rfl (fun W hW => AE rfl (AD rfl Z3)) (D_R rfl rfl (fun W hW => AE rfl (AF rfl (s1 W hW) Z3)) (D_R rfl rfl (fun W hW => AE rfl (AM rfl Z3)) (D_R rfl rfl (fun W hW => AE rfl (AG rfl Z3)) (D_R rfl rfl (fun W hW => AE rfl (Au rfl rfl rfl (by omega) Z3)) (D_R rfl rfl (fun W hW => AE rfl (AD rfl Z3)) (D_R rfl rfl (fun W hW => AE rfl (AF rfl (s2 W hW) Z3)) (D_geqT rfl rfl rfl rfl (by omega) (D_R rfl rfl (fun W hW => AJ rfl (AB rfl Z3)) (Ah ?_))))))))))))))
     repeat refine nx rfl ?_
     refine AA (AC (AB rfl ?_))
     repeat refine nx rfl ?_
     exact AI rfl ⟨by rw [decide_eq_false hv]; rfl, kd⟩
  ·rw [decide_eq_false h3]
   repeat first | refine nx rfl ?_ | refine nf rfl ?_
   exact A0 () ⟨rfl, rfl, trivial⟩ ⟨Ext.refl _, by rw [if_neg h3]⟩
 rintro _ w5 f5 ⟨k05, hres⟩
 rw [hres, Bool.true_and, isL_all]
 have q4' := k05.cell q4 (by simp)
 clear q4
 have q4 := q4'
 have harg : ∀ (k : Nat) (a : Fml), args[k]? = some a → ∀ W, Ext w5 W → ∃ b' o', aa = some ⟨b', o', none⟩ ∧ Fn Tryz.prog 69 [.slice sa S.length sc, .pointer (some ⟨b', o' + k * 5, none⟩)] W fun u w' => u = .bool (isB (knS S) a) ∧ Ext W w' := fun k a ha W eW => harg0 k a ha W (k05.trans eW)
 repeat refine nx rfl ?_
 (refine AA (AP rfl (AH rfl (AD rfl (AF rfl (by assumption) ?_)))) <;> refine AZ rfl (AG rfl ?_))
 repeat refine nx rfl ?_
 refine A3 (α := Nat) (fun k => [(0, .slice sa S.length sc), (1, .pointer (some ⟨b, o, none⟩)), (36, .int .i64 (args.length : Int)), (37, .int .i64 (k : Int))]) (fun k W => k ≤ args.length ∧ Ext w5 W ∧ ∀ (i : Nat) (y : Fml), i < k → args[i]? = some y → isB (knS S) y = true) (fun k => args.length - k) 0 (by repeat (first | exact trivial | refine ⟨rfl, ?_⟩)) ⟨by omega, Ext.refl _, fun i y hi => by omega⟩ ?_
 rintro k W fr ⟨hkl, kW, hbefore⟩
 have q4W := kW.cell q4 (by simp)
 repeat refine nx rfl ?_
 by_cases hlt : k < args.length
 ·refine AA (At rfl rfl (by omega) ?_)
  repeat refine nx rfl ?_
  refine AA (AG rfl (AC (AG rfl ?_)))
  repeat refine nx rfl ?_
  obtain ⟨y, hy⟩ : ∃ y, args[k]? = some y := ⟨_, List.getElem?_eq_getElem hlt⟩
  obtain ⟨b', o', rfl, hfn⟩ := harg k y hy W kW
  (refine AA (AM rfl (AP rfl (AH rfl (AD rfl (AF rfl (by assumption) ?_))))) <;> refine AG rfl (Au rfl rfl rfl (by omega) ?_))
  refine AQ hfn rfl ?_
  rintro _ w4 ⟨rfl, k4⟩
  have k5 := kW.trans k4
  cases hv : isB (knS S) y with
  | true =>
   refine Ak rfl ?_
   repeat first | refine nx rfl ?_ | refine nf rfl ?_
   (refine AA (Av rfl rfl (by first | exact AV (by omega) (by omega) | exact AY (by omega) (by omega) | exact AW (by omega) (by omega)) ?_) <;> refine AG rfl ?_)
   repeat refine nx rfl ?_
   refine ⟨k + 1, ⟨rfl, ⟨(by repeat (first | exact trivial | refine ⟨rfl, ?_⟩)), ⟨by omega, k5, fun i z hi hz => ?_⟩⟩⟩, by omega⟩
   by_cases hik : i = k
   ·subst hik; rw [hy] at hz; cases hz; exact hv
   ·exact hbefore i z (by omega) hz
  | false =>
   refine Ak rfl ?_
   repeat refine nx rfl ?_
   refine AA (AC (AB rfl ?_))
   repeat refine nx rfl ?_
   exact AI rfl ⟨congrArg Value.bool (all_stop hy hv).symm, (k05).trans k5⟩
 ·refine AA (Aj rfl rfl (by omega) ?_)
  repeat first | refine nx rfl ?_ | refine nf rfl ?_
  refine AA (AC (AB rfl ?_))
  repeat refine nx rfl ?_
  exact AI rfl ⟨congrArg Value.bool (all_done fun i z hi hz => hbefore i z (by omega) hz).symm, (k05).trans kW⟩
def fitsB (S : List Sgn) (f : Fml) : Bool := BG S && (looseP f && isB (knS S) f)
theorem pfits_ok (w : World) (sa : Option Addr) (sc : Nat) (S : List Sgn) (b o : Nat) (f : Fml) (hS : SlAt sgnR As w (.slice sa S.length sc) S) (hf : PF As w b o f) (hG : GF w) (hK : KY w) (hN : 3 ≤ w.heap.size) :
  Fn Tryz.prog 38 [.slice sa S.length sc, .pointer (some ⟨b, o, none⟩)] w fun u w' => u = .bool (fitsB S f) ∧ Ext w w' := by
 refine AR Tryz.func38 rfl Tryz.ntmps38 (Nat.le_of_ble_eq_true rfl) (by kernel_rfl) ?_
 repeat refine nx rfl ?_
 refine AA (AC (AB rfl ?_))
 repeat refine nx rfl ?_
 refine AA (AM rfl ?_)
 refine AQ (sigValid_ok w _ S hS hK) rfl ?_
 rintro _ w1 ⟨rfl, k1⟩
 unfold fitsB
 cases BG S with
 | false =>
  refine AB rfl (AL rfl ?_)
  refine AL rfl ?_
  refine AJ rfl (AB rfl (AB rfl (AL rfl (AL rfl ?_))))
  refine AL rfl (AJ rfl (AB rfl (AC (AB rfl ?_))))
  repeat refine nx rfl ?_
  exact AI rfl ⟨rfl, k1⟩
 | true =>
  refine AB rfl (AE rfl (AP rfl ?_))
  refine AE rfl (AQ (rloose_ok w1 b o f (hf.keep k1 (fun _ _ => by simp)) (hG.ext k1) (hK.keep k1 (by simp)) (Nat.le_trans hN k1.size)) rfl ?_)
  rintro _ w2 ⟨rfl, k2⟩
  cases looseP f with
  | false =>
   refine AK rfl (AB rfl (AB rfl (AL rfl (AL rfl ?_))))
   refine AL rfl (AJ rfl (AB rfl (AC (AB rfl ?_))))
   repeat refine nx rfl ?_
   exact AI rfl ⟨rfl, k1.trans k2⟩
  | true =>
   refine AK rfl (AB rfl (AB rfl (AE rfl (AM rfl (AE rfl (AP rfl ?_))))))
   have kk := k1.trans k2
   refine AE rfl (AQ (known_ok w2 sa sc S (hS.ext kk) (dpF f) w2 b o f (Nat.le_refl _) (Ext.refl _) (hf.keep kk (fun _ _ => by simp))) rfl ?_)
   rintro _ w3 ⟨rfl, k3⟩
   cases isB (knS S) f with
   | true =>
    refine AK rfl (AB rfl (AC (AB rfl ?_)))
    repeat refine nx rfl ?_
    exact AI rfl ⟨rfl, kk.trans k3⟩
   | false =>
    refine AK rfl (AB rfl (AC (AB rfl ?_)))
    repeat refine nx rfl ?_
    exact AI rfl ⟨rfl, kk.trans k3⟩
theorem fits_parts {S : List Sgn} {f : Fml} (h : fitsB S f = true) : BG S = true ∧ Cc f = true ∧ isB (knS S) f = true := by
 simp only [fitsB, Bool.and_eq_true] at h
 obtain ⟨h1, h2, h3⟩ := h
 refine ⟨h1, ?_, h3⟩
 unfold looseP at h2
 rcases Bool.or_eq_true_iff.1 h2 with h | h
 ·simp only [Ci, Bool.and_eq_true, decide_eq_true_eq] at h
  simp only [Cc, Bool.and_eq_true, decide_eq_true_eq]
  exact ⟨⟨by omega, by omega⟩, h.2⟩
 ·cases hl : Cc f with
  | true => rfl
  | false =>
   unfold canG at h
   rw [hl, if_neg Bool.false_ne_true] at h
   exact absurd rfl (of_decide_eq_true h)
def stepG (S : List Sgn) (f : Fml) (x : Int) : Fml := if fitsB S f = true ∧ 0 ≤ x ∧ x < Bm S then resG (vlS S x) f else Af
theorem Step_ok (w : World) (sa : Option Addr) (sc : Nat) (S : List Sgn) (v : Value) (f : Fml) (x : Int) (hS : SlAt sgnR As w (.slice sa S.length sc) S) (hf : FAt As w v f) (hG : GF w) (hK : KY w) (hN : 3 ≤ w.heap.size) :
  Fn Tryz.prog 17 [.slice sa S.length sc, v, .int .i64 x] w fun u w' => Ext w w' ∧ FAt (fun b => w.heap.size ≤ b ∧ Unm w' b) w' u (stepG S f x) := by
 obtain ⟨c, rfl, hc5, hone⟩ := hf.cells
 obtain ⟨x0, x1, x2, x3, x4, rfl⟩ := A7 hc5
 refine AR Tryz.func17 rfl Tryz.ntmps17 (Nat.le_of_ble_eq_true rfl) (by kernel_rfl) ?_
 repeat refine nx rfl ?_
 (refine AA ?_; refine A5 (L := [x0, x1, x2, x3, x4]) rfl (fun w1 n1 => ?_))
 refine Ar (L := zero5) (fun w2 n2 => ?_)
 repeat refine nx rfl ?_
 have z1 := n1.size
 have z2 := n2.size
 have kk := n1.keep.trans n2.keep
 have b1 : Blk w2 w.heap.size 25 [x0, x1, x2, x3, x4] := n1.blk.keep n2.keep (by simp)
 have b2 := n2.blk
 have hp : PF As w2 w.heap.size 0 f := ⟨trivial, _, rfl, b1.cells, hf.ext kk⟩
 refine AA (AM rfl ?_)
 refine AQ (pfits_ok w2 sa sc S w.heap.size 0 f (hS.ext kk) hp (hG.ext kk) (hK.keep kk (by simp)) (Nat.le_trans hN kk.size)) rfl ?_
 rintro _ w3 ⟨rfl, k3⟩
 have e3 := kk.trans k3
 have b23 := b2.keep k3 (by simp)
 unfold stepG
 cases hfit : fitsB S f with
 | false =>
  rw [if_neg (fun h => Bool.false_ne_true h.1)]
  refine Ak rfl (AB rfl (AL rfl (AL rfl (AK rfl (AB rfl (AB rfl (AL rfl (AL rfl ?_))))))))
  refine AL rfl (AL rfl (AK rfl (AB rfl ?_)))
  repeat refine nx rfl ?_
  refine AA (BE (by rfl) (by rfl) ?_)
  refine AU (cs := zero5) rfl rfl rfl (Ap rfl) b23 (by simp [zero5]) (fun w9 p9 => ?_)
  repeat refine nx rfl ?_
  exact A2 rfl rfl rfl p9.blk.cells ⟨e3.keep p9.keep (by simp; omega), FAt.leaf _ _ 0 [] 0 0⟩
 | true =>
  obtain ⟨hv, hl, hk⟩ := fits_parts hfit
  by_cases hx0 : x < 0
  ·rw [if_neg (fun h => by omega)]
   refine Ak rfl (AB rfl (AE rfl (AG rfl (AE rfl (At rfl rfl (by omega) (AJ rfl (AB rfl (AB rfl (AL rfl (AL rfl ?_))))))))))
   refine AL rfl (AL rfl (AK rfl (AB rfl ?_)))
   repeat refine nx rfl ?_
   refine AA (BE (by rfl) (by rfl) ?_)
   refine AU (cs := zero5) rfl rfl rfl (Ap rfl) b23 (by simp [zero5]) (fun w9 p9 => ?_)
   repeat refine nx rfl ?_
   exact A2 rfl rfl rfl p9.blk.cells ⟨e3.keep p9.keep (by simp; omega), FAt.leaf _ _ 0 [] 0 0⟩
  ·refine Ak rfl (AB rfl (AE rfl (AG rfl (AE rfl (Aj rfl rfl (by omega) (AJ rfl (AB rfl (AB rfl (AE rfl (AG rfl (AE rfl (AM rfl ?_))))))))))))
   refine AE rfl (AQ (letters_ok w3 _ S (hS.ext e3) (hK.keep e3 (by simp)) (Nat.le_trans hN e3.size)) rfl ?_)
   rintro _ w4 ⟨rfl, k4⟩
   have e4 := e3.trans k4
   have b24 := b23.keep k4 (by simp)
   by_cases hx1 : x < Bm S
   ·rw [if_pos ⟨rfl, by omega, hx1⟩]
    refine AE rfl (CD rfl rfl (by omega) (AJ rfl (AB rfl ?_)))
    repeat first | refine nx rfl ?_ | refine nf rfl ?_
    refine AA (AM rfl (AG rfl ?_))
    refine AQ (readerOf_ok w4 _ S x (hS.ext e4) hv (by omega) hx1 (hK.keep e4 (by simp)) (Nat.le_trans hN e4.size)) rfl ?_
    rintro _ w5 ⟨r, rfl, k5, hR⟩
    have e5 := e4.trans k5
    refine AQ (resid_ok w5 r S x hR w.heap.size 0 f hl hk (hp.keep ((k3.trans k4).trans k5) (fun _ _ => by simp)) (hG.ext e5) (hK.keep e5 (by simp)) (Nat.le_trans hN e5.size)) rfl ?_
    rintro u w6 ⟨k6, f6⟩
    obtain ⟨cs, rfl, hcs, hone⟩ := f6.cells
    obtain ⟨y0, y1, y2, y3, y4, rfl⟩ := A7 hcs
    have z4 := e4.size
    have z5 := k5.size
    have z3 := k3.size
    have z34 := k4.size
    refine AU (cs := [y0, y1, y2, y3, y4]) rfl rfl rfl hone ((b24.keep k5 (by simp)).keep k6 (by simp)) (by simp [zero5]) (fun w9 p9 => ?_)
    repeat refine nx rfl ?_
    exact A2 rfl rfl rfl p9.blk.cells ⟨(e5.trans k6).keep p9.keep (by simp; omega), (f6.unm p9.keep (fun y hy hm => by rw [List.mem_singleton] at hm; omega)).mono fun y hy => ⟨by omega, hy.2⟩⟩
   ·rw [if_neg (fun h => hx1 h.2.2)]
    refine AE rfl (BC rfl rfl (by omega) (AJ rfl (AB rfl ?_)))
    repeat refine nx rfl ?_
    refine AA (BE (by rfl) (by rfl) ?_)
    refine AU (cs := zero5) rfl rfl rfl (Ap rfl) b24 (by simp [zero5]) (fun w9 p9 => ?_)
    repeat refine nx rfl ?_
    exact A2 rfl rfl rfl p9.blk.cells ⟨e4.keep p9.keep (by simp; omega), FAt.leaf _ _ 0 [] 0 0⟩
def runL (S : List Sgn) : Fml → List Int → Fml
 | out, [] => out
 | out, x :: xs => if (stepG S out x).op = 0 then Af else runL S (stepG S out x) xs
def runG (S : List Sgn) (f : Fml) (xs : List Int) : Fml := if fitsB S f = true then runL S (canG f) xs else Af
def runK (S : List Sgn) (f : Fml) (xs : List Int) : Nat → Fml
 | 0 => canG f
 | k + 1 => stepG S (runK S f xs k) (xs.getD k 0)
theorem runL_K (S : List Sgn) (f : Fml) (xs : List Int) : ∀ k, k ≤ xs.length → (∀ i, i < k → (runK S f xs (i + 1)).op ≠ 0) → runL S (canG f) xs = runL S (runK S f xs k) (xs.drop k)
 | 0, _, _ => by simp [runK]
 | k + 1, hk, h => by
  rw [runL_K S f xs k (by omega) fun i hi => h i (by omega)]
  have e : xs.drop k = xs.getD k 0 :: xs.drop (k + 1) := by
   rw [List.drop_eq_getElem_cons (by omega : k < xs.length), List.getD_eq_getElem?_getD, List.getElem?_eq_getElem (by omega : k < xs.length)]; rfl
  rw [e, runL, if_neg (show ¬ (stepG S (runK S f xs k) (xs.getD k 0)).op = 0 from h k (by omega))]; rfl
theorem Run_ok (w : World) (sa : Option Addr) (sc : Nat) (S : List Sgn) (v : Value) (f : Fml) (la : Option Addr) (lc : Nat) (xs : List Int) (hS : SlAt sgnR As w (.slice sa S.length sc) S) (hf : FAt As w v f) (hG : GF w) (hK : KY w) (hN : 3 ≤ w.heap.size)
  (hxs : Sl As w (.slice la xs.length lc) xs.length (xs.map (.int .i64))) :
  Fn Tryz.prog 12 [.slice sa S.length sc, v, .slice la xs.length lc] w fun u w' => Ext w w' ∧ FAt (fun b => w.heap.size ≤ b ∧ Unm w' b) w' u (runG S f xs) := by
 obtain ⟨c, rfl, hc5, hone⟩ := hf.cells
 obtain ⟨x0, x1, x2, x3, x4, rfl⟩ := A7 hc5
 have hxl : xs.length ≤ 9223372036854775807 := by obtain ⟨_, _, hv, g1, g2, _⟩ := id hxs; cases hv; omega
 refine AR Tryz.func12 rfl Tryz.ntmps12 (Nat.le_of_ble_eq_true rfl) (by kernel_rfl) ?_
 repeat refine nx rfl ?_
 (refine AA ?_; refine A5 (L := [x0, x1, x2, x3, x4]) rfl (fun w1 n1 => ?_))
 refine Ar (L := zero5) (fun w2 n2 => ?_)
 repeat refine nx rfl ?_
 have z1 := n1.size
 have z2 := n2.size
 have kk := n1.keep.trans n2.keep
 have b1 : Blk w2 w.heap.size 25 [x0, x1, x2, x3, x4] := n1.blk.keep n2.keep (by simp)
 have b2 := n2.blk
 have hp : PF As w2 w.heap.size 0 f := ⟨trivial, _, rfl, b1.cells, hf.ext kk⟩
 refine AA (AM rfl ?_)
 refine AQ (pfits_ok w2 sa sc S w.heap.size 0 f (hS.ext kk) hp (hG.ext kk) (hK.keep kk (by simp)) (Nat.le_trans hN kk.size)) rfl ?_
 rintro _ w3 ⟨rfl, k3⟩
 have e3 := kk.trans k3
 have z3 := k3.size
 have b23 := b2.keep k3 (by simp)
 unfold runG
 cases hfit : fitsB S f with
 | false =>
  rw [if_neg Bool.false_ne_true]
  refine Ak rfl ?_
  repeat refine nx rfl ?_
  refine AA (BE (by rfl) (by rfl) ?_)
  refine AU (cs := zero5) rfl rfl rfl (Ap rfl) b23 (by simp [zero5]) (fun w9 p9 => ?_)
  repeat refine nx rfl ?_
  exact A2 rfl rfl rfl p9.blk.cells ⟨e3.keep p9.keep (by simp; omega), FAt.leaf _ _ 0 [] 0 0⟩
 | true =>
  rw [if_pos rfl]
  refine Ak rfl ?_
  repeat first | refine nx rfl ?_ | refine nf rfl ?_
  have b13 := b1.keep k3 (by simp)
  refine AA ?_
  refine Ac rfl b13 rfl ?_
  refine AQ (Canon_ok w3 _ f (hf.ext e3) (hG.ext e3) (hK.keep e3 (by simp)) (Nat.le_trans hN e3.size)) rfl ?_
  rintro u w4 ⟨k4, f4⟩
  obtain ⟨cs, rfl, hcs, hone⟩ := f4.cells
  obtain ⟨y0, y1, y2, y3, y4, rfl⟩ := A7 hcs
  refine Ar (L := zero5) (fun w5 n5 => ?_)
  refine AU (cs := [y0, y1, y2, y3, y4]) rfl rfl rfl hone n5.blk (by simp [zero5]) (fun w6 p6 => ?_)
  repeat refine nx rfl ?_
  have k46 : Ext w4 w6 := n5.keep.keep p6.keep (by simp)
  have e6 := (e3.trans k4).trans k46
  have z4 := k4.size
  have z5 := n5.size
  have z6 := p6.size
  obtain ⟨t7, ht7⟩ : ∃ t, t = w4.heap.size := ⟨_, rfl⟩
  have b76 : Blk w6 t7 25 [y0, y1, y2, y3, y4] := by rw [ht7]; exact p6.blk
  have b26 := (b23.keep k4 (by simp)).keep k46 (by simp)
  have f6 : FAt (fun b => (w3.heap.size ≤ b ∧ b ≠ t7) ∧ Unm w6 b) w6 (.agg [y0, y1, y2, y3, y4].toArray) (canG f) := ((f4.lt).ext k46).mono fun y hy => ⟨⟨hy.1.1, by have := hy.2; omega⟩, hy.1.2.eq (k46.block y hy.2 (by simp))⟩
  rw [← ht7]
  refine AA (AM rfl (AZ rfl (AG rfl ?_)))
  repeat refine nx rfl ?_
  refine A3 (α := Nat × List Value) (fun y => [(0, .slice sa S.length sc), (6, pt w1.heap.size), (7, pt t7), (16, .slice la xs.length lc), (17, .int .i64 (xs.length : Int)), (18, .int .i64 (y.1 : Int))])
   (fun y W => y.1 ≤ xs.length ∧ Ext w W ∧ w6.heap.size ≤ W.heap.size ∧ Blk W w1.heap.size 25 zero5 ∧ Blk W t7 25 y.2 ∧ y.2.length = 5 ∧ FAt (fun b => (w3.heap.size ≤ b ∧ b ≠ t7) ∧ Unm W b) W (.agg y.2.toArray) (runK S f xs y.1) ∧ ∀ i, i < y.1 → (runK S f xs (i + 1)).op ≠ 0) (fun y => xs.length - y.1) (0, [y0, y1, y2, y3, y4]) ⟨rfl, rfl, rfl, rfl, rfl, rfl, trivial⟩
   ⟨by simp, e6, Nat.le_refl _, b26, b76, rfl, f6, fun i hi => absurd hi (by simp)⟩ ?_
  rintro ⟨k, cs⟩ W fr ⟨hk, kW, zW, bW, cW, h5, fW, hW⟩
  simp only at hk cW h5 fW hW
  obtain ⟨y0, y1, y2, y3, y4, rfl⟩ := A7 h5
  have htl : t7 < W.heap.size := cW.lt
  repeat refine nx rfl ?_
  by_cases hlt : k < xs.length
  ·refine AA (At rfl rfl (by omega) ?_)
   repeat refine nx rfl ?_
   obtain ⟨x, hx⟩ : ∃ x, xs[k]? = some x := ⟨_, List.getElem?_eq_getElem hlt⟩
   have hxg : xs.getD k 0 = x := by rw [List.getD_eq_getElem?_getD, hx]; rfl
   obtain ⟨a', c', e', _, _, _, h4⟩ := id hxs
   cases e'
   obtain ⟨lb, lo, rfl, _, hlc⟩ := h4.resolve_left (by omega)
   have hcx : W.cell? ⟨lb, lo + k, none⟩ = some (.int .i64 x) := kW.cell (hlc k _ (by rw [List.getElem?_map, hx]; rfl)) (by simp)
   (refine AA (BL rfl rfl rfl (by omega) (AF rfl (by assumption) ?_)) <;> refine AC (AG rfl ?_))
   repeat refine nx rfl ?_
   (refine AA (AM rfl (Ac rfl (by assumption) (by rfl) ?_)) <;> refine AG rfl ?_)
   refine AQ (Step_ok W sa sc S _ _ x (hS.ext kW) (fW.mono fun _ _ => trivial) (hG.ext kW) (hK.keep kW (by simp)) (Nat.le_trans hN kW.size)) rfl ?_
   rintro u w7 ⟨k7, f7⟩
   obtain ⟨cs, rfl, hcs, hone⟩ := f7.cells
   obtain ⟨v0, v1, v2, v3, v4, rfl⟩ := A7 hcs
   have c7 := cW.keep k7 (by simp)
   refine AU (cs := [v0, v1, v2, v3, v4]) rfl rfl rfl hone c7 (by simp) (fun w8 p8 => ?_)
   repeat refine nx rfl ?_
   have c8 : Blk w8 t7 25 [v0, v1, v2, v3, v4] := p8.blk
   have e8 : Ext w w8 := (kW.trans k7).keep p8.keep (by simp; omega)
   have b8 := (bW.keep k7 (by simp)).keep p8.keep (by simp; omega)
   have z7 := k7.size
   have z8 := p8.size
   have hrk : runK S f xs (k + 1) = stepG S (runK S f xs k) x := by rw [runK, hxg]
   have f8 : FAt (fun b => (w3.heap.size ≤ b ∧ b ≠ t7) ∧ Unm w8 b) w8 (.agg [v0, v1, v2, v3, v4].toArray) (runK S f xs (k + 1)) := by
    rw [hrk]
    exact (f7.unm p8.keep (fun y hy hm => by rw [List.mem_singleton] at hm; omega)).mono fun y hy => ⟨⟨by omega, by omega⟩, hy.2⟩
   obtain ⟨av, ev, _⟩ := f8.form
   simp only [Value.agg.injEq, List.toArray_eq_iff, List.cons.injEq, and_true] at ev
   obtain ⟨rfl, _⟩ := ev
   have hdrop : xs.drop k = x :: xs.drop (k + 1) := by rw [List.drop_eq_getElem_cons hlt]; congr 1; exact (List.getElem?_eq_some_iff.1 hx).2
   by_cases h0 : (runK S f xs (k + 1)).op = 0
   ·(refine AA (AD rfl (AF rfl (Blk.cell (by assumption) (by rfl)) ?_)) <;> refine Ai rfl rfl (by omega) ?_)
    repeat refine nx rfl ?_
    refine AA (BE (by rfl) (by rfl) ?_)
    refine AU (cs := zero5) rfl rfl rfl (Ap rfl) b8 (by simp [zero5]) (fun w9 p9 => ?_)
    repeat refine nx rfl ?_
    have hr : runL S (canG f) xs = Af := by
     rw [runL_K S f xs k hk hW, hdrop, runL, ← hrk, if_pos h0]
    rw [hr]
    exact A2 rfl rfl rfl p9.blk.cells ⟨e8.keep p9.keep (by simp; omega), FAt.leaf _ _ 0 [] 0 0⟩
   ·(refine AA (AD rfl (AF rfl (Blk.cell (by assumption) (by rfl)) ?_)) <;> refine AT rfl rfl (by omega) ?_)
    repeat first | refine nx rfl ?_ | refine nf rfl ?_
    (refine AA (Av rfl rfl (by first | exact AV (by omega) (by omega) | exact AY (by omega) (by omega) | exact AW (by omega) (by omega)) ?_) <;> refine AG rfl ?_)
    repeat refine nx rfl ?_
    refine ⟨(k + 1, [.int .i64 (runK S f xs (k + 1)).op, v1, v2, v3, v4]), ⟨rfl, ⟨rfl, rfl, rfl, rfl, rfl, ?_, trivial⟩, ⟨by simp only; omega, e8, by omega, b8, c8, rfl, f8, fun i hi => ?_⟩⟩, by simp only; omega⟩
    ·show Value.int .i64 ((k : Int) + 1) = _
     rw [Int.natCast_add]; rfl
    ·simp only at hi
     by_cases hik : i = k
     ·subst hik; exact h0
     ·exact hW i (by omega)
  ·refine AA (Aj rfl rfl (by omega) ?_)
   repeat first | refine nx rfl ?_ | refine nf rfl ?_
   obtain rfl : k = xs.length := by omega
   have hr : runL S (canG f) xs = runK S f xs xs.length := by rw [runL_K S f xs xs.length hk hW, List.drop_length]; rfl
   rw [hr]
   refine AA (Ac rfl (by assumption) (by rfl) ?_)
   refine AU (cs := [y0, y1, y2, y3, y4]) rfl rfl rfl fW.one bW (by simp [zero5]) (fun w9 p9 => ?_)
   repeat refine nx rfl ?_
   exact A2 rfl rfl rfl p9.blk.cells ⟨kW.keep p9.keep (by simp; omega), (fW.unm p9.keep (fun y hy hm => by rw [List.mem_singleton] at hm; omega)).mono fun y hy => ⟨by omega, hy.2⟩⟩
end Go.Proofs.YtkhhjdjmhbdjfaaGreatDoor
namespace Go.Proofs.YtkhhjdjmhbdjfaaGreatDoor
open Go.RowKit
set_option linter.unusedVariables false
def Las (w : World) (c : List Value) (p q : Int) : Prop := ∃ pb po pc qb qo qc, c = [.slice (some ⟨pb, po, none⟩) 1 pc, .slice (some ⟨qb, qo, none⟩) 1 qc] ∧ w.cell? ⟨pb, po, none⟩ = some (.int .i64 p) ∧ w.cell? ⟨qb, qo, none⟩ = some (.int .i64 q)
theorem Las.ext {w w' : World} {c : List Value} {p q : Int} (h : Las w c p q) (k : Ext w w') : Las w' c p q := by
 obtain ⟨pb, po, pc, qb, qo, qc, e, h1, h2⟩ := h
 exact ⟨pb, po, pc, qb, qo, qc, e, k.cell h1 (by simp), k.cell h2 (by simp)⟩
theorem below_ok (w : World) (b o c : Nat) (p n : Int) (hp : w.cell? ⟨b, o, none⟩ = some (.int .i64 p)) (h0 : 0 ≤ p) (h1 : p < n) : Fn Tryz.prog 122 [.slice (some ⟨b, o, none⟩) 1 c, .int .i64 n] w fun u w' => u = .bool true ∧ Ext w w' := by
 refine AR Tryz.func122 rfl Tryz.ntmps122 (Nat.le_of_ble_eq_true rfl) (by kernel_rfl) ?_
 repeat refine nx rfl ?_
 refine AA (AC (AB rfl ?_))
 repeat refine nx rfl ?_
 refine AA (AM rfl (AZ rfl (AG rfl ?_)))
 repeat refine nx rfl ?_
 refine A3 (α := Nat) (fun k => [(1, .int .i64 n), (7, .slice (some ⟨b, o, none⟩) 1 c), (8, .int .i64 1), (9, .int .i64 (k : Int))]) (fun k W => k ≤ 1 ∧ W = w) (fun k => 1 - k) 0 ⟨rfl, rfl, rfl, rfl, trivial⟩ ⟨by omega, rfl⟩ ?_
 rintro k W fr ⟨hk, rfl⟩
 repeat refine nx rfl ?_
 by_cases hlt : k = 0
 ·subst hlt
  refine AA (At rfl rfl (by omega) ?_)
  repeat refine nx rfl ?_
  have hp' : W.cell? ⟨b, o + 0, none⟩ = some (.int .i64 p) := hp
  (refine AA (BL rfl rfl rfl (by omega) (AF rfl (by assumption) ?_)) <;> refine AC (AG rfl ?_))
  repeat refine nx rfl ?_
  refine AA (AG rfl (Aj rfl rfl (by omega) (AB rfl (AE rfl (AG rfl (AE rfl (AG rfl (AE rfl (CD rfl rfl (by omega) (AJ rfl (AB rfl ?_)))))))))))
  repeat first | refine nx rfl ?_ | refine nf rfl ?_
  (refine AA (Av rfl rfl (by first | exact AV (by omega) (by omega) | exact AY (by omega) (by omega) | exact AW (by omega) (by omega)) ?_) <;> refine AG rfl ?_)
  repeat refine nx rfl ?_
  exact ⟨1, ⟨rfl, ⟨rfl, rfl, rfl, rfl, trivial⟩, ⟨by omega, rfl⟩⟩, by omega⟩
 ·obtain rfl : k = 1 := by omega
  refine AA (Aj rfl rfl (by omega) ?_)
  repeat first | refine nx rfl ?_ | refine nf rfl ?_
  refine AA (AC (AB rfl ?_))
  repeat refine nx rfl ?_
  exact AI rfl ⟨rfl, Ext.refl _⟩
theorem formed_ok (w : World) (c : List Value) (p q : Int) (h : Las w c p q) (hp : 0 ≤ p ∧ p < 64) (hq : 0 ≤ q ∧ q < 64) : Fn Tryz.prog 121 [.agg c.toArray] w fun u w' => u = .bool true ∧ Ext w w' := by
 obtain ⟨pb, po, pc, qb, qo, qc, rfl, h1, h2⟩ := h
 refine AR Tryz.func121 rfl Tryz.ntmps121 (Nat.le_of_ble_eq_true rfl) (by kernel_rfl) ?_
 repeat refine nx rfl ?_
 (refine AA ?_; refine A5 (L := [.slice (some ⟨pb, po, none⟩) 1 pc, .slice (some ⟨qb, qo, none⟩) 1 qc]) rfl (fun w1 n1 => ?_))
 refine AC (AB rfl ?_)
 repeat refine nx rfl ?_
 have b1 := n1.blk
 have k1 := n1.keep
 (refine AA (AD rfl (AF rfl (Blk.cell (by assumption) (by rfl)) ?_)) <;> refine AZ rfl (B9 rfl rfl (by omega) (AB rfl (AE rfl (AD rfl (AE rfl (AF rfl (Blk.cell (by assumption) (by rfl)) ?_)))))) <;> refine AE rfl (AZ rfl (AE rfl (Aj rfl rfl (by omega) (AJ rfl (AB rfl (AB rfl (AE rfl (AD rfl (AE rfl (AF rfl (Blk.cell (by assumption) (by rfl)) ?_)))))))))) <;> refine AE rfl (AZ rfl (AE rfl (B9 rfl rfl (by omega) (AJ rfl (AB rfl ?_))))))
 repeat first | refine nx rfl ?_ | refine nf rfl ?_
 refine AA (AD rfl (AF rfl (Blk.cell (by assumption) (by rfl)) ?_))
 refine AQ (below_ok w1 pb po pc p 64 (k1.cell h1 (by simp)) hp.1 hp.2) rfl ?_
 rintro _ w2 ⟨rfl, k2⟩
 have b2 := b1.keep k2 (by simp)
 refine AB rfl (AE rfl (AD rfl (AE rfl (AF rfl (Blk.cell (by assumption) (by rfl)) ?_))))
 refine AE rfl (AQ (below_ok w2 qb qo qc q 64 ((k1.trans k2).cell h2 (by simp)) hq.1 hq.2) rfl ?_)
 rintro _ w3 ⟨rfl, k3⟩
 refine AK rfl (AB rfl (AC (AB rfl ?_)))
 repeat refine nx rfl ?_
 exact AI rfl ⟨rfl, (k1.trans k2).trans k3⟩
theorem wValid_ok (w : World) (c : List Value) (p q n : Int) (h : Las w c p q) (hn : n ≤ 64) (hp : 0 ≤ p ∧ p < n) (hq : 0 ≤ q ∧ q < n) : Fn Tryz.prog 92 [.int .i64 n, .agg c.toArray] w fun u w' => u = .bool true ∧ Ext w w' := by
 have h0 := h
 obtain ⟨pb, po, pc, qb, qo, qc, rfl, h1, h2⟩ := h
 refine AR Tryz.func92 rfl Tryz.ntmps92 (Nat.le_of_ble_eq_true rfl) (by kernel_rfl) ?_
 repeat refine nx rfl ?_
 (refine AA ?_; refine A5 (L := [.slice (some ⟨pb, po, none⟩) 1 pc, .slice (some ⟨qb, qo, none⟩) 1 qc]) rfl (fun w1 n1 => ?_))
 refine AC (AB rfl ?_)
 repeat refine nx rfl ?_
 have b1 := n1.blk
 have k1 := n1.keep
 refine AA (Ac rfl (by assumption) (by rfl) ?_)
 refine AQ (formed_ok w1 _ p q (h0.ext k1) ⟨hp.1, by omega⟩ ⟨hq.1, by omega⟩) rfl ?_
 rintro _ w2 ⟨rfl, k2⟩
 have b2 := b1.keep k2 (by simp)
 have e2 := k1.trans k2
 (refine AB rfl (AE rfl (AD rfl (AE rfl (AF rfl (Blk.cell (by assumption) (by rfl)) ?_)))) <;> refine AE rfl (AG rfl ?_))
 refine AE rfl (AQ (below_ok w2 pb po pc p n (e2.cell h1 (by simp)) hp.1 hp.2) rfl ?_)
 rintro _ w3 ⟨rfl, k3⟩
 have b3 := b2.keep k3 (by simp)
 have e3 := e2.trans k3
 (refine AK rfl (AB rfl (AB rfl (AE rfl (AD rfl (AE rfl (AF rfl (Blk.cell (by assumption) (by rfl)) ?_)))))) <;> refine AE rfl (AG rfl ?_))
 refine AE rfl (AQ (below_ok w3 qb qo qc q n (e3.cell h2 (by simp)) hq.1 hq.2) rfl ?_)
 rintro _ w4 ⟨rfl, k4⟩
 refine AK rfl (AB rfl (AC (AB rfl ?_)))
 repeat refine nx rfl ?_
 exact AI rfl ⟨rfl, e3.trans k4⟩
theorem pick_ok (w : World) (c : List Value) (p q : Int) (i : Nat) (h : Las w c p q) (hi : i ≤ 1) : Fn Tryz.prog 212 [.agg c.toArray, .int .i64 (i : Int)] w fun u w' => u = .int .i64 (if i = 0 then p else q) ∧ Ext w w' := by
 obtain ⟨pb, po, pc, qb, qo, qc, rfl, h1, h2⟩ := h
 refine AR Tryz.func212 rfl Tryz.ntmps212 (Nat.le_of_ble_eq_true rfl) (by kernel_rfl) ?_
 repeat refine nx rfl ?_
 (refine AA ?_; refine A5 (L := [.slice (some ⟨pb, po, none⟩) 1 pc, .slice (some ⟨qb, qo, none⟩) 1 qc]) rfl (fun w1 n1 => ?_))
 refine AC (AG rfl ?_)
 repeat refine nx rfl ?_
 have b1 := n1.blk
 have k1 := n1.keep
 have h1' : w1.cell? ⟨pb, po + 0, none⟩ = some (.int .i64 p) := k1.cell h1 (by simp)
 by_cases h0 : i = 0
 ·subst h0
  (refine AA (AG rfl (AD rfl (AF rfl (Blk.cell (by assumption) (by rfl)) ?_))) <;> refine AZ rfl (At rfl rfl (by omega) ?_))
  repeat refine nx rfl ?_
  (refine AA (AD rfl (AF rfl (Blk.cell (by assumption) (by rfl)) ?_)) <;> refine AG rfl (BL rfl rfl rfl (by omega) (AF rfl (by assumption) ?_)) <;> refine AC (AG rfl ?_))
  repeat refine nx rfl ?_
  exact AI rfl ⟨rfl, k1⟩
 ·obtain rfl : i = 1 := by omega
  (refine AA (AG rfl (AD rfl (AF rfl (Blk.cell (by assumption) (by rfl)) ?_))) <;> refine AZ rfl (Aj rfl rfl (by omega) ?_))
  repeat first | refine nx rfl ?_ | refine nf rfl ?_
  refine Ad (.read 0 (.read 1 (.read 2 (.read 3 (.read 4 (.read 5 (.read 6 (.read 7 (.read 8 (.read 9 (.read 10 (.read 11 (.read 12 (.read 13 .done)))))))))))))) Ax (by kernel_rfl) (fun wd kd ed => ⟨Ext wd, ?_, ?_⟩)
  ·exact Ext.refl _
  have s1 : ∀ V, Ext wd V → V.cell? ⟨w.heap.size, 0 + 0, none⟩ = some (.slice (some ⟨pb, po, none⟩) 1 pc) := fun V e => (b1.keep (kd.trans e) (by simp)).cell rfl
  have s2 : ∀ V, Ext wd V → V.cell? ⟨w.heap.size, 0 + 1, none⟩ = some (.slice (some ⟨qb, qo, none⟩) 1 qc) := fun V e => (b1.keep (kd.trans e) (by simp)).cell rfl
  have s3 : ∀ V, Ext wd V → V.cell? ⟨qb, qo + 0, none⟩ = some (.int .i64 q) := fun V e => (k1.trans (kd.trans e)).cell h2 (by simp)
  (refine D_R rfl rfl (fun W hW => AD rfl Z3) (D_R rfl rfl (fun W hW => AF rfl (s2 W hW) Z3) (D_R rfl rfl (fun W hW => AG rfl Z3) (D_R rfl rfl (fun W hW => AD rfl Z3) (D_R rfl rfl (fun W hW => AF rfl (s1 W hW) Z3) (D_R rfl rfl (fun W hW => AZ rfl Z3) ?_))))) <;> (apply D_R rfl rfl; (intro W hW; refine Cy rfl rfl (by first | exact AV (by omega) (by omega) | exact AY (by omega) (by omega) | exact AW (by omega) (by omega)) ?_; exact Z3)) <;> refine D_R rfl rfl (fun W hW => AD rfl Z3) (D_R rfl rfl (fun W hW => AF rfl (s2 W hW) Z3) (D_R rfl rfl (fun W hW => AZ rfl Z3) (D_R rfl rfl (fun W hW => W_rem rfl rfl (by omega) (by omega) Z3) (D_R rfl rfl (fun W hW => Aq rfl rfl (by omega) (by omega) Z3) (D_R rfl rfl (fun W hW => AF rfl (s3 W hW) Z3) (D_R rfl rfl (fun W hW => AC (AG rfl Z3)) (Ah ?_))))))))
  repeat refine nx rfl ?_
  exact AI rfl ⟨rfl, k1.trans kd⟩
end Go.Proofs.YtkhhjdjmhbdjfaaGreatDoor
namespace Go.Proofs.YtkhhjdjmhbdjfaaGreatDoor
open Go.RowKit
set_option linter.unusedVariables false
section
variable {P : Program} {all : Array Oper} {Z : Fr → DS → List PanicEntry → World → Prop} {K : Fr → DS → World → Prop} {rest : List Oper} {f : Fr} {ds : DS} {w : World}
 {d : Nat} {ty : TypeId} {pos : String} {af : Array Edge}
theorem W_make0 {T e bytes : Nat} {z : Value} {l c : Operand} {k k' : IntKind} {n : Nat} {N M : Int} [hT : SlT P T e 1 bytes z] (hz : z.cells = #[z]) (hl : ev f l = .int k N) (hc : ev f c = .int k' M) (hN : N = 0) (hM : M = (n : Int)) (hb : bytes * n ≤ 281474976710656) (hm : n ≤ 9223372036854775807)
  (h : ∀ w', New w w' e (List.replicate n z) → w'.ownsRow w.heap.size e 1 (.slice (some ⟨w.heap.size, 0, none⟩) 0 n) 0 [] → AX P all Z K rest (upd f d (.slice (some ⟨w.heap.size, 0, none⟩) 0 n)) ds w') :
  AX P all Z K (⟨some d, .makeSlice T l c, ty, pos, af, none⟩ :: rest) f ds w := by
 subst hN
 subst hM
 obtain ⟨i, hi, hzz, hsi, hby⟩ := hT.out
 have hb' : (i.bytes : Int) * (n : Int) ≤ 281474976710656 := by
  rw [hby]
  have h : ((bytes * n : Nat) : Int) ≤ 281474976710656 := by omega
  rwa [Int.natCast_mul] at h
 have hr := run_make (P := P) w T e i z hT.und hi hzz k k' 0 n (by omega) (by omega) hb' (by omega)
 have hnew : New w (w.alloc (.cells (madeCells z.cells (n * 1)).toList.toArray e)) e (List.replicate n z) := by
  have := New.mk_alloc w (madeCells z.cells (n * 1)).toList e
  rwa [hz, Nat.mul_one, toList_madeCells_one] at this ⊢
 refine BB (v := .slice (some ⟨w.heap.size, 0, none⟩) 0 n) (w' := w.alloc (.cells (madeCells z.cells (n * 1)).toList.toArray e)) rfl ?_ (h _ hnew ⟨by simp, .inr ⟨w.heap.size, n, (List.replicate n z).toArray, rfl, Nat.le_refl _, hnew.blk, by omega, by unfold maxLen; omega, by simp, by simp⟩⟩)
 simp [execOp, hl, hc, hr, hsi]
end
theorem reader_ok (w : World) (c : List Value) (p q : Int) (h : Las w c p q) : Fn Tryz.prog 195 [.agg c.toArray] w fun u w' => u = .func (.func 211) #[] #[pt w.heap.size, pt (w.heap.size + 1)] ∧ Ext w w' ∧ Blk w' w.heap.size 45 c ∧ Blk w' (w.heap.size + 1) 3 [.int .i64 0] := by
 obtain ⟨pb, po, pc, qb, qo, qc, rfl, h1, h2⟩ := h
 refine AR Tryz.func195 rfl Tryz.ntmps195 (Nat.le_of_ble_eq_true rfl) (by kernel_rfl) ?_
 repeat refine nx rfl ?_
 (refine AA ?_; refine A5 (L := [.slice (some ⟨pb, po, none⟩) 1 pc, .slice (some ⟨qb, qo, none⟩) 1 qc]) rfl (fun w1 n1 => ?_))
 refine AC (Be ?_)
 repeat refine nx rfl ?_
 (refine AA ?_; refine Ar (fun w2 n2 => ?_))
 refine Aa (v := .int .i64 0) rfl rfl rfl n2.blk (by simp) (fun w3 p3 => ?_)
 repeat refine nx rfl ?_
 refine AA (Ae rfl rfl (AC (Bq rfl ?_)))
 repeat refine nx rfl ?_
 have z1 := n1.size
 have k3 : Ext w1 w3 := n2.keep.keep p3.keep (by simp)
 refine AI rfl ⟨?_, n1.keep.trans k3, n1.blk.keep k3 (by simp), ?_⟩
 ·rw [← z1]; rfl
 ·rw [← z1]; exact p3.blk
theorem read_ok (w : World) (a b : Nat) (c : List Value) (p q : Int) (i : Nat) (hi : i ≤ 1) (h : Las w c p q) (ha : Blk w a 45 c) (hb : Blk w b 3 [.int .i64 (i : Int)]) :
  Fn Tryz.prog 211 [pt a, pt b] w fun u w' => u = .int .i64 (if i = 0 then p else q) ∧ Keep [b] w w' ∧ Blk w' b 3 [.int .i64 1] := by
 have h0 := h
 obtain ⟨pb, po, pc, qb, qo, qc, rfl, h1, h2⟩ := h
 have hab : a ≠ b := fun e => by subst e; have := ha.symm.trans hb; simp at this
 refine AR Tryz.func211 rfl Tryz.ntmps211 (Nat.le_of_ble_eq_true rfl) (by kernel_rfl) ?_
 repeat refine nx rfl ?_
 refine AA (AC (AG rfl ?_))
 repeat refine nx rfl ?_
 refine AA ?_
 refine Ac rfl ha rfl ?_
 refine AF rfl (Blk.cell (by assumption) (by rfl)) ?_
 refine AQ (pick_ok w _ p q i h0 hi) rfl ?_
 rintro _ w1 ⟨rfl, k1⟩
 refine AC (AG rfl ?_)
 repeat refine nx rfl ?_
 have ha1 := ha.keep k1 (by simp)
 have hb1 := hb.keep k1 (by simp)
 obtain ⟨r, hr⟩ : ∃ r, r = if i = 0 then p else q := ⟨_, rfl⟩
 rw [← hr]
 (refine AA (AF rfl (Blk.cell (by assumption) (by rfl)) ?_) <;> refine Av rfl rfl (by first | exact AV (by omega) (by omega) | exact AY (by omega) (by omega) | exact AW (by omega) (by omega)) ?_)
 refine Aa (v := .int .i64 ((i : Int) + 1)) rfl rfl rfl hb1 (by simp) (fun w2 p2 => ?_)
 repeat refine nx rfl ?_
 have ha2 := ha1.keep p2.keep (by simp [hab])
 have hb2 : Blk w2 b 3 [.int .i64 ((i : Int) + 1)] := p2.blk
 have k2 : Keep [b] w w2 := k1.any.trans p2.keep (fun x hx _ => hx)
 by_cases hi0 : i = 0
 ·subst hi0
  (refine AA (AF rfl (Blk.cell (by assumption) (by rfl)) ?_) <;> refine AD rfl (AF rfl (Blk.cell (by assumption) (by rfl)) ?_) <;> refine AZ rfl (AD rfl (AF rfl (Blk.cell (by assumption) (by rfl)) ?_)) <;> refine AZ rfl (Av rfl rfl (by first | exact AV (by omega) (by omega) | exact AY (by omega) (by omega) | exact AW (by omega) (by omega)) ?_) <;> refine AT rfl rfl (by omega) ?_)
  repeat first | refine nx rfl ?_ | refine nf rfl ?_
  refine AA (AG rfl (AC (AG rfl ?_)))
  repeat refine nx rfl ?_
  exact AI rfl ⟨rfl, k2, hb2⟩
 ·obtain rfl : i = 1 := by omega
  (refine AA (AF rfl (Blk.cell (by assumption) (by rfl)) ?_) <;> refine AD rfl (AF rfl (Blk.cell (by assumption) (by rfl)) ?_) <;> refine AZ rfl (AD rfl (AF rfl (Blk.cell (by assumption) (by rfl)) ?_)) <;> refine AZ rfl (Av rfl rfl (by first | exact AV (by omega) (by omega) | exact AY (by omega) (by omega) | exact AW (by omega) (by omega)) ?_) <;> refine Ai rfl rfl (by omega) ?_)
  repeat refine nx rfl ?_
  (refine AA (AD rfl (AF rfl (Blk.cell (by assumption) (by rfl)) ?_)) <;> refine AZ rfl ?_)
  refine Aa (v := .int .i64 1) rfl rfl rfl hb2 (by simp) (fun w3 p3 => ?_)
  repeat refine nx rfl ?_
  refine AA (AG rfl (AC (AG rfl ?_)))
  repeat refine nx rfl ?_
  exact AI rfl ⟨rfl, k2.trans p3.keep (fun x hx _ => hx), p3.blk⟩
structure LetR (yv : Value) (X : List Nat) (B cn : Nat) (p q : Int) (J : Nat → World → Prop) (D : World → Prop) : Prop where
 fn : ∃ y, yv = .func (.yield y) #[] #[]
 keep : ∀ {k : Nat} {W W' : World} {Y : List Nat}, J k W → Keep Y W W' → (∀ y ∈ Y, y = cn) → J k W'
 s0 : ∀ {W : World}, J 0 W → cn < W.heap.size → YldP Tryz.prog yv [.int .i64 p] W (fun v W' => v = .bool true ∧ Keep X W W' ∧ J 1 W') (fun _ _ => False)
 s1 : ∀ {W : World}, J 1 W → YldP Tryz.prog yv [.int .i64 q] W (fun v W' => v = .bool false ∧ D W') (fun _ _ => False)
theorem lettersIt_ok {yv : Value} {X : List Nat} {J : Nat → World → Prop} {D : World → Prop} (w : World) (ca : Nat) (c : List Value) (p q : Int) (H : LetR yv X w.heap.size (w.heap.size + 1) p q J D) (hca : Blk w ca 45 c) (hl : Las w c p q) (hlX : ∀ W, Keep X w W → Las W c p q) (hJ : J 0 w) (hX : ∀ x ∈ X, x < w.heap.size) :
  Fn Tryz.prog 194 [yv, pt ca] w fun _ w' => D w' := by
 obtain ⟨y, rfl⟩ := H.fn
 have hl0 := hl
 obtain ⟨pb, po, pc, qb, qo, qc, rfl, h1, h2⟩ := hl
 refine AR Tryz.func194 rfl Tryz.ntmps194 (Nat.le_of_ble_eq_true rfl) (by kernel_rfl) ?_
 repeat refine nx rfl ?_
 refine AA ?_
 refine Ac rfl hca rfl ?_
 skip
 refine AQ (reader_ok w _ p q hl0) rfl ?_
 rintro _ w1 ⟨rfl, k1, ba, bc⟩
 refine AC (Bq rfl ?_)
 repeat refine nx rfl ?_
 refine A3 (α := Nat) (fun k => [(0, .func (.yield y) #[] #[]), (3, .func (.func 211) #[] #[pt w.heap.size, pt (w.heap.size + 1)])]) (fun k W => k ≤ 1 ∧ Keep X w W ∧ Blk W w.heap.size 45 [.slice (some ⟨pb, po, none⟩) 1 pc, .slice (some ⟨qb, qo, none⟩) 1 qc] ∧ Blk W (w.heap.size + 1) 3 [.int .i64 (k : Int)] ∧ J k W) (fun k => 1 - k) 0 ⟨rfl, rfl, trivial⟩ ⟨by omega, k1.any, ba, bc, H.keep hJ k1 (by simp)⟩ ?_
 rintro k W fr ⟨hk, kW, baW, bcW, hJW⟩
 repeat refine nx rfl ?_
 refine AA (Bq rfl (Bq rfl ?_))
 refine BO (v1 := []) (v2 := [pt w.heap.size, pt (w.heap.size + 1)]) (vs := []) rfl (read_ok W _ _ _ p q k hk (hlX W kW) baW bcW) rfl ?_
 rintro _ W1 ⟨rfl, kr, bc1⟩
 have hJ1 := H.keep hJW kr (by simp)
 have ba1 := baW.keep kr (by simp)
 have kW1 : Keep X w W1 := kW.trans kr (fun x hx h => by simp at hx; omega)
 by_cases h0 : k = 0
 ·subst h0
  refine W_yield rfl rfl (H.s0 hJ1 bc1.lt) ?_
  rintro _ W2 ⟨rfl, k2, hJ2⟩
  repeat refine nx rfl ?_
  exact ⟨1, ⟨rfl, ⟨rfl, rfl, trivial⟩, ⟨by omega, kW1.trans k2 (fun x hx _ => hx), ba1.keep k2 (fun h => by have := hX _ h; omega), bc1.keep k2 (fun h => by have := hX _ h; omega), hJ2⟩⟩, by omega⟩
 ·obtain rfl : k = 1 := by omega
  refine W_yield rfl rfl (H.s1 hJ1) ?_
  rintro _ W2 ⟨rfl, hD⟩
  repeat first | refine nx rfl ?_ | refine nf rfl ?_
  exact Cu rfl hD
theorem wletters_ok (w : World) (c : List Value) (p q : Int) (h : Las w c p q) : Fn Tryz.prog 147 [.agg c.toArray] w fun v w' => v = .func (.func 194) #[] #[pt w.heap.size] ∧ New w w' 45 c := by
 obtain ⟨pb, po, pc, qb, qo, qc, rfl, h1, h2⟩ := h
 refine AR Tryz.func147 rfl Tryz.ntmps147 (Nat.le_of_ble_eq_true rfl) (by kernel_rfl) ?_
 repeat refine nx rfl ?_
 (refine AA ?_; refine A5 (L := [.slice (some ⟨pb, po, none⟩) 1 pc, .slice (some ⟨qb, qo, none⟩) 1 qc]) rfl (fun w1 n1 => ?_))
 refine AC (Be ?_)
 repeat refine nx rfl ?_
 refine AA (Ae rfl rfl (AC (Bq rfl ?_)))
 repeat refine nx rfl ?_
 exact AI rfl ⟨rfl, n1⟩
theorem prefix_ok (w : World) (c : List Value) (p q : Int) (h : Las w c p q) (hp : 0 ≤ p ∧ p < 64) (hq : 0 ≤ q ∧ q < 64) : Fn Tryz.prog 123 [.agg c.toArray, .int .i64 2] w fun u w' => w'.ownsRow w.heap.size 3 1 u 2 [.int .i64 p, .int .i64 q] ∧ Ext w w' := by
 have h0 := h
 obtain ⟨pb, po, pc, qb, qo, qc, rfl, h1, h2⟩ := h
 refine CK Tryz.func123 rfl Tryz.ntmps123 (Nat.le_of_ble_eq_true rfl) (by kernel_rfl) ?_
 repeat refine nx rfl ?_
 (refine AA ?_; refine A5 (L := [.slice (some ⟨pb, po, none⟩) 1 pc, .slice (some ⟨qb, qo, none⟩) 1 qc]) rfl (fun w1 n1 => ?_))
 refine A5 (L := [.int .i64 2]) rfl (fun w2 n2 => ?_)
 refine AC (AM rfl ?_)
 repeat refine nx rfl ?_
 have z1 := n1.size
 have z2 := n2.size
 have b1 := n1.blk.keep n2.keep (by simp)
 have b2 := n2.blk
 have k2 : Ext w w2 := n1.keep.trans n2.keep
 (refine AA (AF rfl (Blk.cell (by assumption) (by rfl)) ?_) <;> refine Aj rfl rfl (by omega) (AB rfl (AE rfl (AF rfl (Blk.cell (by assumption) (by rfl)) ?_))) <;> refine AE rfl (B9 rfl rfl (by omega) (AJ rfl (AB rfl (AB rfl ?_)))))
 refine AE rfl (Ac rfl b1 rfl ?_)
 refine AE rfl (AQ (formed_ok w2 _ p q (h0.ext k2) hp hq) rfl ?_)
 rintro _ w3 ⟨rfl, k3⟩
 refine AE rfl (Ak rfl (AJ rfl (AB rfl ?_)))
 repeat first | refine nx rfl ?_ | refine nf rfl ?_
 have b13 := b1.keep k3 (by simp)
 have b23 := b2.keep k3 (by simp)
 have e3 := k2.trans k3
 refine AA (AF rfl (Blk.cell (by assumption) (by rfl)) ?_)
 refine W_make0 (n := 2) rfl rfl rfl rfl rfl (by omega) (by omega) (fun w4 n4 o4 => ?_)
 refine Ar (fun w5 n5 => ?_)
 refine Aa (v := .slice (some ⟨w3.heap.size, 0, none⟩) 0 2) rfl rfl rfl n5.blk (by simp) (fun w6 p6 => ?_)
 repeat refine nx rfl ?_
 have z3 := e3.size
 have z33 := k3.size
 have z4 := n4.size
 have z5 := n5.size
 have z6 := p6.size
 have k46 : Ext w4 w6 := n5.keep.keep p6.keep (by simp)
 have k36 : Ext w3 w6 := n4.keep.trans k46
 have b16 := b13.keep k36 (by simp)
 have b26 := b23.keep k36 (by simp)
 have b56 : Blk w6 w4.heap.size 26 [.slice (some ⟨w3.heap.size, 0, none⟩) 0 2] := p6.blk
 obtain ⟨c5, hc5⟩ : ∃ c5, c5 = w4.heap.size := ⟨_, rfl⟩
 rw [← hc5] at b56 ⊢
 have o6 := A4 o4 k46
 have e6 := e3.trans k36
 refine AA ?_
 refine Ac rfl b16 rfl ?_
 skip
 refine AQ (wletters_ok w6 _ p q (h0.ext e6)) rfl ?_
 rintro _ w7 ⟨rfl, n7⟩
 repeat refine nx rfl ?_
 have z7 := n7.size
 have b7 := n7.blk
 replace o6 := A4 o6 n7.keep
 replace b56 := b56.keep n7.keep (by simp)
 replace b26 := b26.keep n7.keep (by simp)
 have e7 := e6.trans n7.keep
 refine C_range [] [pt w6.heap.size] rfl (by kernel_rfl) fun Rdy Bsy Don w8 HL k8 s8 m8 r8 => ?_
 replace b7 := b7.keep k8 (by simp)
 replace o6 := A4 o6 k8
 replace b56 := b56.keep k8 (by simp)
 replace b26 := b26.keep k8 (by simp)
 have e8 := e7.trans k8
 obtain ⟨g0, hg0⟩ : ∃ g0, g0 = w3.heap.size := ⟨_, rfl⟩
 rw [← hg0] at b56 o6
 have lc5 : c5 < w8.heap.size := b56.lt
 obtain ⟨J, hJ⟩ : ∃ J : Nat → World → Prop, ∀ k W, J k W ↔ (∃ v, Ext w W ∧ Blk W c5 26 [v] ∧ Blk W w1.heap.size 3 [.int .i64 2] ∧ W.ownsRow g0 3 1 v k ([.int .i64 p, .int .i64 q].take k) ∧ (k = 0 → v.ownBlock = some g0) ∧ v.ownBlock ≠ some c5 ∧ v.ownBlock ≠ some (w7.heap.size + 1) ∧ v.ownBlock ≠ some (w8.heap.size + 1) ∧ v.ownBlock ≠ some w7.heap.size ∧ Rdy W ∧ W.heap[w7.heap.size]? = some (.deferred (some [])) ∧ w8.heap.size ≤ W.heap.size) := ⟨_, fun _ _ => Iff.rfl⟩
 obtain ⟨D, hD⟩ : ∃ D : World → Prop, ∀ W, D W ↔ (∃ v, Ext w W ∧ Blk W c5 26 [v] ∧ W.ownsRow g0 3 1 v 2 [.int .i64 p, .int .i64 q] ∧ v.ownBlock ≠ some w7.heap.size ∧ v.ownBlock ≠ some (w7.heap.size + 1) ∧ Don (.exit 0) W ∧ W.heap[w7.heap.size]? = some (.deferred (some [])) ∧ w8.heap.size ≤ W.heap.size) := ⟨_, fun _ => Iff.rfl⟩
 have hz8 : w8.heap.size = w7.heap.size + 2 := s8
 have key : ∀ (k : Nat) (x : Int) (W : World), k ≤ 1 → [p, q][k]? = some x → J k W → (k = 0 → w8.heap.size + 1 < W.heap.size) → YldP Tryz.prog (.func (.yield (w7.heap.size + 1)) #[] #[]) [.int .i64 x] W
   (fun u W' => (k = 0 → u = .bool true ∧ Keep [c5, g0, w7.heap.size + 1] W W' ∧ J 1 W') ∧ (k = 1 → u = .bool false ∧ D W')) (fun _ _ => False) := by
  intro k x W hk hx hj hcn
  obtain ⟨v, j1, j2, j3, j4, j5, j6, j7, j8, j9, j10, j11, j12⟩ := (hJ _ _).1 hj
  refine HL.round j10 rfl ?_
  repeat refine nx rfl ?_
  refine AA (AC (AG rfl ?_))
  repeat refine nx rfl ?_
  refine ⟨j10, fun W2 q2 y2s y2 => ?_⟩
  have hm : ∀ {b}, b ∈ v.ownBlock.toList → v.ownBlock = some b := fun hx => Option.mem_toList.1 hx
  replace j2 := j2.keep q2 (by simp; omega)
  replace j3 := j3.keep q2 (by simp; omega)
  replace j4 := Ag j4 q2 (fun g hg h => by simp at h; subst h; exact j7 hg)
  replace j11 := (q2.block _ (by omega) (by simp)).trans j11
  have e2 := j1.keep q2 (by simp; omega)
  have hg0w : ∀ g, v.ownBlock = some g → g0 ≤ g ∧ g < W2.heap.size := fun g hg => Aw j4 hg
  repeat refine nx rfl ?_
  (refine AA (AF rfl (Blk.cell (by assumption) (by rfl)) ?_) <;> refine AG rfl ?_)
  refine Ab (out := [.int .i64 x]) rfl (by omega) (by rw [madeInt]; rfl) (fun W3 n3 => ?_)
  have oz := n3.own (n := 1) (size := 1) rfl (by unfold maxLen; omega) (Nat.le_refl _)
  have z3' := n3.size
  refine BD (ok := As) (v := v) rfl rfl (A4 j4 n3.keep) (Az oz fun _ _ => trivial) (by omega) rfl rfl (Ap rfl) (by omega) (by omega) (by omega) (fun v4 W4 a4 => ?_)
  have k4 := a4.keep
  have z4' := k4.size
  have hc4 : c5 ∉ v.ownBlock.toList := fun h => j6 (hm h)
  refine Aa (v := v4) rfl rfl (C8 a4.own) ((j2.keep n3.keep (by simp)).keep k4 hc4) (by simp) (fun W5 p5 => ?_)
  repeat refine nx rfl ?_
  have z5' := p5.size
  have b5 : Blk W5 c5 26 [v4] := p5.blk
  have hv4 : ∀ g, v4.ownBlock = some g → v.ownBlock = some g ∨ g = W3.heap.size := fun g hg => by
   rcases a4.blk with e | e
   ·exact .inl (e ▸ hg)
   ·rw [e] at hg; exact .inr (Option.some.inj hg).symm
  have m6 : v4.ownBlock ≠ some c5 := fun h => (hv4 _ h).elim j6 fun e => by omega
  have m9 : v4.ownBlock ≠ some w7.heap.size := fun h => (hv4 _ h).elim j9 fun e => by omega
  have m7 : v4.ownBlock ≠ some (w7.heap.size + 1) := fun h => (hv4 _ h).elim j7 fun e => by omega
  have o5 := Ag a4.own p5.keep (fun g hg h => by simp at h; subst h; exact m6 hg)
  have b23' := ((j3.keep n3.keep (by simp)).keep k4 (fun h => by have := hg0w _ (hm h); omega)).keep p5.keep (by simp; omega)
  have m5 := (p5.keep.block _ (by omega) (by simp; omega)).trans ((k4.block _ (by omega) (fun h => j9 (hm h))).trans ((n3.keep.block _ (by omega) (by simp)).trans j11))
  have y5 := HL.bsy (HL.bsy (HL.bsy y2 n3.keep (by simp)) k4 (fun h => j7 (hm h))) p5.keep (by simp; omega)
  have e5 := ((e2.trans n3.keep).keep k4 (fun y hy => by have := hg0w _ (hm hy); omega)).keep p5.keep (by simp; omega)
  obtain ⟨va, vc, rfl, _⟩ := own_ints o5
  have hxs : [Value.int .i64 p, .int .i64 q].take k ++ [.int .i64 x] = [Value.int .i64 p, .int .i64 q].take (k + 1) := by
   rcases (by omega : k = 0 ∨ k = 1) with rfl | rfl <;> simp at hx <;> subst hx <;> rfl
  rw [hxs] at o5
  by_cases h0 : k = 0
  ·subst h0
   have hvg : ∀ g, v.ownBlock = some g → g = g0 := fun g hg => by rw [j5 rfl] at hg; exact (Option.some.inj hg).symm
   (refine AA (AF rfl (Blk.cell (by assumption) (by rfl)) ?_) <;> refine AZ rfl (AF rfl (Blk.cell (by assumption) (by rfl)) ?_) <;> refine AT rfl rfl (by omega) ?_)
   repeat first | refine nx rfl ?_ | refine nf rfl ?_
   have kk : Keep [c5, g0, w7.heap.size + 1] W W5 := (((q2.mono (fun x hx => by simp at hx; simp [hx])).trans n3.keep (fun x hx => by cases hx)).trans k4 (fun x hx _ => by have := hvg _ (hm hx); simp [this])).trans p5.keep (fun x hx _ => by simp at hx; simp [hx])
   have hcn' := hcn rfl
   have hq2 := q2.size
   have m8 : (Value.slice va 1 vc).ownBlock ≠ some (w8.heap.size + 1) := fun h => (hv4 _ h).elim j8 fun e => by omega
   refine Q_rnd y5 fun W6 q6 z6 y6 => ⟨fun _ => ⟨rfl, kk.trans q6 (fun x hx _ => by simp at hx; simp [hx]), (hJ _ _).2 ⟨_, e5.keep q6 (by simp; omega), b5.keep q6 (by simp; omega), b23'.keep q6 (by simp; omega), Ag o5 q6 (fun g hg h => by simp at h; subst h; exact m7 hg), (fun h => by cases h), m6, m7, m8, m9, y6, (q6.block _ (by omega) (by simp)).trans m5, by omega⟩⟩, fun h => by cases h⟩
  ·obtain rfl : k = 1 := by omega
   (refine AA (AF rfl (Blk.cell (by assumption) (by rfl)) ?_) <;> refine AZ rfl (AF rfl (Blk.cell (by assumption) (by rfl)) ?_) <;> refine Ai rfl rfl (by omega) ?_)
   repeat refine nx rfl ?_
   have hq2 := q2.size
   refine Q_rnd_exit y5 fun W6 q6 z6 y6 => ⟨(fun h => by cases h), fun _ => ⟨rfl, (hD _).2 ⟨_, e5.keep q6 (by simp; omega), b5.keep q6 (by simp; omega), Ag o5 q6 (fun g hg h => by simp at h; subst h; exact m7 hg), m9, m7, y6, (q6.block _ (by omega) (by simp)).trans m5, by omega⟩⟩⟩
 have H : LetR (.func (.yield (w7.heap.size + 1)) #[] #[]) [c5, g0, w7.heap.size + 1] w8.heap.size (w8.heap.size + 1) p q J D := by
  refine ⟨⟨_, rfl⟩, fun hj k hY => ?_, fun {W} hj hcn => ?_, fun {W} hj => ?_⟩
  ·obtain ⟨v, j1, j2, j3, j4, j5, j6, j7, j8, j9, j10, j11, j12⟩ := (hJ _ _).1 hj
   exact (hJ _ _).2 ⟨v, j1.keep k (fun x hx => by have := hY x hx; omega), j2.keep k (fun h => by have := hY _ h; omega), j3.keep k (fun h => by have := hY _ h; omega), Ag j4 k (fun g hg h => by have := hY _ h; subst this; exact j8 hg), j5, j6, j7, j8, j9, HL.rdy j10 k (fun h => by have := hY _ h; omega), (k.block _ (by omega) (fun h => by have := hY _ h; omega)).trans j11, Nat.le_trans j12 k.size⟩
  ·exact YldP.mono (key 0 p W (by omega) rfl hj fun _ => hcn) (fun v W' h => h.1 rfl) (fun _ _ h => h)
  ·exact YldP.mono (key 1 q W (by omega) rfl hj (fun h => by cases h)) (fun v W' h => h.2 rfl) (fun _ _ h => h)
 refine Fn.mono (lettersIt_ok w8 w6.heap.size _ p q H b7 (h0.ext e8) (fun W kW => h0.ext (e8.keep kW (fun y hy => by simp at hy; omega))) ((hJ _ _).2 ⟨_, e8, b56, b26, o6, fun _ => rfl, (fun e => by have e := Option.some.inj e; simp only at e; omega), (fun e => by have e := Option.some.inj e; simp only at e; omega), (fun e => by have e := Option.some.inj e; simp only at e; omega), (fun e => by have e := Option.some.inj e; simp only at e; omega), r8, m8, Nat.le_refl _⟩) (fun x hx => by simp at hx; omega)) ?_
 rintro _ w9 hd
 obtain ⟨v, d1, d2, d3, d4, d5, d6, d7, d8⟩ := (hD _).1 hd
 refine .inr ⟨_, d6, fun w10 k10 s10 => ?_⟩
 unfold behind
 clear hJ H HL key r8 m8 b7
 replace d2 := d2.keep k10 (by simp; omega)
 replace d3 := Ag d3 k10 (fun g hg h => by simp at h; subst h; exact d5 hg)
 replace d7 := (k10.block _ (by omega) (by simp)).trans d7
 have e10 := d1.keep k10 (by simp; omega)
 obtain ⟨va, vc, rfl, _⟩ := own_ints d3
 repeat refine nx rfl ?_
 (refine AA (AF rfl (Blk.cell (by assumption) (by rfl)) ?_) <;> refine AC (AM rfl ?_))
 repeat refine nx rfl ?_
 refine Bl d7 fun w11 k11 s11 => ?_
 exact finD_ret1 rfl ⟨ownsRow_mono (Ag d3 k11 (fun g hg h => by simp at h; subst h; exact d4 hg)) (by omega), e10.keep k11 (by simp; omega)⟩
end Go.Proofs.YtkhhjdjmhbdjfaaGreatDoor
namespace Go.Proofs.YtkhhjdjmhbdjfaaGreatDoor
open Go.RowKit
variable {mk : Prop} [MK mk]
open Go.ChangeMaps (setBlock)
attribute [local semireducible] WC AX Bx BT Bu finQ finD Bw
variable {P : Program} {all : Array Oper} {Z : Fr → DS → List PanicEntry → World → Prop} {K : Fr → DS → World → Prop} {rest : List Oper} {f : Fr} {ds : DS} {w : World}
 {d : Nat} {ty : TypeId} {pos : String} {af : Array Edge}
theorem W_max {x y : Operand} {a b : Int} {T1 T2 : TypeId} (hx : ev f x = .int .i64 a) (hy : ev f y = .int .i64 b) (h : AX P all Z K rest (upd f d (.int .i64 (max a b))) ds w) :
  AX P all Z K (⟨some d, .call ⟨.builtin .max, #[x, y], #[T1, T2]⟩, ty, pos, af, none⟩ :: rest) f ds w := by
 refine BB rfl ?_ h
 simp [execOp, resolve, invoke, builtin, hx, hy, Builtin.max_, Builtin.max2]
 split <;> omega
end Go.Proofs.YtkhhjdjmhbdjfaaGreatDoor
namespace Go.Proofs.YtkhhjdjmhbdjfaaGreatDoor
open Go.RowKit
set_option linter.unusedVariables false
mutual
def okT (k : List UInt8 → Int → Bool) : Fml → Bool
 | .mk op nm v _ args => (decide (op = 1) || decide (op = 2) || (decide (op = 3) && k nm v) || (decide (op = 4) && decide (args.length = 1)) || decide (op = 6) || ((decide (op = 9) || decide (op = 10)) && decide (args.length = 2))) && okL k args
def okL (k : List UInt8 → Int → Bool) : List Fml → Bool
 | [] => true
 | f :: l => okT k f && okL k l
end
theorem okL_mem {k : List UInt8 → Int → Bool} : ∀ {l : List Fml} {a : Fml}, okL k l = true → a ∈ l → okT k a = true
 | [], _, _, h => by cases h
 | b :: l, a, h, hm => by
  simp only [okL, Bool.and_eq_true] at h
  rcases List.mem_cons.1 hm with rfl | hm
  ·exact h.1
  ·exact okL_mem h.2 hm
theorem okT_parts {k : List UInt8 → Int → Bool} {op v b : Int} {nm : List UInt8} {args : List Fml} (h : okT k (.mk op nm v b args) = true) :
  (op = 1 ∨ op = 2 ∨ (op = 3 ∧ k nm v = true) ∨ (op = 4 ∧ args.length = 1) ∨ op = 6 ∨ ((op = 9 ∨ op = 10) ∧ args.length = 2)) ∧ ∀ a ∈ args, okT k a = true := by
 simp only [okT, Bool.and_eq_true, Bool.or_eq_true, decide_eq_true_eq] at h
 refine ⟨?_, fun a ha => okL_mem h.2 ha⟩
 rcases h.1 with ((((h | h) | h) | h) | h) | h
 ·exact .inl h
 ·exact .inr (.inl h)
 ·exact .inr (.inr (.inl h))
 ·exact .inr (.inr (.inr (.inl h)))
 ·exact .inr (.inr (.inr (.inr (.inl h))))
 ·exact .inr (.inr (.inr (.inr (.inr h))))
theorem nested_ok (kn : List UInt8 → Int → Bool) : ∀ (n : Nat) (w : World) (b o : Nat) (f : Fml), dpF f ≤ n → PF As w b o f → okT kn f = true → Fn Tryz.prog 124 [.pointer (some ⟨b, o, none⟩)] w fun u w' => u = .int .i64 0 ∧ Ext w w' := by
 intro n
 induction n with
 | zero => intro w b o f hn; rw [Bd] at hn; omega
 | succ n ih =>
 intro w b o f hn hf hk
 rw [Bd] at hn
 obtain ⟨aa, cc, hla, q0, q1, q2, q3, q4, qa⟩ := hf.all
 obtain ⟨op, nm, v, bd, args⟩ := f
 obtain ⟨hop, hka⟩ := okT_parts hk
 simp only [Fml.op, Fml.name, Fml.val, Fml.args] at *
 have hop15 : op < 15 := by omega
 have harg : ∀ (k : Nat) (a : Fml), args[k]? = some a → ∀ W, Ext w W → ∃ b' o', aa = some ⟨b', o', none⟩ ∧ Fn Tryz.prog 124 [.pointer (some ⟨b', o' + k * 5, none⟩)] W fun u w' => u = .int .i64 0 ∧ Ext W w' := fun k a ha W eW => by
  obtain ⟨b', o', e, hp⟩ := qa k a ha
  have hm' := List.mem_of_getElem? ha
  have := Bp hm'
  exact ⟨b', o', e, ih W b' _ a (by omega) (hp.keep eW (fun _ _ => by simp)) (hka a hm')⟩
 clear hop
 refine AR Tryz.func124 rfl Tryz.ntmps124 (Nat.le_of_ble_eq_true rfl) (by kernel_rfl) ?_
 repeat refine nx rfl ?_
 refine AA (AC (AG rfl ?_))
 repeat refine nx rfl ?_
 refine AA (AC (AG rfl ?_))
 repeat refine nx rfl ?_
 (refine AA (AP rfl (AH rfl (AD rfl (AF rfl (by assumption) ?_)))) <;> refine AZ rfl (AG rfl ?_))
 repeat refine nx rfl ?_
 refine A3 (α := Nat) (fun k => [(0, .pointer (some ⟨b, o, none⟩)), (3, .int .i64 0), (9, .int .i64 (args.length : Int)), (10, .int .i64 (k : Int))]) (fun k W => k ≤ args.length ∧ Ext w W) (fun k => args.length - k) 0 ⟨rfl, rfl, rfl, rfl, trivial⟩ ⟨by omega, Ext.refl _⟩ ?_
 rintro k W fr ⟨hkl, kW⟩
 have q4W := kW.cell q4 (by simp)
 have q0W := kW.cell q0 (by simp)
 repeat refine nx rfl ?_
 by_cases hlt : k < args.length
 ·refine AA (At rfl rfl (by omega) ?_)
  repeat refine nx rfl ?_
  refine AA (AG rfl (AC (AG rfl ?_)))
  repeat refine nx rfl ?_
  obtain ⟨y, hy⟩ : ∃ y, args[k]? = some y := ⟨_, List.getElem?_eq_getElem hlt⟩
  obtain ⟨b', o', rfl, hfn⟩ := harg k y hy W kW
  (refine AA (AG rfl (AP rfl (AH rfl (AD rfl (AF rfl (by assumption) ?_))))) <;> refine AG rfl (Au rfl rfl rfl (by omega) ?_))
  refine AQ hfn rfl ?_
  rintro _ w4 ⟨rfl, k4⟩
  refine W_max rfl rfl ?_
  refine AC (AG rfl ?_)
  repeat refine nx rfl ?_
  (refine AA (Av rfl rfl (by first | exact AV (by omega) (by omega) | exact AY (by omega) (by omega) | exact AW (by omega) (by omega)) ?_) <;> refine AG rfl ?_)
  repeat refine nx rfl ?_
  refine ⟨k + 1, ⟨rfl, ⟨rfl, rfl, rfl, ?_, trivial⟩, ⟨by omega, kW.trans k4⟩⟩, by omega⟩
  show Value.int .i64 ((k : Int) + 1) = _
  rw [Int.natCast_add]; rfl
 ·refine AA (Aj rfl rfl (by omega) ?_)
  repeat first | refine nx rfl ?_ | refine nf rfl ?_
  (refine AA (AP rfl (AH rfl (AD rfl (AF rfl (by assumption) ?_)))))
  repeat refine nx rfl ?_
  refine AA (AT rfl rfl (by omega) (AC (AB rfl ?_)))
  repeat first | refine nx rfl ?_ | refine nf rfl ?_
  refine AA (AT rfl rfl (by omega) (AC (AB rfl ?_)))
  repeat first | refine nx rfl ?_ | refine nf rfl ?_
  refine AA (AT rfl rfl (by omega) (AC (AB rfl ?_)))
  repeat first | refine nx rfl ?_ | refine nf rfl ?_
  refine AA (AT rfl rfl (by omega) (AC (AB rfl ?_)))
  repeat first | refine nx rfl ?_ | refine nf rfl ?_
  refine AA (AT rfl rfl (by omega) (AC (AB rfl ?_)))
  repeat first | refine nx rfl ?_ | refine nf rfl ?_
  refine AA (AG rfl (AC (AG rfl ?_)))
  repeat refine nx rfl ?_
  exact AI rfl ⟨rfl, kW⟩
def Axs (w : World) (t : Nat) (S : List Sgn) (xs : List Int) : Prop := ∃ sa sc lb lo lc, Blk w t 104 [.slice sa S.length sc, .slice (some ⟨lb, lo, none⟩) 2 lc, .int .i64 1, .int .i64 1, .int .i64 2] ∧ SlAt sgnR As w (.slice sa S.length sc) S ∧
 ∀ (k : Nat) (x : Int), xs[k]? = some x → ∃ g rc, w.cell? ⟨lb, lo + k, none⟩ = some (.slice (some ⟨g, 0, none⟩) S.length rc) ∧ ∀ i, i < S.length → w.cell? ⟨g, 0 + i, none⟩ = some (.int .i64 (Cr S x i))
theorem Axs.ext {w w' : World} {t : Nat} {S : List Sgn} {xs : List Int} (h : Axs w t S xs) (k : Ext w w') : Axs w' t S xs := by
 obtain ⟨sa, sc, lb, lo, lc, h1, h2, h3⟩ := h
 refine ⟨sa, sc, lb, lo, lc, h1.keep k (by simp), h2.ext k, fun j x hj => ?_⟩
 obtain ⟨g, rc, e1, e2⟩ := h3 j x hj
 exact ⟨g, rc, k.cell e1 (by simp), fun i hi => k.cell (e2 i hi) (by simp)⟩
theorem place_ok (w : World) (t : Nat) (S : List Sgn) (xs : List Int) (k : Nat) (h : Axs w t S xs) (hk : k ≤ 2) : Fn Tryz.prog 48 [pt t, .int .i64 (k : Int)] w fun u w' => u = .int .i64 (if k < 2 then (k : Int) else 1) ∧ Ext w w' := by
 obtain ⟨sa, sc, lb, lo, lc, hb, _, _⟩ := h
 refine AR Tryz.func48 rfl Tryz.ntmps48 (Nat.le_of_ble_eq_true rfl) (by kernel_rfl) ?_
 repeat refine nx rfl ?_
 refine AA (AC (AG rfl ?_))
 repeat refine nx rfl ?_
 by_cases hlt : k < 2
 ·rw [if_pos hlt]
  (refine AA (AG rfl (AP rfl (AH rfl (AD rfl (AF rfl (Blk.cell (by assumption) (by rfl)) ?_))))) <;> refine At rfl rfl (by omega) ?_)
  repeat refine nx rfl ?_
  refine AA (AG rfl (AC (AG rfl ?_)))
  repeat refine nx rfl ?_
  exact AI rfl ⟨rfl, Ext.refl _⟩
 ·obtain rfl : k = 2 := by omega
  rw [if_neg hlt]
  (refine AA (AG rfl (AP rfl (AH rfl (AD rfl (AF rfl (Blk.cell (by assumption) (by rfl)) ?_))))) <;> refine Aj rfl rfl (by omega) ?_)
  repeat first | refine nx rfl ?_ | refine nf rfl ?_
  refine Ad (.read 0 (.read 1 (.read 2 (.read 3 (.read 4 (.read 5 (.read 6 (.read 7 (.read 8 (.read 9 (.read 10 (.read 11 (.read 12 (.read 13 (.read 14 (.read 15 (.read 16 (.read 17 (.read 18 (.read 19 (.read 20 (.read 21 .done)))))))))))))))))))))) Ax (by kernel_rfl) (fun wd kd ed => ⟨Ext wd, ?_, ?_⟩)
  ·exact Ext.refl _
  have s3 : ∀ V, Ext wd V → V.cell? ⟨t, 0 + 3, none⟩ = some (.int .i64 1) := fun V e => (hb.keep (kd.trans e) (by simp)).cell rfl
  have s4 : ∀ V, Ext wd V → V.cell? ⟨t, 0 + 4, none⟩ = some (.int .i64 2) := fun V e => (hb.keep (kd.trans e) (by simp)).cell rfl
  (refine D_R rfl rfl (fun W hW => AP rfl Z3) (D_R rfl rfl (fun W hW => AH rfl Z3) (D_R rfl rfl (fun W hW => AD rfl Z3) (D_R rfl rfl (fun W hW => AF rfl (s3 W hW) Z3) (D_R rfl rfl (fun W hW => AG rfl Z3) (D_R rfl rfl (fun W hW => AP rfl Z3) (D_R rfl rfl (fun W hW => AH rfl Z3) (D_R rfl rfl (fun W hW => AD rfl Z3) (D_R rfl rfl (fun W hW => AF rfl (s3 W hW) Z3) ?_)))))))) <;> (apply D_R rfl rfl; (intro W hW; refine Cy rfl rfl (by first | exact AV (by omega) (by omega) | exact AY (by omega) (by omega) | exact AW (by omega) (by omega)) ?_; exact Z3)) <;> refine D_R rfl rfl (fun W hW => AP rfl Z3) (D_R rfl rfl (fun W hW => AH rfl Z3) (D_R rfl rfl (fun W hW => AD rfl Z3) (D_R rfl rfl (fun W hW => AF rfl (s4 W hW) Z3) (D_R rfl rfl (fun W hW => AP rfl Z3) (D_R rfl rfl (fun W hW => AH rfl Z3) (D_R rfl rfl (fun W hW => AD rfl Z3) (D_R rfl rfl (fun W hW => AF rfl (s3 W hW) Z3) ?_))))))) <;> (apply D_R rfl rfl; (intro W hW; refine Cy rfl rfl (by first | exact AV (by omega) (by omega) | exact AY (by omega) (by omega) | exact AW (by omega) (by omega)) ?_; exact Z3)) <;> refine D_R rfl rfl (fun W hW => W_rem rfl rfl (by omega) (by omega) Z3) ?_ <;> (apply D_R rfl rfl; (intro W hW; refine Av rfl rfl (by first | exact AV (by omega) (by omega) | exact AY (by omega) (by omega) | exact AW (by omega) (by omega)) ?_; exact Z3)) <;> refine D_R rfl rfl (fun W hW => AC (AG rfl Z3)) (Ah ?_))
  repeat refine nx rfl ?_
  exact AI rfl ⟨rfl, kd⟩
end Go.Proofs.YtkhhjdjmhbdjfaaGreatDoor
