/- TopGoalsGoOn, part 9 of 16: rules, lemmas, walks. Conditions: none. -/
import Derived.Test.YtohodbnnhlddpaaGreatDoorQZ8
import Derived.Maps.RangeRun
namespace Go.Proofs.YtohodbnnhlddpaaGreatDoor
open Go.RowKit
set_option linter.unusedVariables false
theorem FAt.v5 {ok : Nat → Prop} {w : World} {c : LV} {f : Fml} (h : FAt ok w (.agg c.toArray) f) : ∃ g b k j i, c = [g, b, k, j, i] := by
 obtain ⟨G, e, P, _⟩ := h.cells;have : c = G := by simpa using e
 subst this;exact AX P
theorem FAt.one {ok : Nat → Prop} {w : World} {c : LV} {f : Fml} (h : FAt ok w (.agg c.toArray) f) : oneC c := by
 obtain ⟨G, e, _, X⟩ := h.cells;have : c = G := by simpa using e
 rw [this]; exact X
abbrev eqV (G : Nat) : Value := .func (.func 182) #[] #[pt G]
theorem eq_ok (w : World) (G : Nat) (c d : LV) (f g : Fml) (ok : Nat → Prop) (I : FAt ok w (.agg c.toArray) f) (z : FAt ok w (.agg d.toArray) g) (r : ∀ b, ok b → Unm w b) (n : szF f ≤ 1000000) (S : Blk w G 49 [cmpV]) :
  Fn Zp 182 [.agg c.toArray, .agg d.toArray, pt G] w fun u w' => u = .bool (decide (BO f g = 0)) ∧ Ext w w' := by
 obtain ⟨e, h, k, j, i, rfl⟩ := I.v5;obtain ⟨F, H, K, l, v, rfl⟩ := z.v5;have m := I.lt;have D := z.lt;refine AG Tryz.func182 rfl Tryz.ntmps182 (go ?_);refine Aj (L := [e, h, k, j, i]) rfl (fun Q E => ?_);refine Aj (L := [F, H, K, l, v]) rfl (fun o V => go ?_);have y := E.E.trans V.E;refine go ?_;refine Av (v1 := []) (v2 := []) (vs := [.agg #[e, h, k, j, i], .agg #[F, H, K, l, v]]) rfl (fcompare_ok o _ _ f g _ _ (m.E y (fun _ _ => by simp)) (D.E y (fun _ _ => by simp)) (.inl fun b S => (r b S.1).eq (y.block b S.2 O)) n) rfl ?_;rintro _ p ⟨rfl, a⟩;by_cases T : BO f g = 0
 ·refine go ?_;exact AA rfl ⟨by rw [decide_eq_true T]; rfl, y.trans a⟩
 ·refine go ?_;exact AA rfl ⟨by rw [decide_eq_false T]; rfl, y.trans a⟩
theorem row_cells {w : World} {g e n p : Nat} {R : LV} {L : List (LV)} {c : LV} (S : Blk w g e R) (a : R.take (n * 5) = L.flatten) (P : ∀ c ∈ L, c.length = 5) (v : L[p]? = some c) (G : L.length = n) : Cells w g (p * 5) c := by
 intro i u r;refine S.cell ?_;have X := CH 5 L p i c u P v r;rw [← a, List.getElem?_take] at X
 split at X
 ·exact X
 ·cases X
theorem row_cells2 {w : World} {g e n p q : Nat} {R : LV} {L Z : List (LV)} {c : LV} (S : Blk w g e (Z.flatten ++ R.drop (q * 5))) (H : Z.flatten.length = q * 5) (b : q ≤ p) (a : R.take (n * 5) = L.flatten) (P : ∀ c ∈ L, c.length = 5) (v : L[p]? = some c) (G : L.length = n) : Cells w g (p * 5) c := by
 intro i u r;refine S.cell ?_;have X := CH 5 L p i c u P v r;rw [← a, List.getElem?_take] at X
 split at X
 ·rw [List.getElem?_append_right (by rw [H]; omega), H, List.getElem?_drop];rw [show q * 5 + (p * 5 + i - q * 5) = p * 5 + i by omega];exact X
 ·cases X
theorem take_flat (L : List (LV)) (P : ∀ c ∈ L, c.length = 5) (k : Nat) : (L.take k).flatten = L.flatten.take (k * 5) := by
 by_cases a : k ≤ L.length
 ·have e : L.flatten = (L.take k).flatten ++ (L.drop k).flatten := by rw [← List.flatten_append, List.take_append_drop]
  have M : (L.take k).flatten.length = k * 5 := by rw [CC 5 _ fun c T => P c (List.mem_of_mem_take T), List.length_take, Nat.min_eq_left a]
  rw [e, ← M, List.take_left]
 ·rw [List.take_of_length_le U, List.take_of_length_le (by rw [CC 5 L P]; omega)]
theorem FsAt.take {ok : Nat → Prop} {w : World} {L : List (LV)} {l : LF} (h : FsAt ok w L l) (k : Nat) : FsAt ok w (L.take k) (l.take k) := by
 refine ⟨by simp [h.1], fun c T => h.2.1 c (List.mem_of_mem_take T), fun i c g T z => ?_⟩;rw [List.getElem?_take] at T z
 split at T
 ·rename_i hi;rw [if_pos hi] at z;exact h.2.2 i c g T z
 ·cases T
theorem FsAt.at {ok : Nat → Prop} {w : World} {L : List (LV)} {l : LF} (h : FsAt ok w L l) {k : Nat} (P : k < l.length) : ∃ g b a j i, L[k]? = some [g, b, a, j, i] ∧ l[k]? = some (l.getD k Ae) ∧ FAt ok w (.agg [g, b, a, j, i].toArray) (l.getD k Ae) := by
 have d : l[k]? = some (l.getD k Ae) := by rw [List.getD_eq_getElem?_getD, List.getElem?_eq_getElem P]; rfl
 have E : k < L.length := by rw [h.1]; exact P
 obtain ⟨c, x⟩ : ∃ c, L[k]? = some c := ⟨_, List.getElem?_eq_getElem E⟩;have I := h.2.2 k c _ x d;obtain ⟨g, b, a, j, i, rfl⟩ := I.v5;exact ⟨g, b, a, j, i, x, d, I⟩
theorem compact_ok (w : World) (B : Nat) (v : Value) (l : LF) (L : List (LV)) (ok : Nat → Prop) (G : Nat) (ho : w.ownsRow B 36 5 v l.length L.flatten) (I : FsAt ok w L l)
  (T : ∀ b, ok b → Unm w b ∧ b < w.heap.size ∧ v.ownBlock ≠ some b) (hz : ∀ x ∈ l, szF x ≤ 1000000) (b0 : Blk w G 49 [cmpV]) (hc1 : v.ownBlock ≠ some G) :
  Fn Zp 181 [v, eqV G] w fun u w' => Keep v.ownBlock.toList w w' ∧ u.ownBlock = v.ownBlock ∧ ∃ L', w'.ownsRow B 36 5 u (cpN l l.length).length L'.flatten ∧ FsAt ok w L' (cpN l l.length) := by
 obtain ⟨p, n, D, hv, c2⟩ : ∃ p n D, v = .slice p n D ∧ n = l.length := by
  rcases ho.2 with ⟨e, s⟩ | ⟨g, D, o, e, _⟩
  ·exact ⟨_, _, _, e, s.symm⟩
  ·exact ⟨_, _, _, e, rfl⟩
 have Q := I.2.1;have a0 := I.1;by_cases h2 : l.length < 2
 ·have C : cpN l l.length = l := by rw [cpN_take l.length (Nat.le_refl _) (fun i s hi => by omega), List.take_length]
  rw [C];subst hv c2;refine AG Tryz.func181 rfl Tryz.ntmps181 (go ?_);exact AA rfl ⟨Keep.refl _ _, rfl, L, ho, I⟩
 ·rcases ho.2 with ⟨e, s⟩ | ⟨g, c3, o, e, hB, hg, c9, b1, b7, ht⟩
  ·omega
  subst e;cases hv;have a1 : Blk w g 36 o.toList := hg;have a9 : ∀ b, ok b → b ∉ [g] := fun b S hx => by simp at hx; exact (T b S).2.2 (by rw [hx]; rfl)
  have c4 : G ≠ g := fun e => hc1 (by rw [e]; rfl);have c5 := a1.lt;have a5 : o.toList.length = D * 5 := by simpa using b7
  have c8 : D ≤ 9223372036854775807 := by unfold maxLen at b1; omega
  refine AG Tryz.func181 rfl Tryz.ntmps181 (go ?_);refine Ah (α := Nat) (fun k => [(0, .slice (sm g) l.length D), (1, eqV G), (5, iV (k : Int))]) (fun k W => 1 ≤ k ∧ k ≤ l.length ∧ Ext w W ∧ ∀ i, 0 < i → i < k → BO (l.getD i Ae) (l.getD (i - 1) Ae) ≠ 0) (fun k => l.length - k) 1 ⟨rfl, rfl, rfl, trivial⟩ ⟨by omega, by omega, Ext.refl _, fun i s hi => by omega⟩ ?_;rintro k W fr ⟨c6, hk, kW, a6⟩;refine go ?_;by_cases c0 : k < l.length
  ·refine go ?_;obtain ⟨d, m, t, j, z, a3, a8, X⟩ := I.at c0;obtain ⟨F, y1, y2, y3, y4, a4, b9, a7⟩ := I.at (k := k - 1) U;refine AW (rd 0 10 (.alt 10 .done .stop)) Al Dk (fun K kd ed => ⟨Ext K, ?_, ?_⟩)
   ·exact EZ
   have c := kW.trans kd
   have s1 : ∀ V, Ext K V → Cells V g (0 + k * 5) [d, m, t, j, z] := fun V e => by
    rw [Nat.zero_add]; exact row_cells (a1.E (c.trans e) O) ht Q a3 a0
   have s2 : ∀ V, Ext K V → Cells V g (0 + ((k : Int) - 1).toNat * 5) [F, y1, y2, y3, y4] := fun V e => by
    rw [Nat.zero_add, show ((k : Int) - 1).toNat = k - 1 by omega]; exact row_cells (a1.E (c.trans e) O) ht Q a4 a0
   (refine D_R rfl rfl (fun W a => M_func rfl Z3) (D_R rfl rfl (fun W a => Az rfl Z3) (D_R rfl rfl (fun W a => Af rfl Z3) (D_R rfl rfl (fun W a => C5 rfl rfl rfl U Z3) ?_))) <;> (apply D_R rfl rfl; (intro W a; refine AR rfl Dn (s1 W a) ?_; exact Z3)) <;> refine D_R rfl rfl (fun W a => Az rfl Z3) (D_R rfl rfl (fun W a => Af rfl Z3) ?_) <;> (apply D_R rfl rfl; (intro W a; refine W_sub rfl rfl Du ?_; exact Z3)) <;> refine D_R rfl rfl (fun W a => Cl rfl rfl U U Z3) ?_ <;> (apply D_R rfl rfl; (intro W a; refine AR rfl Dn (s2 W a) ?_; exact Z3)))
   refine D_E rfl ?_;refine Av (v1 := []) (v2 := [pt G]) (vs := [.agg [d, m, t, j, z].toArray, .agg [F, y1, y2, y3, y4].toArray]) rfl (eq_ok K G _ _ _ _ ok (X.ext c) (a7.ext c) (fun b S => (T b S).1.eq (c.block b (T b S).2.1 O)) (hz _ (List.mem_of_getElem? a8)) (b0.E c O)) rfl ?_;rintro _ w4 ⟨rfl, R⟩;refine AH ⟨Ext K, fun _ e => e, R, ?_⟩;have f := c.trans R;by_cases hc : BO (l.getD k Ae) (l.getD (k - 1) Ae) = 0
   ·rw [decide_eq_true hc];refine Cb ?_;repeat refine nx rfl ?_
    refine AJ (Az rfl (Af rfl ?_));refine W_slice_lS rfl rfl U U ?_;refine Ac (Az rfl ?_);repeat refine nx rfl ?_
    refine AJ (Ac (Af rfl ?_));repeat refine nx rfl ?_
    have C : cpN l (k + 1) = l.take k := by rw [cpN, if_pos ⟨by omega, hc⟩, List.append_nil, cpN_take k hk a6]
    have b6 : (L.take k).flatten ++ o.toList.drop (k * 5) = o.toList := by
     rw [take_flat L Q, ← ht, List.take_take, Nat.min_eq_left U, List.take_append_drop]
    refine Ah (α := Nat × Nat × List (LV)) (fun | (q, r, _) => [(0, .slice (some ⟨g, 0, none⟩) l.length D), (1, eqV G), (5, .int .i64 (q : Int)), (6, .slice (some ⟨g, 0 + k * 5, none⟩) (l.length - k) (D - k)), (7, .int .i64 (r : Int))])
     (fun y V => 1 ≤ y.2.1 ∧ k + y.2.1 ≤ l.length ∧ y.1 < k + y.2.1 ∧ y.1 = (cpN l (k + y.2.1)).length ∧ Keep [g] w V ∧ Blk V g 36 (y.2.2.flatten ++ o.toList.drop (y.1 * 5)) ∧ FsAt ok w y.2.2 (cpN l (k + y.2.1))) (fun y => l.length - y.2.1) (k, 1, L.take k) ⟨rfl, rfl, rfl, rfl, rfl, trivial⟩
     ⟨by simp, by simp only; omega, by simp only; omega, by simp only; rw [C, List.length_take]; omega, f.any, by simp only; rw [b6]; exact a1.E f O, by simp only; rw [C]; exact I.take k⟩ ?_
    rintro ⟨q, r, Z⟩ V fr ⟨c1, hr, b2, N, kV, bV, A⟩;simp only at c1 hr b2 N kV bV A;have H : Z.flatten.length = q * 5 := by rw [A.flat, ← N]
    repeat refine nx rfl ?_
    by_cases c7 : r < l.length - k
    ·refine AJ (Af rfl (Az rfl (CD rfl (W_lssT rfl rfl U ?_))));repeat refine nx rfl ?_
     obtain ⟨d, m, t, j, z, a3, a8, X⟩ := I.at (k := k + r) U;obtain ⟨F, y1, y2, y3, y4, a4, b9, a7⟩ := I.at (k := k + r - 1) U;refine AW (rd 0 10 (.alt 10 (.read 11 .done) .stop)) Al Dk (fun K kd ed => ⟨Ext K, ?_, ?_⟩)
     ·exact EZ
     have c := kV.ext kd;have bd := bV.E kd O
     have s1 : ∀ M, Ext K M → Cells M g (0 + k * 5 + r * 5) [d, m, t, j, z] := fun M e => by
      rw [show 0 + k * 5 + r * 5 = (k + r) * 5 by omega]; exact row_cells2 (bd.E e O) H U ht Q a3 a0
     have s2 : ∀ M, Ext K M → Cells M g (0 + k * 5 + ((r : Int) - 1).toNat * 5) [F, y1, y2, y3, y4] := fun M e => by
      rw [show 0 + k * 5 + ((r : Int) - 1).toNat * 5 = (k + r - 1) * 5 by omega]; exact row_cells2 (bd.E e O) H U ht Q a4 a0
     (refine D_R rfl rfl (fun W a => M_func rfl Z3) (D_R rfl rfl (fun W a => Az rfl Z3) (D_R rfl rfl (fun W a => Af rfl Z3) (D_R rfl rfl (fun W a => C5 rfl rfl rfl U Z3) ?_))) <;> (apply D_R rfl rfl; (intro W a; refine AR rfl Dn (s1 W a) ?_; exact Z3)) <;> refine D_R rfl rfl (fun W a => Az rfl Z3) (D_R rfl rfl (fun W a => Af rfl Z3) ?_) <;> (apply D_R rfl rfl; (intro W a; refine W_sub rfl rfl Du ?_; exact Z3)) <;> refine D_R rfl rfl (fun W a => Cl rfl rfl U U Z3) ?_ <;> (apply D_R rfl rfl; (intro W a; refine AR rfl Dn (s2 W a) ?_; exact Z3)))
     refine D_E rfl ?_;refine Av (v1 := []) (v2 := [pt G]) (vs := [.agg [d, m, t, j, z].toArray, .agg [F, y1, y2, y3, y4].toArray]) rfl (eq_ok K G _ _ _ _ ok (X.E c a9) (a7.E c a9) (fun b S => (T b S).1.eq (c.block b (T b S).2.1 (a9 b S))) (hz _ (List.mem_of_getElem? a8)) (b0.E c Dl)) rfl ?_;rintro _ w4 ⟨rfl, R⟩;refine AH ⟨Ext K, fun _ e => e, R, ?_⟩;have f := c.ext R;have b5 := bd.E R O
     have E : cpN l (k + (r + 1)) = cpN l (k + r) ++ if BO (l.getD (k + r) Ae) (l.getD (k + r - 1) Ae) = 0 then [] else [l.getD (k + r) Ae] := by
      show cpN l (k + r + 1) = _;rw [cpN];by_cases h : BO (l.getD (k + r) Ae) (l.getD (k + r - 1) Ae) = 0
      ·rw [if_pos ⟨by omega, h⟩, if_pos h]
      ·rw [if_neg (fun hh => h hh.2), if_neg h]
     by_cases a2 : BO (l.getD (k + r) Ae) (l.getD (k + r - 1) Ae) = 0
     ·rw [decide_eq_true a2];rw [if_pos a2, List.append_nil] at E;refine D_R rfl rfl (fun W a => W_not rfl Z3) (Cb ?_);repeat first | refine nx rfl ?_ | refine nf rfl ?_
      (refine AJ (Af rfl (W_add rfl rfl Du ?_)) <;> refine Ac (Af rfl ?_))
      repeat refine nx rfl ?_
      refine ⟨(q, r + 1, Z), ⟨rfl, ⟨rfl, rfl, rfl, rfl, ?_, trivial⟩, ⟨by simp, by simp only; omega, by simp only; omega, by simp only; rw [E]; exact N, f, b5, by simp only; rw [E]; exact A⟩⟩, by simp only; omega⟩;show iV ((r : Int) + 1) = _;rw [Int.natCast_add]; rfl
     ·rw [decide_eq_false a2];rw [if_neg a2] at E;refine D_R rfl rfl (fun W a => W_not rfl Z3) (Cb ?_);repeat refine nx rfl ?_
      refine AJ (Az rfl (Af rfl (Az rfl (Af rfl (C5 rfl rfl rfl U ?_)))));refine AR (L := [d, m, t, j, z]) rfl rfl (s1 w4 R) ?_;refine C5 rfl rfl rfl U ?_;have b3 : q * 5 + 5 ≤ (Z.flatten ++ o.toList.drop (q * 5)).length := by rw [List.length_append, H, List.length_drop, a5]; omega
      refine AE (cs := [d, m, t, j, z]) rfl rfl rfl X.one b5 (by show 0 + q * 5 + 5 ≤ _; omega) (fun w5 p5 => ?_);repeat refine nx rfl ?_
      (refine AJ (Af rfl (W_add rfl rfl Du ?_)) <;> refine Ac (Af rfl ?_))
      repeat refine nx rfl ?_
      (refine AJ (Af rfl (W_add rfl rfl Du ?_)) <;> refine Ac (Af rfl ?_))
      repeat refine nx rfl ?_
      have e5 : splice (Z.flatten ++ o.toList.drop (q * 5)) (0 + q * 5) [d, m, t, j, z] = (Z ++ [[d, m, t, j, z]]).flatten ++ o.toList.drop ((q + 1) * 5) := by
       unfold splice;rw [Nat.zero_add, ← H, List.take_left, List.drop_append, List.drop_of_length_le U, List.drop_drop, H, List.nil_append, List.flatten_append];simp [show (q + 1) * 5 = q * 5 + 5 by omega]
      have P := p5.D;rw [e5] at P;refine ⟨(q + 1, r + 1, Z ++ [[d, m, t, j, z]]), ⟨rfl, ⟨rfl, rfl, ?_, rfl, ?_, trivial⟩, ⟨by simp, by simp only; omega, by simp only; omega, by simp only; rw [E, List.length_append, ← N]; rfl, f.trans p5.E (fun _ h _ => h), P, by simp only; rw [E]; exact A.snoc X rfl⟩⟩, by simp only; omega⟩
      ·show iV ((q : Int) + 1) = _;rw [Int.natCast_add]; rfl
      ·show iV ((r : Int) + 1) = _;rw [Int.natCast_add]; rfl
    ·refine AJ (Af rfl (Az rfl (CD rfl (W_lssF rfl rfl U ?_))));repeat first | refine nx rfl ?_ | refine nf rfl ?_
     obtain rfl : r = l.length - k := by omega
     rw [show k + (l.length - k) = l.length by omega] at N A b2;refine AJ (Az rfl (Af rfl ?_));refine W_slice_lS rfl rfl U U ?_;have b3 : 0 + q * 5 + (l.length - q) * 5 ≤ (Z.flatten ++ o.toList.drop (q * 5)).length := by rw [List.length_append, H, List.length_drop, a5]; omega
     refine W_clear (L0 := zero5) rfl U (AU rfl) bV (by rw [show zero5.length = 5 from rfl]; exact b3) (fun w5 zs b4 p5 => ?_);repeat refine nx rfl ?_
     refine AJ (Az rfl (Af rfl (W_slice_h rfl rfl U U (Ac (Az rfl ?_)))));repeat refine nx rfl ?_
     have P := p5.D;rw [show zero5.length = 5 from rfl] at b4
     have e5 : splice (Z.flatten ++ o.toList.drop (q * 5)) (0 + q * 5) zs = Z.flatten ++ (zs ++ (o.toList.drop (q * 5)).drop zs.length) := by
      unfold splice;rw [Nat.zero_add, ← H, List.take_left, List.drop_append, List.drop_of_length_le U, H, List.nil_append, show q * 5 + zs.length - q * 5 = zs.length by omega]
     rw [e5] at P;refine AA rfl ⟨kV.trans p5.E (fun _ h _ => h), rfl, Z, ⟨by rw [A.flat], .inr ⟨g, D, _, ?_, hB, P, by omega, b1, ?_, ?_⟩⟩, A⟩
     ·rw [← N]; rfl
     ·simp only [List.size_toArray, List.length_append, List.length_drop, a5, H, b4]; omega
     ·rw [← N, ← H];simp
   ·rw [decide_eq_false hc];refine go ?_;refine ⟨k + 1, ⟨rfl, ⟨rfl, rfl, ?_, trivial⟩, ⟨by omega, by omega, f, fun i s hi => ?_⟩⟩, by omega⟩
    ·show iV ((k : Int) + 1) = _;rw [Int.natCast_add]; rfl
    ·by_cases b8 : i = k
     ·subst b8; exact hc
     ·exact a6 i s U
  ·refine go ?_;obtain rfl : k = l.length := by omega
   refine go ?_;have C : cpN l l.length = l := by rw [cpN_take l.length (Nat.le_refl _) a6, List.take_length]
   rw [C];exact AA rfl ⟨kW.any, rfl, L, Aa ho kW, I⟩
section
variable {mk : Prop} [MK mk]
open Go.ChangeMaps (setBlock)
attribute [local semireducible] WC AO Bi BH Be Cq DN BU
variable {P : Program} {all : Array Oper} {Z : Fr → DS → List PanicEntry → World → Prop} {K : Fr → DS → World → Prop} {rest : List Oper} {f : Fr} {ds : DS} {w : World}
 {d : Nat} {ty : TypeId} {pos : String} {af : Array Edge}
class VMapT (P : Program) (T : TypeId) (z : outParam Value) : Prop where
 out : ∃ kt et i, P.underlying T = some (.map kt et) ∧ P.underlying kt = some (.int .i64) ∧ P.info? et = some i ∧ i.zero = some z
theorem vmapT_of {T h g : TypeId} {z : Value} (X : P.underlying T = some (.map h g)) (W : P.underlying h = some (.int .i64)) (R : (P.info? g).map (·.zero) = some (some z)) : VMapT P T z := by
 obtain ⟨i, F, n⟩ := Option.map_eq_some_iff.1 R;exact ⟨h, g, i, X, W, F, n⟩
def encV (p : Int × Value) : Value × Value := (iV p.1, p.2)
theorem intK_inj {a b : Int} (h : iV a = iV b) : a = b := by simpa using h
def rdV (e : MapEntry) : Value × Value := (e.key, e.val)
def VMap (w : World) (r : Nat) (L : List (Int × Value)) : Prop :=
 ∃ a e, w.heap[r]? = some (.map a e) ∧ MapKept.Stamped a e ∧ a.toList.map rdV = L.map encV
theorem VMap.lt {r : Nat} {L : List (Int × Value)} (h : VMap w r L) : r < w.heap.size := by
 obtain ⟨a, c, X, _⟩ := h; exact (Array.getElem?_eq_some_iff.1 X).1
theorem VMap.E {X : List Nat} {w' : World} {r : Nat} {L : List (Int × Value)} (h : VMap w r L) (k : Keep X w w') (B : r ∉ X) : VMap w' r L := by
 obtain ⟨a, c, b, W, R⟩ := id h;exact ⟨a, c, (k.block r h.lt B).trans b, W, R⟩
theorem keys_vint {a : List MapEntry} {L : List (Int × Value)} (h : a.map rdV = L.map encV) : ∀ x ∈ a, MapKept.IsKey (.int .i64) x.key := by
 intro x V;have : rdV x ∈ L.map encV := by rw [← h]; exact List.mem_map.2 ⟨x, V, rfl⟩
 obtain ⟨p, _, e⟩ := List.mem_map.1 this;have : x.key = iV p.1 := (congrArg Prod.fst e).symm;rw [this]; trivial
theorem vlookup_none {L : List (Int × Value)} {x : Int} (h : ∀ p ∈ L, p.1 ≠ x) : L.lookup x = none := by
 induction L with
 | nil => rfl
 | cons q L ih =>
  exact FQ
theorem vlookup_at {L : List (Int × Value)} (G : (L.map (·.1)).Nodup) {p : Int × Value} (v : p ∈ L) : L.lookup p.1 = some p.2 := by
 induction L with
 | nil => cases v
 | cons q L ih =>
  simp only [List.map_cons, List.nodup_cons] at G;obtain ⟨a, b⟩ := q;rcases List.mem_cons.1 v with rfl | v
  ·simp [List.lookup]
  ·exact Fb
theorem nodup_vint {r : Nat} {L : List (Int × Value)} (h : VMap w r L) : (L.map (·.1)).Nodup := by
 obtain ⟨g, c, _, ⟨_, _, W⟩, R⟩ := h
 have e : g.toList.map (·.key) = L.map (fun p => iV p.1) := by
  have := congrArg (List.map Prod.fst) R;simpa [rdV, encV, List.map_map, Function.comp_def] using this
 rw [e] at W;have i : ((L.map (·.1)).map (fun x => iV x)).Nodup := by rw [List.map_map]; exact W
 exact List.Pairwise.of_map _ (fun a b v e => v (by rw [e])) i
theorem find_vint {h : TypeId} {L : List (Int × Value)} (m : P.underlying h = some (.int .i64)) {b : Array MapEntry} (A : b.toList.map rdV = L.map encV) (G : (L.map (·.1)).Nodup) (x : Int) (w : World) :
  (L.lookup x = none ∧ (Instr.findKey h (iV x) b.toList).run P w = .ok none w ∧ ∀ e ∈ b.toList, e.key ≠ iV x) ∨
  ∃ i v, L.lookup x = some v ∧ (Instr.findKey h (iV x) b.toList).run P w = .ok (some (i, v)) w := by
 have n : ∀ (i : Nat) (e : MapEntry), b.toList[i]? = some e → ∃ p, L[i]? = some p ∧ e.key = iV p.1 ∧ e.val = p.2 := by
  exact Er
 rcases MapKept.findNow_spec (d := .int .i64) (k := iV x) rfl b.toList 0 (keys_vint A) with ⟨X, W⟩ | ⟨j, e, X, W, R⟩
 ·refine .inl ⟨vlookup_none fun p c q => ?_, MapKept.run_findKey m X, W⟩;obtain ⟨i, o⟩ := List.getElem?_of_mem c;have := congrArg (fun l => l[i]?) A;simp only [List.getElem?_map, o, Option.map_some] at this;obtain ⟨e, F, a⟩ := Option.map_eq_some_iff.1 this;refine W e (List.mem_of_getElem? F) ?_;rw [show e.key = iV p.1 from congrArg Prod.fst a, q]
 ·obtain ⟨p, c, g, a⟩ := n j e W;rw [R] at g;have V := intK_inj g;refine .inr ⟨j, p.2, ?_, ?_⟩
  ·rw [V]; exact vlookup_at G (List.mem_of_getElem? c)
  ·have := MapKept.run_findKey (P := P) (w := w) m X;rw [this, a, Nat.zero_add]
theorem W_makeMapV {T : TypeId} (h : ∀ w', Ext w w' → w'.heap.size = w.heap.size + 1 → VMap w' w.heap.size [] → AO P all Z K rest (upd f d (.map (some w.heap.size))) ds w') :
  AO P all Z K (⟨some d, .makeMap T none, ty, pos, af, none⟩ :: rest) f ds w := by
 refine Aq (v := .map (some w.heap.size)) (w' := w.alloc (.map #[] 0)) rfl ?_ (h _ ⟨rfl, rfl, rfl, by simp, fun k a _ => heap_alloc_old w _ a, fun _ => mark_new O (fun k a => heap_alloc_old w _ a) (fun c t b e => by rw [heap_alloc_new] at e; cases e), Nat.le_refl _⟩ O ⟨#[], 0, heap_alloc_new w _, MapKept.stamped_empty 0, rfl⟩);have B : (Instr.makeMap T none).run P w = .ok (.map (some w.heap.size)) (w.alloc (.map #[] 0)) := rfl;simp [execOp, B]
theorem setBlkV_keep {w : World} {r : Nat} {p : Obj} (e : ∀ c t a, p ≠ .cells c t a) : Keep [r] w { w with heap := w.heap.setIfInBounds r p } :=
 ⟨rfl, rfl, rfl, by simp, fun k _ b => by simp [Ne.symm (show k ≠ r by simpa using b)], fun _ => mark_obj e, Nat.le_refl _⟩
theorem As {T : TypeId} {m k v : Operand} {r : Nat} {x : Int} {y z : Value} {L : List (Int × Value)} [hT : VMapT P T z] (A : ev f m = .map (some r)) (p : ev f k = iV x) (q : ev f v = y) (D : VMap w r L) (V : L.lookup x = none)
  (h : ∀ w', Keep [r] w w' → w'.heap.size = w.heap.size → VMap w' r (L ++ [(x, y)]) → AO P all Z K rest f ds w') : AO P all Z K (⟨none, .insert T m k v, ty, pos, af, none⟩ :: rest) f ds w := by
 obtain ⟨u, g, i, X, W, R, t⟩ := hT.out;have G := nodup_vint D;obtain ⟨n, e, S, s, c⟩ := D;have o := MapKept.run_checkKey (P := P) (w := w) (k := iV x) W rfl false 9999;rcases find_vint W c G x w with ⟨a, b, l⟩ | ⟨j, B, a, b⟩
 ·refine W_skp (w' := { w with heap := w.heap.setIfInBounds r (.map (n.push { key := iV x, val := y, born := e }) (e + 1)) }) rfl ?_ (h _ (setBlkV_keep fun _ _ _ h => by cases h) O ⟨_, _, (MapKept.heap_set S).1, MapKept.stamped_push s l, ?_⟩)
  ·simp [execOp, A, p, q, Instr.mapUpdate, run_underlying X, MapKept.run_getObj_map S, o, b, MapKept.run_setObj_map _ S]
  ·rw [Array.toList_push, List.map_append, c];simp [rdV, encV]
 ·rw [a] at V; cases V
end
section
variable {mk : Prop} [MK mk]
section
attribute [local semireducible] WC AO Bi BH Be Cq DN BU
variable {P : Program} {all : Array Oper} {Z : Fr → DS → List PanicEntry → World → Prop} {K : Fr → DS → World → Prop} {rest : List Oper} {f : Fr} {ds : DS} {w : World} {d : Nat} {ty : TypeId} {pos : String} {af : Array Edge}
theorem W_lookupV {T : TypeId} {m k : Operand} {r : Nat} {x : Int} {y z : Value} {L : List (Int × Value)} [hT : VMapT P T z] (A : ev f m = .map (some r)) (n : ev f k = iV x) (D : VMap w r L) (V : L.lookup x = some y)
  (h : AO P all Z K rest (upd f d y) ds w) : AO P all Z K (⟨some d, .lookup T m k false, ty, pos, af, none⟩ :: rest) f ds w := by
 obtain ⟨s, g, i, X, W, R, p⟩ := hT.out;have G := nodup_vint D;obtain ⟨c, e, S, q, o⟩ := D;refine Aq rfl ?_ h;have l := MapKept.run_checkKey (P := P) (w := w) (k := iV x) W rfl c.isEmpty 9999;rcases find_vint W o G x w with ⟨a, b, _⟩ | ⟨j, v, a, b⟩
 ·rw [a] at V; cases V
 ·rw [a] at V;cases V;simp [execOp, A, n, Instr.lookup, run_underlying X, MapKept.run_getObj_map S, l, b]
end
instance : VMapT Zp 203 .nilFunc := vmapT_of Tryz.underlying203 Tryz.underlying3 Dk
instance : VMapT Zp 204 .nilFunc := vmapT_of Tryz.underlying204 Tryz.underlying3 Dk
abbrev mvR (F : FuncId) (r : Nat) : Value := .func (.func F) #[pt r] #[]
def truT (r : Nat) : List (Int × Value) := [(1, mvR 145 r), (2, mvR 146 r), (3, mvR 147 r), (4, mvR 148 r), (5, mvR 149 r), (6, mvR 150 r), (15, mvR 151 r), (16, mvR 152 r), (17, mvR 153 r)]
def rawT (r : Nat) : List (Int × Value) := [(5, mvR 154 r), (6, mvR 154 r), (8, mvR 155 r), (9, mvR 156 r), (10, mvR 157 r)]
def Rdr (w : World) (r : Nat) (S : List Sgn) (x : Int) : Prop := ∃ M L H B z y, Blk w r 206 [.slice M S.length L, .slice H S.length B, .map (some z), .map (some y)] ∧ SlAt sgnR AZ w (.slice M S.length L) S ∧
 (∀ i, i < S.length → ∃ g o, H = some ⟨g, o, none⟩ ∧ w.cell? ⟨g, o + i, none⟩ = some (iV (valS S x i))) ∧ VMap w z (truT r) ∧ VMap w y (rawT r)
theorem Rdr.ext {w w' : World} {r : Nat} {S : List Sgn} {x : Int} (h : Rdr w r S x) (k : Ext w w') : Rdr w' r S x := by
 obtain ⟨M, L, H, B, z, y, X, W, R, a, P⟩ := h;refine ⟨M, L, H, B, z, y, X.E k O, W.ext k, fun i F => ?_, a.E k O, P.E k O⟩;obtain ⟨g, o, e, T⟩ := R i F;exact ⟨g, o, e, k.cell T O⟩
theorem readerOf_ok (w : World) (sv : Value) (S : List Sgn) (x : Int) (T : SlAt sgnR AZ w sv S) (hv : A6 S = true) (a4 : 0 ≤ x) (a5 : x < CN S) (hK : KY w) (hN : 10 ≤ w.heap.size) :
  Fn Zp 99 [sv, iV x] w fun u w' => ∃ r, u = pt r ∧ Ext w w' ∧ Rdr w' r S x := by
 obtain ⟨sa, sc, rfl, _⟩ := T.len;refine AG Tryz.func99 rfl Tryz.ntmps99 (go ?_);refine Aj (L := [.slice sa S.length sc, .slice none 0 0, .map none, .map none]) rfl (fun j n3 => go ?_);have k3 := n3.E;have z3 := n3.size;have h6 : S.length ≤ 6 := (DI hv).2.1;refine Ah (α := Nat × Value) (fun y => [(0, .slice sa S.length sc), (1, iV x), (5, pt w.heap.size), (11, iV (S.length : Int)), (12, iV (y.1 : Int))]) (fun y W => y.1 ≤ S.length ∧ Ext w W ∧ Blk W w.heap.size 206 [.slice sa S.length sc, y.2, .map none, .map none] ∧ W.ownsRow j.heap.size 3 1 y.2 y.1 (valsC S x y.1) ∧ j.heap.size ≤ W.heap.size) (fun y => S.length - y.1) (0, .slice none 0 0) ⟨rfl, rfl, rfl, rfl, rfl, trivial⟩ ⟨by simp, k3, n3.D, ⟨rfl, .inl ⟨rfl, rfl⟩⟩, Nat.le_refl _⟩ ?_;rintro ⟨k, r⟩ W fr ⟨hk, kW, b, A, hW⟩;simp only at hk kW b A hW;refine go ?_;by_cases hlt : k < S.length
 ·refine go ?_;refine AW (rd 0 4 (rd 5 3 (.alt 4 (.alt 8 (.alt 9 (.alt 10 (.read 11 (.read 12 (.alt 13 .done .stop))) .stop) .stop) .stop) (.alt 8 (.alt 4 (.alt 9 (.alt 10 (.read 11 (.read 12 (.alt 13 .done .stop))) .stop) .stop) (.alt 9 (.alt 4 (.alt 10 (.read 11 (.read 12 (.alt 13 .done .stop))) .stop) .stop) .stop)) .stop)))) Al Dk (fun wd N ed => ⟨fun _ => True, ?_, ?_⟩)
  ·trivial
  have a := kW.trans N;have a1 := b.E N O;have a6 := Aa A N;have b1 := N.size;refine go ?_;refine D_A rfl ?_ (D_E rfl ?_)
  ·refine AM rfl (a1.cell (o := 1) rfl) ?_;refine wNl trivial ?_;refine D_E rfl ?_;refine AC (value_ok wd _ S x k (T.ext a) (hK.E a O) (Nat.le_trans hN (a).size) hv a4 a5 hlt) rfl ?_;rintro _ wC ⟨rfl, kC⟩;have M := a.trans kC;have D := a1.E kC O;have a0 := Aa a6 kC;have a9 := kC.size;refine wNl trivial ?_;refine D_E rfl ?_;refine AL (out := [iV (valS S x k)]) rfl U (by rw [madeInt]; rfl) (fun wB R => ?_);have kB := R.E;have G := R.own (n := 1) (size := 1) rfl Dq (Nat.le_refl _);have Q := M.trans kB;have P := D.E kB O;have f := Aa a0 kB;have a7 := kB.size;refine wNl trivial ?_;refine D_E rfl ?_;refine Ak (ok := AZ) rfl rfl f (AV G fun _ _ => trivial) U rfl rfl (AU rfl) U U U (fun H w7 s => ?_);refine wNl trivial ?_;refine go ?_;refine D_E rfl ?_;have B : ∀ g, r.ownBlock = some g → j.heap.size ≤ g := fun g z => (Ab f z).1;have z7 := s.E.size;have E : ∀ g, H.ownBlock = some g → j.heap.size ≤ g := fun g z => (Ab s.own z).1;refine AN (v := H) rfl rfl (own_oneC' s.own) (P.E s.E (fun l => by have := B _ (Option.mem_toList.1 l); omega)) O (fun w8 e => ?_);refine wNl trivial ?_;refine go ?_;refine ⟨(k + 1, H), ⟨rfl, ⟨rfl, rfl, rfl, rfl, ?_, trivial⟩, ⟨by (try simp only); omega, ?_, e.D, ?_, by have := e.size; (try simp only); omega⟩⟩, by simp only; omega⟩
   ·show iV ((k : Int) + 1) = _;rw [Int.natCast_add]; rfl
   ·exact En
   ·exact FB
  refine AC (value_ok wd _ S x k (T.ext a) (hK.E a O) (Nat.le_trans hN (a).size) hv a4 a5 hlt) rfl ?_;rintro _ wC ⟨rfl, kC⟩;have M := a.trans kC;have D := a1.E kC O;have a0 := Aa a6 kC;have a9 := kC.size;refine wNl trivial ?_;refine D_A rfl ?_ (D_E rfl ?_)
  ·refine AM rfl (D.cell (o := 1) rfl) ?_;refine wNl trivial ?_;refine D_E rfl ?_;refine AL (out := [iV (valS S x k)]) rfl U (by rw [madeInt]; rfl) (fun wB R => ?_);have kB := R.E;have G := R.own (n := 1) (size := 1) rfl Dq (Nat.le_refl _);have Q := M.trans kB;have P := D.E kB O;have f := Aa a0 kB;have a7 := kB.size;refine wNl trivial ?_;refine D_E rfl ?_;refine Ak (ok := AZ) rfl rfl f (AV G fun _ _ => trivial) U rfl rfl (AU rfl) U U U (fun H w7 s => ?_);refine wNl trivial ?_;refine go ?_;refine D_E rfl ?_;have B : ∀ g, r.ownBlock = some g → j.heap.size ≤ g := fun g z => (Ab f z).1;have z7 := s.E.size;have E : ∀ g, H.ownBlock = some g → j.heap.size ≤ g := fun g z => (Ab s.own z).1;refine AN (v := H) rfl rfl (own_oneC' s.own) (P.E s.E (fun l => by have := B _ (Option.mem_toList.1 l); omega)) O (fun w8 e => ?_);refine wNl trivial ?_;refine go ?_;refine ⟨(k + 1, H), ⟨rfl, ⟨rfl, rfl, rfl, rfl, ?_, trivial⟩, ⟨by (try simp only); omega, ?_, e.D, ?_, by have := e.size; (try simp only); omega⟩⟩, by simp only; omega⟩
   ·show iV ((k : Int) + 1) = _;rw [Int.natCast_add]; rfl
   ·exact En
   ·exact FB
  refine AL (out := [iV (valS S x k)]) rfl U (by rw [madeInt]; rfl) (fun wB R => ?_);have kB := R.E;have G := R.own (n := 1) (size := 1) rfl Dq (Nat.le_refl _);have Q := M.trans kB;have P := D.E kB O;have f := Aa a0 kB;have a7 := kB.size;refine wNl trivial ?_;refine D_E rfl ?_;refine AM rfl (P.cell (o := 1) rfl) ?_;refine wNl trivial ?_;refine D_E rfl ?_;refine Ak (ok := AZ) rfl rfl f (AV G fun _ _ => trivial) U rfl rfl (AU rfl) U U U (fun H w7 s => ?_);refine wNl trivial ?_;refine go ?_;refine D_E rfl ?_;have B : ∀ g, r.ownBlock = some g → j.heap.size ≤ g := fun g z => (Ab f z).1;have z7 := s.E.size;have E : ∀ g, H.ownBlock = some g → j.heap.size ≤ g := fun g z => (Ab s.own z).1;refine AN (v := H) rfl rfl (own_oneC' s.own) (P.E s.E (fun l => by have := B _ (Option.mem_toList.1 l); omega)) O (fun w8 e => ?_);refine wNl trivial ?_;refine go ?_;refine ⟨(k + 1, H), ⟨rfl, ⟨rfl, rfl, rfl, rfl, ?_, trivial⟩, ⟨by (try simp only); omega, ?_, e.D, ?_, by have := e.size; (try simp only); omega⟩⟩, by simp only; omega⟩
  ·show iV ((k : Int) + 1) = _;rw [Int.natCast_add]; rfl
  ·exact En
  ·exact FB
 ·refine go ?_;obtain rfl : k = S.length := by omega
  obtain ⟨ra, rc, er, _⟩ := own_ints A;subst er;refine go ?_;refine W_makeMapV (fun wa ya za ma => go ?_);refine As rfl rfl rfl ma rfl (fun wb X p mb => ?_);have yb := (ya).E X O;replace p := p.trans za;refine go ?_;refine As rfl rfl rfl mb rfl (fun wc Z F mc => ?_);have yc := (yb).E Z O;replace F := F.trans p;refine go ?_;refine As rfl rfl rfl mc rfl (fun wd N m md => ?_);have yd := (yc).E N O;replace m := m.trans F;refine go ?_;refine As rfl rfl rfl md rfl (fun we ke q me => ?_);have ye := (yd).E ke O;replace q := q.trans m;refine go ?_;refine As rfl rfl rfl me rfl (fun wf kf C mf => ?_);have t := (ye).E kf O;replace C := C.trans q;refine go ?_;refine As rfl rfl rfl mf rfl (fun wg kg zg mg => ?_);have yg := (t).E kg O;replace zg := zg.trans C;refine go ?_;refine As rfl rfl rfl mg rfl (fun wh kh zh mh => ?_);have yh := (yg).E kh O;replace zh := zh.trans zg;refine go ?_;refine As rfl rfl rfl mh rfl (fun wi ki zi mi => ?_);have yi := (yh).E ki O;replace zi := zi.trans zh;refine go ?_;refine As rfl rfl rfl mi rfl (fun wj kj zj mj => ?_);have yj := (yi).E kj O;replace zj := zj.trans zi;have b0 := b.lt;refine go ?_;refine AN (v := .map (some W.heap.size)) rfl rfl rfl (b.E yj O) O (fun V d => go ?_);have zV : V.heap.size = W.heap.size + 1 := by rw [d.size, zj]
  have m1 : VMap V W.heap.size (truT w.heap.size) := mj.E d.E Dl;have eV : Ext w V := (kW.trans yj).E d.E O;have oV := Ad (Ad A yj (fun g z => by simp)) d.E (fun g z => by have := (Ab A z).1; simp; omega);have bV := d.D;clear mj ma mb mc md me mf mg mh mi yj d b A ya yb yc yd ye t yg yh yi X Z N ke kf kg kh ki kj;refine go ?_;refine W_makeMapV (fun wa ya za ma => go ?_);refine As rfl rfl rfl ma rfl (fun wb X p mb => ?_);have yb := (ya).E X O;replace p := p.trans za;refine go ?_;refine As rfl rfl rfl mb rfl (fun wc Z F mc => ?_);have yc := (yb).E Z O;replace F := F.trans p;refine go ?_;refine As rfl rfl rfl mc rfl (fun wd N m md => ?_);have yd := (yc).E N O;replace m := m.trans F;refine go ?_;refine As rfl rfl rfl md rfl (fun we ke q me => ?_);have ye := (yd).E ke O;replace q := q.trans m;refine go ?_;refine As rfl rfl rfl me rfl (fun wf kf C mf => ?_);have t := (ye).E kf O;replace C := C.trans q;refine go ?_;refine AN (v := .map (some V.heap.size)) rfl rfl rfl (bV.E t O) O (fun I c => go ?_);have m2 : VMap I V.heap.size (rawT w.heap.size) := mf.E c.E Dl;have m3 : VMap I W.heap.size (truT w.heap.size) := (m1.E t O).E c.E Dl;have eU : Ext w I := (eV.trans t).E c.E O;have oU := Ad (Ad oV t (fun g z => by simp)) c.E (fun g z => by have := (Ab oV z).1; simp; omega);have l := own_ints oU;have bU := c.D;clear c oU oV;obtain ⟨a2, c2, er, a3⟩ := l;have e1 : ra = a2 := (Value.slice.inj er).1;rw [← e1] at a3;have a8 : ∀ i, i < S.length → ∃ g o, ra = some ⟨g, o, none⟩ ∧ I.cell? ⟨g, o + i, none⟩ = some (iV (valS S x i)) := fun i hi => a3 i _ (by simp [valsC, hi]);exact AA rfl ⟨_, rfl, eU, sa, sc, ra, rc, _, _, bU, T.ext eU, a8, m3, m2⟩
section
variable {α : Type} {p : α → Bool} {l : List α} {k : Nat} {y : α}
theorem all_stop (K : l[k]? = some y) (q : p y = false) : l.all p = false := by
 rw [← Bool.not_eq_true, List.all_eq_true]; intro h; have := h _ (List.mem_of_getElem? K); rw [q] at this; cases this
theorem all_done (h : ∀ (i : Nat) (y : α), i < l.length → l[i]? = some y → p y = true) : l.all p = true := by
 rw [List.all_eq_true]; intro z n; obtain ⟨i, F⟩ := List.getElem?_of_mem n; exact h i z (List.getElem?_eq_some_iff.1 F).1 F
theorem any_stop (K : l[k]? = some y) (q : p y = true) : l.any p = true := by
 rw [List.any_eq_true]; exact ⟨y, List.mem_of_getElem? K, q⟩
theorem any_done (h : ∀ (i : Nat) (y : α), i < l.length → l[i]? = some y → p y = false) : l.any p = false := by
 rw [List.any_eq_false]; intro z n; obtain ⟨i, F⟩ := List.getElem?_of_mem n; rw [h i z (List.getElem?_eq_some_iff.1 F).1 F]; exact Bool.false_ne_true
end
theorem pastL_all : ∀ l : LF, pastL l = l.all Bs
 | [] => rfl
 | a :: l => by rw [pastL, pastL_all l]; rfl
theorem rpast_ok : ∀ (n : Nat) (w : World) (b o : Nat) (f : Fml), dpF f ≤ n → PF AZ w b o f → Fn Zp 191 [.pointer (some ⟨b, o, none⟩)] w fun u w' => u = .bool (Bs f) ∧ Ext w w' := by
 intro n
 induction n with
 | zero => intro w b o f G; rw [BP] at G; omega
 | succ n ih =>
 intro w b o f G I;rw [BP] at G;obtain ⟨t, C, X, q0, q1, q2, q3, q4, S⟩ := I.all;obtain ⟨N, nm, v, d, j⟩ := f;simp only [Fml.op, Fml.name, Fml.val, Fml.args] at *
 have A : ∀ (k : Nat) (a : Fml), j[k]? = some a → ∀ W, Ext w W → ∃ r g, t = some ⟨r, g, none⟩ ∧ Fn Zp 191 [.pointer (some ⟨r, g + k * 5, none⟩)] W fun u w' => u = .bool (Bs a) ∧ Ext W w' := fun k a H W M => by
  obtain ⟨r, g, e, L⟩ := S k a H;have D := List.mem_of_getElem? H;have := Ba D;exact ⟨r, g, e, ih W r _ a U (L.E M (fun _ _ => by simp))⟩
 refine AG Tryz.func191 rfl Tryz.ntmps191 (go ?_);rw [Bs];by_cases h : N = 8
 ·subst h;exact Eg
 by_cases m : N = 9
 ·subst m;exact Eg
 by_cases P : N = 10
 ·subst P;exact Eg
 have Q : (!(decide (N = 8) || decide (N = 9) || decide (N = 10)) && pastL j) = j.all Bs := by
  rw [pastL_all]; simp [h, m, P]
 rw [Q];refine go ?_;refine Ah (α := Nat) (fun k => [(0, .pointer (some ⟨b, o, none⟩)), (27, iV (j.length : Int)), (28, iV (k : Int))]) (fun k W => k ≤ j.length ∧ Ext w W ∧ ∀ (i : Nat) (y : Fml), i < k → j[i]? = some y → Bs y = true) (fun k => j.length - k) 0 (by repeat (first | exact trivial | refine ⟨rfl, ?_⟩)) ⟨by omega, Ext.refl _, fun i y F => by omega⟩ ?_;rintro k W Z ⟨V, T, q⟩;refine go ?_;by_cases B : k < j.length
 ·refine go ?_;obtain ⟨y, K⟩ : ∃ y, j[k]? = some y := ⟨_, List.getElem?_eq_getElem B⟩;obtain ⟨r, g, rfl, E⟩ := A k y K W T;refine go ?_;refine AC E rfl ?_;rintro _ w4 ⟨rfl, R⟩;have s := T.trans R;cases hv : Bs y with
  | true =>
   refine go ?_;refine ⟨k + 1, ⟨rfl, ⟨(by repeat (first | exact trivial | refine ⟨rfl, ?_⟩)), ⟨by omega, s, fun i z F c => ?_⟩⟩⟩, by omega⟩;by_cases x : i = k
   ·subst x; rw [K] at c; cases c; exact hv
   ·exact q i z U c
  | false =>
   refine go ?_;exact AA rfl ⟨congrArg Value.bool (all_stop K hv).symm, s⟩
 ·refine go ?_;exact AA rfl ⟨congrArg Value.bool (all_done fun i z F c => q i z U c).symm, T⟩
theorem rnow_of (w : World) (r : Nat) (S : List Sgn) (x : Int) (F : FuncId) [hF : AD Zp F] (b o : Nat) (f : Fml) (z : Rdr w r S x) (I : PF AZ w b o f) (M : (truT r).lookup f.op = some (mvR F r)) (v : Bool)
  (c : ∀ W, Ext w W → Fn Zp F [pt r, .pointer (some ⟨b, o, none⟩)] W fun u w' => u = .bool v ∧ Ext W w') : Fn Zp 188 [pt r, .pointer (some ⟨b, o, none⟩)] w fun u w' => u = .bool v ∧ Ext w w' := by
 obtain ⟨s, L, H, B, m, j, g, h, q, A, i⟩ := z;have n := I.opc;refine AG Tryz.func188 rfl Tryz.ntmps188 (go ?_);refine AW (rd 0 10 (.alt 10 (.read 11 .done) .stop)) Al Dk (fun K N d => ⟨Ext K, ?_, ?_⟩)
 ·exact EZ
 refine go ?_;refine D_R rfl rfl (fun V a => by refine W_lookupV rfl rfl (A.E (N.trans a) O) M ?_; exact AH ⟨rfl, rfl, rfl⟩) ?_;refine go ?_;refine D_E rfl ?_;refine Av (v1 := [pt r]) (v2 := []) (vs := [.pointer (some ⟨b, o, none⟩)]) rfl (c K N) rfl ?_;rintro _ t ⟨rfl, R⟩;refine AH ⟨Ext K, fun _ e => e, R, ?_⟩;refine go ?_;exact AA rfl ⟨rfl, N.trans R⟩
theorem ralways_ok (w : World) (r : Nat) (p : Value) : Fn Zp 145 [pt r, p] w fun u w' => u = .bool true ∧ Ext w w' := by
 refine AG Tryz.func145 rfl Tryz.ntmps145 (go ?_);exact AA rfl ⟨rfl, Ext.refl _⟩
theorem rnever_ok (w : World) (r : Nat) (p : Value) : Fn Zp 146 [pt r, p] w fun u w' => u = .bool false ∧ Ext w w' := by
 refine AG Tryz.func146 rfl Tryz.ntmps146 (go ?_);exact AA rfl ⟨rfl, Ext.refl _⟩
theorem ryest_ok (w : World) (r b o : Nat) (f : Fml) (I : PF AZ w b o f) : Fn Zp 151 [pt r, .pointer (some ⟨b, o, none⟩)] w fun u w' => u = .bool (decide (f.val = 1)) ∧ Ext w w' := by
 obtain ⟨_, _, _, _, _, a, _⟩ := I.all;by_cases q : f.val = 1
 ·refine AG Tryz.func151 rfl Tryz.ntmps151 (go ?_);exact AA rfl ⟨by rw [decide_eq_true q]; rfl, Ext.refl _⟩
 ·refine AG Tryz.func151 rfl Tryz.ntmps151 (go ?_);exact AA rfl ⟨by rw [decide_eq_false q]; rfl, Ext.refl _⟩
def ArgN (w : World) (r : Nat) (x : Vl) (d : Option Addr) (args : LF) : Prop := ∀ (k : Nat) (a : Fml), args[k]? = some a → ∀ W, Ext w W → ∃ b c, d = some ⟨b, c, none⟩ ∧ Fn Zp 188 [pt r, .pointer (some ⟨b, c + k * 5, none⟩)] W fun u Z => u = .bool (Br x a) ∧ Ext W Z
theorem rnot_ok (w : World) (r b o : Nat) (x : Vl) (args : LF) (a : Fml) (c : Option Addr) (C : Nat) (q4 : w.cell? ⟨b, o + 4, none⟩ = some (.slice c args.length C)) (F : ArgN w r x c args) (H : args = [a]) :
  Fn Zp 148 [pt r, .pointer (some ⟨b, o, none⟩)] w fun u w' => u = .bool (!Br x a) ∧ Ext w w' := by
 subst H;obtain ⟨d, e, rfl, E⟩ := F 0 a rfl w (Ext.refl _);simp only [List.length_singleton] at q4;refine AG Tryz.func148 rfl Tryz.ntmps148 (go ?_);refine AC E rfl ?_;rintro _ Q ⟨rfl, X⟩;exact Eb
theorem rand_ok (w : World) (r b o : Nat) (x : Vl) (args : LF) (a : Option Addr) (C : Nat) (G : args.length ≤ 9223372036854775807) (q4 : w.cell? ⟨b, o + 4, none⟩ = some (.slice a args.length C)) (d : ArgN w r x a args) :
  Fn Zp 149 [pt r, .pointer (some ⟨b, o, none⟩)] w fun u w' => u = .bool (args.all (Br x)) ∧ Ext w w' := by
 refine AG Tryz.func149 rfl Tryz.ntmps149 (go ?_);refine Ah (α := Nat) (fun k => [(0, pt r), (1, .pointer (some ⟨b, o, none⟩)), (10, iV (args.length : Int)), (11, iV (k : Int))]) (fun k W => k ≤ args.length ∧ Ext w W ∧ ∀ (i : Nat) (y : Fml), i < k → args[i]? = some y → Br x y = true) (fun k => args.length - k) 0 (by repeat (first | exact trivial | refine ⟨rfl, ?_⟩)) ⟨by omega, Ext.refl _, fun i y F => by omega⟩ ?_;rintro k W Z ⟨j, T, c⟩;refine go ?_;by_cases g : k < args.length
 ·refine go ?_;obtain ⟨y, K⟩ : ∃ y, args[k]? = some y := ⟨_, List.getElem?_eq_getElem g⟩;obtain ⟨h, m, rfl, E⟩ := d k y K W T;refine go ?_;refine AC E rfl ?_;rintro _ q ⟨rfl, R⟩;have f := T.trans R;cases hv : Br x y with
  | true =>
   refine go ?_;refine ⟨k + 1, ⟨rfl, ⟨(by repeat (first | exact trivial | refine ⟨rfl, ?_⟩)), ⟨by omega, f, fun i z F n => ?_⟩⟩⟩, by omega⟩;by_cases e : i = k
   ·subst e; rw [K] at n; cases n; exact hv
   ·exact c i z U n
  | false =>
   refine go ?_;exact AA rfl ⟨congrArg Value.bool (all_stop K hv).symm, f⟩
 ·refine go ?_;exact AA rfl ⟨congrArg Value.bool (all_done fun i z F n => c i z U n).symm, T⟩
theorem ror_ok (w : World) (r b o : Nat) (x : Vl) (args : LF) (a : Option Addr) (C : Nat) (G : args.length ≤ 9223372036854775807) (q4 : w.cell? ⟨b, o + 4, none⟩ = some (.slice a args.length C)) (d : ArgN w r x a args) :
  Fn Zp 150 [pt r, .pointer (some ⟨b, o, none⟩)] w fun u w' => u = .bool (args.any (Br x)) ∧ Ext w w' := by
 refine AG Tryz.func150 rfl Tryz.ntmps150 (go ?_);refine Ah (α := Nat) (fun k => [(0, pt r), (1, .pointer (some ⟨b, o, none⟩)), (10, iV (args.length : Int)), (11, iV (k : Int))]) (fun k W => k ≤ args.length ∧ Ext w W ∧ ∀ (i : Nat) (y : Fml), i < k → args[i]? = some y → Br x y = false) (fun k => args.length - k) 0 (by repeat (first | exact trivial | refine ⟨rfl, ?_⟩)) ⟨by omega, Ext.refl _, fun i y F => by omega⟩ ?_;rintro k W Z ⟨j, T, c⟩;refine go ?_;by_cases g : k < args.length
 ·refine go ?_;obtain ⟨y, K⟩ : ∃ y, args[k]? = some y := ⟨_, List.getElem?_eq_getElem g⟩;obtain ⟨h, m, rfl, E⟩ := d k y K W T;refine go ?_;refine AC E rfl ?_;rintro _ q ⟨rfl, R⟩;have f := T.trans R;cases hv : Br x y with
  | false =>
   refine go ?_;refine ⟨k + 1, ⟨rfl, ⟨(by repeat (first | exact trivial | refine ⟨rfl, ?_⟩)), ⟨by omega, f, fun i z F n => ?_⟩⟩⟩, by omega⟩;by_cases e : i = k
   ·subst e; rw [K] at n; cases n; exact hv
   ·exact c i z U n
  | true =>
   refine go ?_;exact AA rfl ⟨congrArg Value.bool (any_stop K hv).symm, f⟩
 ·refine go ?_;exact AA rfl ⟨congrArg Value.bool (any_done fun i z F n => c i z U n).symm, T⟩
theorem rsince_ok (w : World) (r b o : Nat) (x : Vl) (v : Int) (args : LF) (a c : Fml) (d : Option Addr) (C : Nat) (q2 : w.cell? ⟨b, o + 2, none⟩ = some (iV v)) (q4 : w.cell? ⟨b, o + 4, none⟩ = some (.slice d args.length C)) (F : ArgN w r x d args) (H : args = [a, c]) :
  Fn Zp 152 [pt r, .pointer (some ⟨b, o, none⟩)] w fun u w' => u = .bool (Br x c || (decide (v = 1) && Br x a)) ∧ Ext w w' := by
 subst H;obtain ⟨g, h, rfl, E⟩ := F 1 c rfl w (Ext.refl _);simp only [List.length_cons, List.length_nil] at q4;refine AG Tryz.func152 rfl Tryz.ntmps152 (go ?_);refine AC E rfl ?_;rintro _ Q ⟨rfl, X⟩;obtain ⟨_, _, e, M⟩ := F 0 a rfl Q X;cases e;cases hc1 : Br x c with
 | true =>
  exact Eb
 | false =>
  by_cases q : v = 1
  ·subst q;refine go ?_;refine AC M rfl ?_;rintro _ L ⟨rfl, f⟩;refine go ?_;exact AA rfl ⟨rfl, X.trans f⟩
  ·rw [decide_eq_false q];exact Eb
theorem rtrig_ok (w : World) (r b o : Nat) (x : Vl) (v : Int) (args : LF) (a c : Fml) (d : Option Addr) (C : Nat) (q2 : w.cell? ⟨b, o + 2, none⟩ = some (iV v)) (q4 : w.cell? ⟨b, o + 4, none⟩ = some (.slice d args.length C)) (F : ArgN w r x d args) (H : args = [a, c]) :
  Fn Zp 153 [pt r, .pointer (some ⟨b, o, none⟩)] w fun u w' => u = .bool (Br x c && (decide (v = 1) || Br x a)) ∧ Ext w w' := by
 subst H;obtain ⟨g, h, rfl, E⟩ := F 1 c rfl w (Ext.refl _);simp only [List.length_cons, List.length_nil] at q4;refine AG Tryz.func153 rfl Tryz.ntmps153 (go ?_);refine AC E rfl ?_;rintro _ Q ⟨rfl, X⟩;obtain ⟨_, _, e, M⟩ := F 0 a rfl Q X;cases e;cases hc1 : Br x c with
 | false =>
  exact Eb
 | true =>
  by_cases q : v = 1
  ·subst q;exact Eb
  ·rw [decide_eq_false q];refine go ?_;refine AC M rfl ?_;rintro _ L ⟨rfl, f⟩;refine go ?_;exact AA rfl ⟨rfl, X.trans f⟩
theorem ris_ok (w : World) (r b o : Nat) (S : List Sgn) (x : Int) (nm : LU) (v : Int) (z : Rdr w r S x) (q1 : w.cell? ⟨b, o + 1, none⟩ = some (AI nm)) (q2 : w.cell? ⟨b, o + 2, none⟩ = some (iV v)) (P : knS S nm v = true) :
  Fn Zp 147 [pt r, .pointer (some ⟨b, o, none⟩)] w fun u w' => u = .bool (decide (vlS S x nm = v)) ∧ Ext w w' := by
 obtain ⟨j, s, a, D, n⟩ := kn_find P;obtain ⟨M, t, H, m, i, g, f, h, B, _, _⟩ := z;have d := (List.getElem?_eq_some_iff.1 D).1;obtain ⟨Z, q, rfl, X⟩ := B j d;have L : Dg S nm = (j : Int) := by unfold Dg; rw [a]
 have V : vlS S x nm = valS S x j := by unfold vlS; rw [a]
 rw [V];refine AG Tryz.func147 rfl Tryz.ntmps147 (go ?_);refine AW (rd 0 12 (rd 15 4 (.alt 12 (.read 13 (.read 14 (.read 19 (.read 20 .done)))) .stop))) Al Dk (fun K N I => ⟨Ext K, ?_, ?_⟩)
 ·exact EZ
 refine go ?_;refine D_E rfl ?_;refine AC (sigFind_ok K _ S nm (h.ext N)) rfl ?_;rintro _ K ⟨rfl, rfl⟩;rw [L];refine AH ⟨Ext K, fun _ e => e, Ext.refl _, ?_⟩;by_cases c : valS S x j = v
 ·refine go ?_;exact AA rfl ⟨by rw [decide_eq_true c]; rfl, N⟩
 ·refine go ?_;exact AA rfl ⟨by rw [decide_eq_false c]; rfl, N⟩
theorem rnow_ok (R : World) (r : Nat) (S : List Sgn) (x : Int) (z : Rdr R r S x) : ∀ (n : Nat) (w : World) (b o : Nat) (f : Fml) (i : Bool), dpF f ≤ n → Ext R w → PF AZ w b o f → BC i f = true → Bs f = true → isB (knS S) f = true →
  Fn Zp 188 [pt r, .pointer (some ⟨b, o, none⟩)] w fun u w' => u = .bool (Br (vlS S x) f) ∧ Ext w w' := by
 intro n
 induction n with
 | zero => intro w b o f i m; rw [BP] at m; omega
 | succ n ih =>
 intro w b o f i m E K Z q hk;rw [BP] at m;have I := z.ext E;obtain ⟨g, h, A, q0, L, s, q3, C, P⟩ := K.all;have D := K;obtain ⟨op, d, v, bd, j⟩ := f;obtain ⟨a4, a6, _, a0⟩ := Bz Z;have t := Bg a6;obtain ⟨a1, a2⟩ := is_iff.1 hk;rw [nowM_eq];simp only [Bs, Bool.and_eq_true, Bool.not_eq_true', Bool.or_eq_false_iff, decide_eq_false_iff_not] at q;obtain ⟨⟨⟨a8, a9⟩, a7⟩, a5⟩ := q;simp only [Fml.op, Fml.name, Fml.val, Fml.args] at m A q0 L s q3 C P ⊢;have hc := Bj a4
 have X : ArgN w r (vlS S x) g j := fun k a H W M => by
  obtain ⟨B, o', e, q⟩ := P k a H;have F := List.mem_of_getElem? H;have := Ba F;exact ⟨B, o', e, ih W B _ a _ U (E.trans M) (q.E M (fun _ _ => by simp)) (a0 a F) (pastL_mem a5 F) (a2 a F)⟩
 have N : ∀ W, Ext w W → ArgN W r (vlS S x) g j := fun W e k a H V T => X k a H V (e.trans T);rcases hc with rfl | rfl | rfl | rfl | rfl | rfl | rfl | rfl | rfl | rfl | rfl | rfl
 ·exact rnow_of w r S x 145 b o _ I D rfl _ fun W e => ralways_ok W r _
 ·exact rnow_of w r S x 146 b o _ I D rfl _ fun W e => rnever_ok W r _
 ·exact rnow_of w r S x 147 b o _ I D rfl _ fun W e => ris_ok W r b o S x d v (I.ext e) (e.cell L O) (e.cell s O) (a1 rfl)
 ·have a3 : j.length = 1 := by simpa [Ar] using t
  obtain ⟨a, H⟩ := C7 a3;have G : nowOp (vlS S x) 4 d v (decide (v = 1)) (j.map (Br (vlS S x))) = !Br (vlS S x) a := by rw [H]; rfl
  rw [G];exact rnow_of w r S x 148 b o _ I D rfl _ fun W e => rnot_ok W r b o _ j a g h (e.cell C O) (N W e) H
 ·have G : nowOp (vlS S x) 5 d v (decide (v = 1)) (j.map (Br (vlS S x))) = j.all (Br (vlS S x)) := by rw [show nowOp (vlS S x) 5 d v (decide (v = 1)) (j.map (Br (vlS S x))) = (j.map (Br (vlS S x))).all id from rfl, List.all_map]; rfl
  rw [G];exact rnow_of w r S x 149 b o _ I D rfl _ fun W e => rand_ok W r b o _ j g h A (e.cell C O) (N W e)
 ·have G : nowOp (vlS S x) 6 d v (decide (v = 1)) (j.map (Br (vlS S x))) = j.any (Br (vlS S x)) := by rw [show nowOp (vlS S x) 6 d v (decide (v = 1)) (j.map (Br (vlS S x))) = (j.map (Br (vlS S x))).any id from rfl, List.any_map]; rfl
  rw [G];exact rnow_of w r S x 150 b o _ I D rfl _ fun W e => ror_ok W r b o _ j g h A (e.cell C O) (N W e)
 ·omega
 ·omega
 ·omega
 ·exact rnow_of w r S x 151 b o _ I D rfl _ fun W e => ryest_ok W r b o _ (D.E e (fun _ _ => by simp))
 ·have Q : j.length = 2 := by simpa [Ar] using t
  obtain ⟨a, c, H⟩ := CZ Q;have G : nowOp (vlS S x) 16 d v (decide (v = 1)) (j.map (Br (vlS S x))) = (Br (vlS S x) c || (decide (v = 1) && Br (vlS S x) a)) := by rw [H]; rfl
  rw [G];exact rnow_of w r S x 152 b o _ I D rfl _ fun W e => rsince_ok W r b o _ v j a c g h (e.cell s O) (e.cell C O) (N W e) H
 ·have Q : j.length = 2 := by simpa [Ar] using t
  obtain ⟨a, c, H⟩ := CZ Q;have G : nowOp (vlS S x) 17 d v (decide (v = 1)) (j.map (Br (vlS S x))) = (Br (vlS S x) c && (decide (v = 1) || Br (vlS S x) a)) := by rw [H]; rfl
  rw [G];exact rnow_of w r S x 153 b o _ I D rfl _ fun W e => rtrig_ok W r b o _ v j a c g h (e.cell s O) (e.cell C O) (N W e) H
end
theorem distinct_ok (w : World) (B : Nat) (v : Value) (l : LF) (L : List (LV)) (ok : Nat → Prop) (d : w.ownsRow B 36 5 v l.length L.flatten) (H : FsAt ok w L l)
  (f : ∀ b, ok b → Unm w b ∧ b < w.heap.size ∧ v.ownBlock ≠ some b) (t : ∀ x ∈ l, szF x ≤ 1000000) (G : l.length < 4611686018427387904) :
  Fn Zp 134 [v, cmpV] w fun u w' => Keep v.ownBlock.toList w w' ∧ u.ownBlock = v.ownBlock ∧ ∃ M, w'.ownsRow B 36 5 u (dist l).length M.flatten ∧ FsAt ok w' M (dist l) := by
 have X : ∃ p n a, v = .slice p n a := by
  rcases d.2 with ⟨e, s⟩ | ⟨g, a, o, e, _⟩
  ·exact ⟨_, _, _, e⟩
  ·exact ⟨_, _, _, e⟩
 obtain ⟨p, n, a, rfl⟩ := X;have m : ∀ b, ok b → b ∉ (Value.slice p n a).ownBlock.toList := fun b S V => (f b S).2.2 (Option.mem_toList.1 V);have W : ∀ g, (Value.slice p n a).ownBlock = some g → g < w.heap.size := fun g z => (Ab d z).2;refine AG Tryz.func134 rfl Tryz.ntmps134 (go ?_);refine Aj (L := [cmpV]) rfl (fun Z E => go ?_);have z1 := E.size;have k := E.D;have q : (Value.slice p n a).ownBlock ≠ some w.heap.size := fun e => by have := W _ e; omega
 have K : w.heap.size ∉ (Value.slice p n a).ownBlock.toList := fun V => q (Option.mem_toList.1 V);refine go ?_;refine AC (sort_ok Z B _ l L ok (Aa d E.E) (H.ext E.E) (fun b S => ⟨(f b S).1.eq (E.E.block b (f b S).2.1 O), by have := (f b S).2.1; omega, (f b S).2.2⟩) t G) rfl ?_;rintro _ D ⟨rfl, y, F, c, i, N, C, T⟩;have I : c.length = l.length := i.length_eq;have j : Keep (Value.slice p n a).ownBlock.toList w D := E.E.any.trans y (fun _ h _ => h);refine go ?_;rw [← I] at C;refine AC (compact_ok D B _ c F ok w.heap.size C T (fun b S => ⟨(f b S).1.eq (j.block b (f b S).2.1 (m b S)), by have := (f b S).2.1; have := j.size; omega, (f b S).2.2⟩) (fun x V => t x (i.mem_iff.1 V)) (k.E y K) q) rfl ?_;rintro u w3 ⟨A, r, R, P, Q⟩;rw [cpN_dist N i] at P Q
 obtain ⟨p', n', a0, rfl⟩ : ∃ p n a, u = .slice p n a := by
  rcases P.2 with ⟨e, s⟩ | ⟨g, a, o, e, _⟩
  ·exact ⟨_, _, _, e⟩
  ·exact ⟨_, _, _, e⟩
 refine go ?_;exact AA rfl ⟨j.trans A (fun _ h _ => h), r, R, P, Q.E A m⟩
theorem negated_ok (w : World) (c : LV) (f : Fml) (ok : Nat → Prop) (q : FAt ok w (.agg c.toArray) f) (H : f.op = 4 → 0 < f.args.length) :
  Fn Zp 136 [.agg c.toArray] w fun u w' => ∃ d : LV, u = .tuple #[.agg d.toArray, .bool (decide (f.op = 4))] ∧ Ext w w' ∧ FAt ok w' (.agg d.toArray) (if f.op = 4 then f.args.getD 0 Ae else Ae) := by
 obtain ⟨g, Z, x2, x3, x4, rfl⟩ := q.v5;obtain ⟨D, e, s, h, M, B, G⟩ := q.form;simp only [Value.agg.injEq, List.toArray_eq_iff, List.cons.injEq, and_true] at e;obtain ⟨rfl, rfl, rfl, rfl, rfl⟩ := e;obtain ⟨x, z, rfl, R, t, _⟩ := id h;refine AG Tryz.func136 rfl Tryz.ntmps136 (go ?_);refine Aj (L := [iV f.op, AI f.name, iV f.val, iV f.bound, .slice x f.args.length z]) rfl (fun Q E => ?_);refine AQ (L := zero5) (fun X V => go ?_);have j := E.E.trans V.E;have k := E.D.E V.E O;have b := V.D;have z1 := E.size;by_cases i : f.op = 4
 ·obtain ⟨a, T⟩ : ∃ a, f.args[0]? = some a := ⟨_, List.getElem?_eq_getElem (H i)⟩;obtain ⟨d, C⟩ : ∃ d, s[0]? = some d := ⟨_, List.getElem?_eq_getElem (by rw [M]; exact H i)⟩;have S := G 0 d a C T;obtain ⟨F, l, m, I, v, rfl⟩ := S.v5;obtain ⟨r, p, rfl, n, o⟩ := Sl.fml h B C (H i);have P : r < w.heap.size := World.block_lt_of_cell? w _ (o 0 _ rfl);rw [if_pos i, decide_eq_true i, show f.args.getD 0 Ae = a by rw [List.getD_eq_getElem?_getD, T]; rfl];rw [i] at k;refine go ?_;refine AR (L := [F, l, m, I, v]) rfl rfl (o.E j O) ?_;refine AE (cs := [F, l, m, I, v]) rfl rfl rfl S.one b Dp (fun W A => go ?_);exact Bm rfl rfl rfl A.D.cells ⟨[F, l, m, I, v], rfl, j.E A.E Dl, ((S.lt.ext j).E A.E (fun y K N => by have := K.2; simp at N; omega)).mono fun y K => K.1⟩
 ·rw [if_neg i, decide_eq_false i];refine go ?_;refine AE (cs := zero5) rfl rfl rfl (AU rfl) b Dp (fun W A => go ?_);exact Bm rfl rfl rfl A.D.cells ⟨zero5, rfl, j.E A.E Dl, FAt.leaf _ _ 0 [] 0 0⟩
theorem SlAt.c5 {ok : Nat → Prop} {w : World} {a : Option Addr} {n c : Nat} {l : LF} {k : Nat} (h : SlAt fmlR ok w (.slice a n c) l) (P : k < l.length) : ∃ b o g f m j i, a = some ⟨b, o, none⟩ ∧ Cells w b (o + k * 5) [g, f, m, j, i] ∧ FAt ok w (.agg [g, f, m, j, i].toArray) (l.getD k Ae) := by
 have p : l[k]? = some (l.getD k Ae) := by rw [List.getD_eq_getElem?_getD, List.getElem?_eq_getElem P]; rfl
 obtain ⟨b, o, e, _, d, C, T, I⟩ := SlAt.pf h p;obtain ⟨g, f, m, j, i, rfl⟩ := AX C;exact ⟨b, o, g, f, m, j, i, e, T, I⟩
theorem Inc.at {l : LF} (h : Inc l) : ∀ i j, i < j → j < l.length → BO (l.getD i Ae) (l.getD j Ae) < 0 := by
 induction l with
 | nil => intro i j _ y; simp at y
 | cons a l ih =>
  intro i j c y;obtain ⟨X, W⟩ := h;cases j with
  | zero => omega
  | succ j =>
   have E : j < l.length := by simpa using y
   have D : (a :: l).getD (j + 1) Ae = l.getD j Ae := rfl;rw [D];cases i with
   | zero => exact X _ (by rw [List.getD_eq_getElem?_getD, List.getElem?_eq_getElem E]; exact List.getElem_mem E)
   | succ i => exact ih W i j U E
theorem bs_found {l : LF} {y : Fml} {i : Nat} (t : Inc l) (e : i ≤ l.length) (X : ∀ a, a < i → BO (l.getD a Ae) y < 0) (W : ∀ a, i ≤ a → a < l.length → ¬ BO (l.getD a Ae) y < 0) :
  l.any (fun z => decide (BO z y = 0)) = (decide (i < l.length) && decide (BO (l.getD i Ae) y = 0)) := by
 rw [Bool.eq_iff_iff, List.any_eq_true, Bool.and_eq_true, decide_eq_true_eq, decide_eq_true_eq];constructor
 ·rintro ⟨z, n, T⟩;rw [decide_eq_true_eq] at T;obtain ⟨j, b⟩ := List.getElem?_of_mem n;have c := (List.getElem?_eq_some_iff.1 b).1;have D : l.getD j Ae = z := by rw [List.getD_eq_getElem?_getD, b]; rfl
  by_cases d : j < i
  ·have := X j d; rw [D] at this; omega
  ·by_cases F : j = i
   ·subst F; exact ⟨c, by rw [D]; exact T⟩
   ·have R := t.at i j U c;rw [D, (CL _ _).1 T] at R;exact absurd R (W i (Nat.le_refl _) U)
 ·rintro ⟨R, w⟩;exact ⟨l.getD i Ae, by rw [List.getD_eq_getElem?_getD, List.getElem?_eq_getElem R]; exact List.getElem_mem R, by rw [decide_eq_true_eq]; exact w⟩
theorem bs_ok (w : World) (a : Option Addr) (cap : Nat) (l : LF) (y : Fml) (d : LV) (ok a2 : Nat → Prop) (hl : SlAt fmlR ok w (.slice a l.length cap) l) (hy : FAt a2 w (.agg d.toArray) y) (hu : ∀ b, ok b → Unm w b) (hz : ∀ x ∈ l, szF x ≤ 1000000) (t : Inc l) (hn : l.length ≤ 1000000) :
  Fn Zp 183 [.slice a l.length cap, .agg d.toArray, cmpV] w fun u w' => ∃ i : Int, u = .tuple #[iV i, .bool (l.any fun z => decide (BO z y = 0))] ∧ Ext w w' := by
 obtain ⟨F, H, C, I, D, rfl⟩ := hy.v5;have a4 : ∀ V, Ext w V → ∀ b, (ok b ∧ b < w.heap.size) → Unm V b := fun V e b hb => (hu b hb.1).eq (e.block b hb.2 O);have a3 := hl.lt D9;refine AG Tryz.func183 rfl Tryz.ntmps183 (go ?_);refine Aj (L := [F, H, C, I, D]) rfl (fun w1 n1 => go ?_);have b1 := n1.D;have k1 := n1.E;refine go ?_;refine Ah (α := Nat × Nat) (fun | (i, j) => [(0, .slice a l.length cap), (2, cmpV), (4, pt w.heap.size), (8, .int .i64 (l.length : Int)), (9, .int .i64 (i : Int)), (10, .int .i64 (j : Int))]) (fun x W => x.1 ≤ x.2 ∧ x.2 ≤ l.length ∧ Ext w1 W ∧ (∀ p, p < x.1 → BO (l.getD p Ae) y < 0) ∧ (∀ p, x.2 ≤ p → p < l.length → ¬ BO (l.getD p Ae) y < 0)) (fun x => x.2 - x.1) (0, l.length) ⟨rfl, rfl, rfl, rfl, rfl, rfl, trivial⟩ ⟨by simp, by simp, Ext.refl _, fun p v => absurd v O, fun p v a6 => absurd a6 (by simp only at v; omega)⟩ ?_;rintro ⟨i, j⟩ W fr ⟨a5, P, E, Z, S⟩;simp only at a5 P Z S;have T := k1.trans E;refine go ?_;by_cases a8 : i < j
 ·refine go ?_;refine W_conv rfl (inR_u64 U U) ?_;refine W_shrU (m := i + j) (n := 1) rfl rfl U ?_;obtain ⟨h, hh⟩ : ∃ h, h = (i + j) / 2 ^ 1 := ⟨_, rfl⟩;rw [← hh];refine go ?_;obtain ⟨b, o, g, f, q, r, A, rfl, Q, X⟩ := (a3.ext T).c5 (k := h) U;refine AW (rd 0 6 (.alt 6 (.read 7 .done) .stop)) Al Dk (fun K N ed => ⟨Ext K, ?_, ?_⟩)
  ·exact EZ
  have c := T.trans N;have s1 : ∀ V, Ext K V → Cells V b (o + h * 5) [g, f, q, r, A] := fun V e => Q.E (N.trans e) O;have s2 : ∀ V, Ext K V → Cells V w.heap.size 0 [F, H, C, I, D] := fun V e => (b1.E ((E.trans N).trans e) O).cells;(refine D_R rfl rfl (fun W B => M_func rfl Z3) (D_R rfl rfl (fun W B => Az rfl Z3) (D_R rfl rfl (fun W B => Af rfl Z3) (D_R rfl rfl (fun W B => C5 rfl rfl rfl U Z3) ?_))) <;> (apply D_R rfl rfl; (intro W B; refine AR rfl Dn (s1 W B) ?_; exact Z3)) <;> (apply D_R rfl rfl; (intro W B; refine AR rfl Dn (s2 W B) ?_; exact Z3)))
  refine D_E rfl ?_;have a0 : l.getD h Ae ∈ l := by rw [List.getD_eq_getElem?_getD, List.getElem?_eq_getElem (by omega : h < l.length)]; exact List.getElem_mem (by omega : h < l.length)
  refine Av (v1 := []) (v2 := []) (vs := [.agg [g, f, q, r, A].toArray, .agg [F, H, C, I, D].toArray]) rfl (fcompare_ok K _ _ _ y _ a2 (X.ext N) (hy.ext c) (.inl (a4 K c)) (hz _ a0)) rfl ?_;rintro _ w4 ⟨rfl, R⟩;refine AH ⟨Ext K, fun _ e => e, R, ?_⟩;have k5 := (E.trans N).trans R;by_cases G : BO (l.getD h Ae) y < 0
  ·refine go ?_;refine ⟨(h + 1, j), ⟨rfl, ⟨rfl, rfl, rfl, rfl, ?_, rfl, trivial⟩, ⟨by simp only; omega, P, k5, fun p v => ?_, S⟩⟩, by simp only; omega⟩
   ·show iV ((h : Int) + 1) = _;rw [Int.natCast_add]; rfl
   ·simp only at v;by_cases a1 : p = h
    ·subst a1; exact G
    ·have M := t.at p h U U;exact DG _ _ _ M G
  ·refine go ?_;refine ⟨(i, h), ⟨rfl, ⟨rfl, rfl, rfl, rfl, rfl, rfl, trivial⟩, ⟨by simp only; omega, by simp only; omega, k5, Z, fun p v a7 => ?_⟩⟩, by simp only; omega⟩;simp only at v;by_cases a1 : p = h
   ·subst a1; exact G
   ·have M := t.at h p U a7;intro h4;exact G (DG _ _ _ M h4)
 ·refine go ?_;obtain rfl : i = j := by omega
  rw [bs_found t P Z S];by_cases s : i < l.length
  ·rw [decide_eq_true s, Bool.true_and];obtain ⟨b, o, g, f, q, r, A, rfl, Q, X⟩ := (a3.ext T).c5 (k := i) U;refine AW (rd 0 11 (.alt 11 (rd 12 4 .done) .stop)) Al Dk (fun K N ed => ⟨Ext K, ?_, ?_⟩)
   ·exact EZ
   have c := T.trans N;have s1 : ∀ V, Ext K V → Cells V b (o + i * 5) [g, f, q, r, A] := fun V e => Q.E (N.trans e) O;have s2 : ∀ V, Ext K V → Cells V w.heap.size 0 [F, H, C, I, D] := fun V e => (b1.E ((E.trans N).trans e) O).cells;(refine D_R rfl rfl (fun W B => Af rfl Z3) (D_R rfl rfl (fun W B => Af rfl Z3) (D_R rfl rfl (fun W B => Af rfl Z3) (D_lssT rfl rfl rfl rfl U (D_R rfl rfl (fun W B => AP rfl Z3) (D_R rfl rfl (fun W B => AS rfl (M_func rfl Z3)) (D_R rfl rfl (fun W B => AS rfl (Az rfl Z3)) (D_R rfl rfl (fun W B => AS rfl (Af rfl Z3)) (D_R rfl rfl (fun W B => AS rfl (C5 rfl rfl rfl U Z3)) ?_)))))))) <;> (apply D_R rfl rfl; (intro W B; (refine AS rfl ?_; refine AR rfl Dn (s1 W B) ?_); exact Z3)) <;> (apply D_R rfl rfl; (intro W B; (refine AS rfl ?_; refine AR rfl Dn (s2 W B) ?_); exact Z3)))
   refine D_E rfl ?_;have a0 : l.getD i Ae ∈ l := by rw [List.getD_eq_getElem?_getD, List.getElem?_eq_getElem s]; exact List.getElem_mem s
   refine go ?_;refine Av (v1 := []) (v2 := []) (vs := [.agg [g, f, q, r, A].toArray, .agg [F, H, C, I, D].toArray]) rfl (fcompare_ok K _ _ _ y _ a2 (X.ext N) (hy.ext c) (.inl (a4 K c)) (hz _ a0)) rfl ?_;rintro _ w4 ⟨rfl, R⟩;refine AH ⟨Ext K, fun _ e => e, R, ?_⟩;by_cases G : BO (l.getD i Ae) y = 0
   ·rw [decide_eq_true G];refine go ?_;exact Cv rfl ⟨_, rfl, c.trans R⟩
   ·rw [decide_eq_false G];refine go ?_;exact Cv rfl ⟨_, rfl, c.trans R⟩
  ·rw [decide_eq_false s, Bool.false_and];refine AW (rd 0 11 (.alt 11 (rd 12 4 .done) .stop)) Al Dk (fun K N ed => ⟨Ext K, ?_, ?_⟩)
   ·exact EZ
   refine D_R rfl rfl (fun W B => Af rfl Z3) (D_R rfl rfl (fun W B => Af rfl Z3) (D_R rfl rfl (fun W B => Af rfl Z3) (D_lssF rfl rfl rfl rfl U (D_R rfl rfl (fun W B => AP rfl Z3) (BI rfl rfl rfl rfl (BI rfl rfl rfl rfl (BI rfl rfl rfl rfl (BI rfl rfl rfl rfl (BI rfl rfl rfl rfl (BI rfl rfl rfl rfl ?_))))))))));refine D_E rfl ?_;refine Ax rfl ?_;refine AH ⟨Ext K, fun _ e => e, Ext.refl _, ?_⟩;refine go ?_;exact Cv rfl ⟨_, rfl, T.trans N⟩
abbrev negV : Value := .func (.func 136) #[] #[]
theorem opposed_ok (w : World) (a : Option Addr) (cap : Nat) (l : LF) (ok : Nat → Prop) (M : SlAt fmlR ok w (.slice a l.length cap) l) (hu : ∀ b, ok b → Unm w b) (n : ∀ x ∈ l, szF x ≤ 1000000) (t : Inc l) (G : l.length ≤ 1000000) (R : ∀ x ∈ l, x.op = 4 → 0 < x.args.length) :
  Fn Zp 135 [.slice a l.length cap, cmpV, negV] w fun u w' => u = .bool (oppB l) ∧ Ext w w' := by
 have C := M.lt D9;have a2 : ∀ V, Ext w V → ∀ b, (ok b ∧ b < w.heap.size) → Unm V b := fun V e b S => (hu b S.1).eq (e.block b S.2 O);refine AG Tryz.func135 rfl Tryz.ntmps135 (go ?_);refine Ah (α := Nat) (fun k => [(0, .slice a l.length cap), (1, cmpV), (2, negV), (13, .slice a l.length cap), (14, iV (l.length : Int)), (15, iV (k : Int))]) (fun k W => k ≤ l.length ∧ Ext w W ∧ ∀ (i : Nat) (x : Fml), i < k → l[i]? = some x → (decide (x.op = 4) && l.any fun y => decide (BO y (x.args.getD 0 Ae) = 0)) = false) (fun k => l.length - k) 0 ⟨rfl, rfl, rfl, rfl, rfl, rfl, trivial⟩ ⟨by omega, Ext.refl _, fun i x F => by omega⟩ ?_;rintro k W fr ⟨hk, T, B⟩;refine go ?_;by_cases D : k < l.length
 ·refine go ?_;obtain ⟨b, o, g, m, v, j, A, rfl, Z, X⟩ := (C.ext T).c5 D;have c : l[k]? = some (l.getD k Ae) := by rw [List.getD_eq_getElem?_getD, List.getElem?_eq_getElem D]; rfl
  obtain ⟨x, a3⟩ : ∃ x, x = l.getD k Ae := ⟨_, rfl⟩;rw [← a3] at c X;have a1 := List.mem_of_getElem? c;refine go ?_;refine AR (L := [g, m, v, j, A]) rfl rfl Z ?_;refine AQ (L := zero5) (fun w4 K => ?_);refine AE (cs := [g, m, v, j, A]) rfl rfl rfl X.one K.D Dp (fun Q p5 => go ?_);have I : Ext W Q := K.E.E p5.E O;refine go ?_;refine Av (v1 := []) (v2 := []) (vs := [.agg [g, m, v, j, A].toArray]) rfl (negated_ok Q _ x _ (X.ext I) (R x a1)) rfl ?_;rintro _ w6 ⟨d, rfl, k6, H⟩;obtain ⟨y0, y1, y2, y3, y4, rfl⟩ := H.v5;refine go ?_;refine AQ (L := zero5) (fun w7 P => ?_);refine AE (cs := [y0, y1, y2, y3, y4]) rfl rfl rfl H.one P.D Dp (fun s p8 => ?_);have h : Ext w6 s := P.E.E p8.E O;have q : Ext w s := ((T.trans I).trans k6).trans h
  have E : ∀ (V : World), Ext w V → ∀ (r : (decide (x.op = 4) && l.any fun y => decide (BO y (x.args.getD 0 Ae) = 0)) = false), k + 1 ≤ l.length ∧ Ext w V ∧ ∀ (i : Nat) (z : Fml), i < k + 1 → l[i]? = some z → (decide (z.op = 4) && l.any fun y => decide (BO y (z.args.getD 0 Ae) = 0)) = false := fun V e r => ⟨by omega, e, fun i z F n => by
   by_cases a0 : i = k
   ·subst a0; rw [c] at n; cases n; exact r
   ·exact B i z U n⟩
  by_cases f : x.op = 4
  ·rw [decide_eq_true f];rw [if_pos f] at H;refine go ?_;refine AC (bs_ok s _ cap l _ _ _ _ (C.ext q) (H.ext h) (a2 s q) n t G) rfl ?_;rintro _ w9 ⟨i, rfl, N⟩;cases hr : l.any fun z => decide (BO z (x.args.getD 0 Ae) = 0) with
   | true =>
    refine go ?_;refine AA rfl ⟨?_, q.trans N⟩
    have : oppB l = true := by
     unfold oppB;exact any_stop (p := fun x => decide (x.op = 4) && l.any fun y => decide (BO y (x.args.getD 0 Ae) = 0)) c (by rw [decide_eq_true f]; exact hr)
    rw [this]; rfl
   | false =>
    refine go ?_;refine ⟨k + 1, ⟨rfl, ⟨rfl, rfl, rfl, rfl, rfl, ?_, trivial⟩, E _ (q.trans N) (by rw [hr, Bool.and_false])⟩, by omega⟩;show iV ((k : Int) + 1) = _;rw [Int.natCast_add]; rfl
  ·rw [decide_eq_false f];refine go ?_;refine ⟨k + 1, ⟨rfl, ⟨rfl, rfl, rfl, rfl, rfl, ?_, trivial⟩, E _ q (by rw [decide_eq_false f, Bool.false_and])⟩, by omega⟩;show iV ((k : Int) + 1) = _;rw [Int.natCast_add]; rfl
 ·refine go ?_;refine AA rfl ⟨?_, T⟩
  have : oppB l = false := by
   unfold oppB;exact any_done (p := fun x => decide (x.op = 4) && l.any fun y => decide (BO y (x.args.getD 0 Ae) = 0)) fun i x F c => B i x U c
  rw [this]; rfl
theorem clip_ok (w : World) (a : Option Addr) (n c : Nat) (h : n ≤ c) : Fn Zp 137 [.slice a n c] w fun u w' => u = .slice a n n ∧ w' = w := by
 refine AG Tryz.func137 rfl Tryz.ntmps137 (go ?_);refine W_slice_hm (h := n) (m := n) rfl rfl rfl (Nat.le_refl _) h (go ?_);exact AA rfl ⟨rfl, rfl⟩
theorem own_sl {w : World} {B : Nat} {v : Value} {l : LF} {L : List (LV)} {ok : Nat → Prop} (f : w.ownsRow B 36 5 v l.length L.flatten) (d : FsAt ok w L l) (r : ∀ b, ok b → Unm w b) :
  ∃ a c, v = .slice a l.length c ∧ l.length ≤ c ∧ SlAt fmlR (Unm w) w (.slice a l.length c) l ∧ Sl (fun b => B ≤ b ∧ Unm w b) w (.slice a l.length l.length) l.length L.flatten := by
 have G := d.mono r;have k : RsAt fmlR (Unm w) w L l := ⟨d.1, fun i c x T V => ⟨d.2.1 c (List.mem_of_getElem? T), G.2.2 i c x T V⟩⟩;rcases f.2 with ⟨rfl, s⟩ | ⟨g, u, o, rfl, q, z, p, t, A, S⟩
 ·obtain rfl : l = [] := List.eq_nil_of_length_eq_zero s;exact ⟨none, 0, rfl, Nat.le_refl _, ⟨none, 0, L, rfl, AV (ok := Unm w) f (fun g z => by cases z), k⟩, ⟨none, 0, rfl, by simp, by simp, fun _ => rfl, .inl rfl⟩⟩
 ·have K : Unm w g := Unm.cells z;have h := AV (ok := fun b => B ≤ b ∧ Unm w b) f (fun m j => by cases j; exact ⟨q, K⟩);refine ⟨_, _, rfl, p, ⟨_, _, L, rfl, AV (ok := Unm w) f (fun m j => by cases j; exact K), k⟩, ?_⟩;obtain ⟨a, c, e, X, W, R, n⟩ := h;cases e;exact ⟨_, _, rfl, Nat.le_refl _, by unfold maxLen at t; omega, (fun e => by cases e), n⟩
theorem flat_snoc (N : Int) {l : LF} {k : Nat} {x : Fml} (h : l[k]? = some x) : (l.take (k + 1)).flatMap (Fl N) = (l.take k).flatMap (Fl N) ++ Fl N x := by
 rw [List.take_add_one, h]; simp
theorem zAny_snoc (N : Int) {l : LF} {k : Nat} {x : Fml} (h : l[k]? = some x) : zAny N (l.take (k + 1)) = (zAny N (l.take k) || decide (x.op = CV N)) := by
 rw [List.take_add_one, h]; simp [zAny]
theorem flat_take_le (N : Int) (l : LF) (k : Nat) : ((l.take k).flatMap (Fl N)).length ≤ szL l :=
 Nat.le_trans (Bv _) (Nat.le_trans (sz_flat N _) (szL_take_le l k))
theorem FsAt.app {ok : Nat → Prop} {w : World} : ∀ {L M : List (LV)} {l m : LF}, FsAt ok w L l → FsAt ok w M m → FsAt ok w (L ++ M) (l ++ m)
 | [], _, [], _, _, h => h
 | [], _, _ :: _, _, h, _ => by have := h.1; simp at this
 | _ :: _, _, [], _, h, _ => by have := h.1; simp at this
 | c :: L, M, x :: l, m, h, h' => FsAt.cons (h.2.2 0 c x rfl rfl) (h.2.1 c O) (FsAt.app ⟨by have := h.1; simpa using this, fun d C => h.2.1 d (by simp [C]), fun i d g C z => h.2.2 (i + 1) d g (by simpa using C) EC⟩ h')
theorem FsAt.oneC {ok : Nat → Prop} {w : World} {L : List (LV)} {l : LF} (h : FsAt ok w L l) : oneC L.flatten := by
 intro u r;obtain ⟨c, T, I⟩ := List.mem_flatten.1 r;obtain ⟨i, F⟩ := List.getElem?_of_mem T;have n : i < l.length := by rw [← h.1]; exact (List.getElem?_eq_some_iff.1 F).1
 exact (h.2.2 i c _ F (List.getElem?_eq_getElem n)).one u I
theorem join_ok (w : World) (N : Int) (a6 : N = 5 ∨ N = 6) (a : Option Addr) (cap : Nat) (l : LF) (ok : Nat → Prop) (hl : SlAt fmlR ok w (.slice a l.length cap) l) (hu : ∀ b, ok b → Unm w b) (hz : szL l ≤ 100000) (hsh : ∀ x ∈ l, Sh x) :
  Fn Zp 87 [iV N, .slice a l.length cap] w fun u w' => Ext w w' ∧ FAt (fun b => ok b ∨ (w.heap.size ≤ b ∧ Unm w' b)) w' u (Di N l) := by
 have d2 := hl.lt D9;have d6 : l.length ≤ 100000 := Nat.le_trans (Bv l) hz;obtain ⟨d8, d9, e0, e1, ho5⟩ := uz_ne a6;refine AG Tryz.func87 rfl Tryz.ntmps87 ?_;repeat refine nx rfl ?_
 (refine AJ ?_; refine AQ (L := zero5) (fun w1 n1 => ?_))
 repeat refine nx rfl ?_
 have z1 := n1.size;have b4 := n1.D;have k1 := n1.E;refine AJ (Ac (Af rfl (Ac (Af rfl ?_))));repeat refine nx rfl ?_
 refine AJ (Af rfl ?_);refine W_eqlD rfl rfl ?_;refine AH ?_;refine Q_then ?_;refine C_mid (α := Unit) (fun _ => [(0, iV N), (1, .slice a l.length cap), (4, pt w.heap.size), (5, iV (Ct N)), (6, iV (CV N))]) (fun _ W => W = w1) ?_ ?_
 ·rcases a6 with rfl | rfl
  ·refine go ?_;exact Aw () ⟨rfl, rfl, rfl, rfl, rfl, trivial⟩ rfl
  ·refine go ?_;exact Aw () ⟨rfl, rfl, rfl, rfl, rfl, trivial⟩ rfl
 rintro _ W f3 rfl;refine go ?_
 refine Ah (α := Nat × Value × List (LV)) (fun | (k, v, _) => [(0, .int .i64 N), (4, pt w.heap.size), (5, .int .i64 (Ct N)), (6, .int .i64 (CV N)), (7, v), (14, .slice a l.length cap), (15, .int .i64 (l.length : Int)), (16, .int .i64 (k : Int))])
  (fun y V => y.1 ≤ l.length ∧ Ext w V ∧ Blk V w.heap.size 36 zero5 ∧ V.ownsRow W.heap.size 36 5 y.2.1 ((l.take y.1).flatMap (Fl N)).length y.2.2.flatten ∧ zAny N (l.take y.1) = false ∧ FsAt (fun b => ok b ∧ b < w.heap.size) V y.2.2 ((l.take y.1).flatMap (Fl N)) ∧ W.heap.size ≤ V.heap.size) (fun y => l.length - y.1) (0, .slice none 0 0, []) ⟨rfl, rfl, rfl, rfl, rfl, rfl, rfl, rfl, trivial⟩ ⟨by simp, k1, b4, ⟨rfl, .inl ⟨rfl, rfl⟩⟩, rfl, FsAt.nil _ _, Nat.le_refl _⟩ ?_
 rintro ⟨k, v, L⟩ V fr ⟨hk, G, bV, H, a7, fV, zV⟩;simp only at hk bV H a7 fV;refine go ?_;by_cases hlt : k < l.length
 ·refine go ?_;obtain ⟨b, o, M, P, Q, j, i, rfl, z, X⟩ := (d2.ext G).c5 hlt;have m : l[k]? = some (l.getD k Ae) := by rw [List.getD_eq_getElem?_getD, List.getElem?_eq_getElem hlt]; rfl
  obtain ⟨x, d3⟩ : ∃ x, x = l.getD k Ae := ⟨_, rfl⟩;rw [← d3] at m X;have d7 := List.mem_of_getElem? m;have F := flat_snoc N m;have a8 := zAny_snoc N m;rw [a7, Bool.false_or] at a8;have b1 := flat_take_le N l (k + 1);refine go ?_;refine AR (L := [M, P, Q, j, i]) rfl rfl z ?_;refine AQ (L := zero5) (fun w4 n4 => ?_);refine AE (cs := [M, P, Q, j, i]) rfl rfl rfl X.one n4.D Dp (fun w5 p5 => go ?_);have C : Ext V w5 := n4.E.E p5.E O;have b3 := X.ext C;obtain ⟨av, e, La, hS, c6, c4, hA⟩ := b3.form;simp only [Value.agg.injEq, List.toArray_eq_iff, List.cons.injEq, and_true] at e;obtain ⟨rfl, rfl, rfl, rfl, rfl⟩ := e;have b8 : Blk w5 V.heap.size 36 [iV x.op, AI x.name, iV x.val, iV x.bound, i] := p5.D;have o5 := Aa H C;have f5 := fV.ext C;have e5 := G.trans C;have a3 := bV.E C O;have z5 := C.size;have q : ∀ g, v.ownBlock = some g → W.heap.size ≤ g := fun g hg => (Ab H hg).1;have b9 : ∀ (b : Nat), ok b ∧ b < w.heap.size → b ∉ v.ownBlock.toList := fun b S m => by have := q b (Option.mem_toList.1 m); omega
  refine go ?_;by_cases a9 : x.op = N
  ·refine go ?_;have Z : Fl N x = x.args := by unfold Fl; rw [if_pos a9]
   rw [Z] at F;have a1 : zAny N (l.take (k + 1)) = false := by rw [a8, decide_eq_false]; omega
   have d0 : ((l.take k).flatMap (Fl N)).length + x.args.length ≤ 100000 := by rw [F, List.length_append] at b1; omega
   have fA : FsAt (fun b => ok b ∧ b < w.heap.size) w5 La x.args := ⟨c6, c4, hA⟩;refine go ?_;refine Ak (v := v) (sv := i) rfl rfl o5 hS U rfl fA.flat fA.oneC U U U (fun v7 I s => ?_);have e7 : Ext w I := e5.E s.E (fun y K => by have := q y (Option.mem_toList.1 K); omega);have R := (f5.app fA).E s.E b9;have b7 := a3.E s.E (fun m => by have := q _ (Option.mem_toList.1 m); omega);have o7 : I.ownsRow W.heap.size 36 5 v7 ((l.take (k + 1)).flatMap (Fl N)).length (L ++ La).flatten := by rw [F, List.length_append, List.flatten_append]; exact s.own
   rw [← F] at R;refine go ?_;refine ⟨(k + 1, v7, L ++ La), ⟨rfl, ⟨rfl, rfl, rfl, rfl, rfl, rfl, rfl, ?_, trivial⟩, ⟨by simp only; omega, e7, b7, o7, a1, R, Nat.le_trans (Nat.le_trans zV z5) s.E.size⟩⟩, by simp only; omega⟩;show iV ((k : Int) + 1) = _;rw [Int.natCast_add]; rfl
  ·by_cases b0 : x.op = CV N
   ·refine go ?_;refine AE (cs := [iV (CV N), AI [], iV 0, iV 0, .slice none 0 0]) rfl rfl rfl (AU rfl) a3 Dp (fun d p => go ?_)
    have d4 : zAny N l = true := by
     unfold zAny;exact any_stop m (by rw [decide_eq_true_eq]; exact b0)
    rw [joinM_eq a6, d4, if_pos rfl];exact AT rfl rfl rfl p.D.cells ⟨e5.E p.E O, FAt.leaf _ _ (CV N) [] 0 0⟩
   ·by_cases b5 : x.op = Ct N
    ·refine go ?_;have Z : Fl N x = [] := by unfold Fl; rw [if_neg a9, if_pos b5]
     rw [Z, List.append_nil] at F;have a1 : zAny N (l.take (k + 1)) = false := by rw [a8, decide_eq_false b0]
     rw [← F] at f5 o5;refine go ?_;refine ⟨(k + 1, v, L), ⟨rfl, ⟨rfl, rfl, rfl, rfl, rfl, rfl, rfl, ?_, trivial⟩, ⟨by simp only; omega, e5, a3, o5, a1, f5, Nat.le_trans zV z5⟩⟩, by simp only; omega⟩;show iV ((k : Int) + 1) = _;rw [Int.natCast_add]; rfl
    ·refine go ?_;have Z : Fl N x = [x] := by unfold Fl; rw [if_neg a9, if_neg b5]
     rw [Z] at F;have a1 : zAny N (l.take (k + 1)) = false := by rw [a8, decide_eq_false b0]
     have d0 : ((l.take k).flatMap (Fl N)).length + 1 ≤ 100000 := by rw [F, List.length_append] at b1; simp only [List.length_singleton] at b1; omega
     refine go ?_;refine AL (out := [iV x.op, AI x.name, iV x.val, iV x.bound, i]) rfl U Dr (fun w6 E => ?_);have o6 := E.own (n := 1) (size := 5) rfl Dq (Nat.le_refl _);have z6 := E.size;refine Ak (ok := AZ) (v := v) (sv := .slice (sm w5.heap.size) 1 1) rfl rfl (Aa o5 E.E) (AV o6 fun _ _ => trivial) U rfl rfl b3.one U U U (fun v7 I s => ?_);have e7 : Ext w I := (e5.trans E.E).E s.E (fun y K => by have := q y (Option.mem_toList.1 K); omega);have R := ((f5.snoc b3 rfl).ext E.E).E s.E b9;have b7 := (a3.E E.E O).E s.E (fun m => by have := q _ (Option.mem_toList.1 m); omega)
     have o7 : I.ownsRow W.heap.size 36 5 v7 ((l.take (k + 1)).flatMap (Fl N)).length (L ++ [[iV x.op, AI x.name, iV x.val, iV x.bound, i]]).flatten := by
      rw [F, List.length_append, List.flatten_append]; simpa using s.own
     rw [← F] at R;have z7 : W.heap.size ≤ I.heap.size := by have := s.E.size; omega
     refine go ?_;refine ⟨(k + 1, v7, L ++ [[iV x.op, AI x.name, iV x.val, iV x.bound, i]]), ⟨rfl, ⟨rfl, rfl, rfl, rfl, rfl, rfl, rfl, ?_, trivial⟩, ⟨by simp only; omega, e7, b7, o7, a1, R, z7⟩⟩, by simp only; omega⟩;show iV ((k : Int) + 1) = _;rw [Int.natCast_add]; rfl
 ·refine go ?_;obtain rfl : k = l.length := by omega
  rw [List.take_of_length_le (Nat.le_refl _)] at H a7 fV;have q : ∀ g, v.ownBlock = some g → W.heap.size ≤ g := fun g hg => (Ab H hg).1;have b6 : szL (l.flatMap (Fl N)) ≤ 100000 := Nat.le_trans (sz_flat N l) hz
  have b2 : ∀ x ∈ l.flatMap (Fl N), szF x ≤ 1000000 ∧ (x.op = 4 → 0 < x.args.length) := fun x m => by
   refine ⟨by have := Bq m; omega, fun h4 => ?_⟩;obtain ⟨c, z, B⟩ := List.mem_flatMap.1 m
   have hs : Sh x := by
    unfold Fl at B
    split at B
    ·exact (sh_eq (hsh c z)).2.2 x B
    ·split at B
     ·cases B
     ·rw [List.mem_singleton.1 B]; exact hsh c z
   have := (sh_eq hs).2.1.2.1;rw [h4] at this;have : x.args.length = 1 := by simpa [Ar] using this
   omega
  have d5 : (l.flatMap (Fl N)).length ≤ 100000 := Nat.le_trans (Bv _) b6;have a5 : (dist (l.flatMap (Fl N))).length ≤ 100000 := Nat.le_trans (Bv _) (Nat.le_trans (sz_dist _) b6);refine go ?_;refine AC (distinct_ok V W.heap.size v _ L _ H fV (fun b S => ⟨(hu b S.1).eq (G.block b S.2 O), by have := G.size; omega, fun e => by have := q b e; omega⟩) (fun x m => (b2 x m).1) U) rfl ?_;rintro u2 t ⟨k2, hu2, L2, o2, T⟩;have e2 : Ext w t := G.E k2 (fun y K => by have := q y (Option.mem_toList.1 K); omega);have c0 := bV.E k2 (fun m => by have := q _ (Option.mem_toList.1 m); omega);obtain ⟨a2, c2, rfl, a0, r, f⟩ := own_sl o2 T (fun b S => (hu b S.1).eq (e2.block b S.2 O));have hin := inc_dist (l.flatMap (Fl N));have a4 : ∀ x ∈ dist (l.flatMap (Fl N)), szF x ≤ 1000000 ∧ (x.op = 4 → 0 < x.args.length) := fun x m => b2 x (mem_dist.1 m);rw [joinM_eq a6, a7, if_neg Bool.false_ne_true];clear o2 b2;generalize dist (l.flatMap (Fl N)) = D at a5 r f T hin a4 a0 ⊢;refine go ?_;refine AC (opposed_ok t a2 c2 D (Unm t) r (fun b h => h) (fun x m => (a4 x m).1) hin U fun x m => (a4 x m).2) rfl ?_;rintro _ w3 ⟨rfl, k3⟩;have e3 := e2.trans k3;have b43 := c0.E k3 O;have c8 : ∀ d, Keep [w.heap.size] t d → ∀ b, (W.heap.size ≤ b ∧ Unm t b) ∧ b < t.heap.size → ok b ∨ (w.heap.size ≤ b ∧ Unm d b) := fun d k9 b S => .inr ⟨by omega, S.1.2.eq (k9.block b S.2 Dl)⟩;unfold joinD;cases hob : oppB D with
  | true =>
   rw [if_pos rfl];refine go ?_;refine AE (cs := [iV (CV N), AI [], iV 0, iV 0, .slice none 0 0]) rfl rfl rfl (AU rfl) b43 Dp (fun d p => go ?_);exact AT rfl rfl rfl p.D.cells ⟨e3.E p.E O, FAt.leaf _ _ (CV N) [] 0 0⟩
  | false =>
   rw [if_neg Bool.false_ne_true];refine Ac (AP rfl ?_);repeat first | refine nx rfl ?_ | refine nf rfl ?_
   match D, a5, r, f, T, hin, a4, a0 with
   | [], _, _, _, _, _, _, _ =>
    refine AJ (Az rfl (CD rfl ?_));refine W_eqlD rfl rfl ?_;refine Ac (AP rfl ?_);repeat refine nx rfl ?_
    refine AJ (Af rfl (Bo Dn Dn ?_));refine AE (cs := [iV (Ct N), AI [], iV 0, iV 0, .slice none 0 0]) rfl rfl rfl (AU rfl) b43 Dp (fun d p => ?_);repeat refine nx rfl ?_
    exact AT rfl rfl rfl p.D.cells ⟨e3.E p.E O, FAt.leaf _ _ (Ct N) [] 0 0⟩
   | [x], _, r, f, T, _, _, _ =>
    obtain ⟨M, P, Q, j, i, c3, _, X⟩ := T.at (k := 0) O;obtain ⟨b, o, rfl, S, z⟩ := Sl.fml f T.2.1 c3 O;have c9 : Cells w3 b (o + 0 * 5) [M, P, Q, j, i] := z.E k3 O;refine AJ (Az rfl (CD rfl ?_));refine W_eqlD rfl rfl ?_;refine Ac (AP rfl ?_);repeat first | refine nx rfl ?_ | refine nf rfl ?_
    refine AJ (Az rfl (CD rfl ?_));refine W_eqlD rfl rfl ?_;refine Ac (AP rfl ?_);repeat refine nx rfl ?_
    refine AJ (Az rfl ?_);refine C5 (k := 0) rfl rfl rfl O ?_;refine AR (L := [M, P, Q, j, i]) rfl rfl c9 ?_;refine AE (cs := [M, P, Q, j, i]) rfl rfl rfl X.one b43 Dp (fun d p => ?_);repeat refine nx rfl ?_
    exact AT rfl rfl rfl p.D.cells ⟨e3.E p.E O, ((X.ext k3).E p.E (fun y K A => by have := K.2; simp at A; omega)).mono fun y K => .inl K.1⟩
   | x :: y :: D', a5, r, f, T, _, _, a0 =>
    have d1 : (x :: y :: D').length = D'.length + 2 := rfl;generalize c1 : x :: y :: D' = D2 at a5 r f T a0 d1 ⊢;refine go ?_;refine AC (clip_ok w3 a2 D2.length c2 a0) rfl ?_;rintro _ _ ⟨rfl, rfl⟩;refine go ?_;refine AE (cs := [iV N, AI [], iV 0, iV 0, .slice a2 D2.length D2.length]) rfl rfl rfl (AU rfl) b43 Dp (fun d p => go ?_);have k9 : Keep [w.heap.size] t d := k3.any.trans p.E (fun _ h _ => h)
    have c7 : Sl (fun b => ok b ∨ (w.heap.size ≤ b ∧ Unm d b)) d (.slice a2 D2.length D2.length) D2.length L2.flatten := by
     have h1 := (f.lt (flatten_ne T.1 T.2.1)).E k9 (fun b S A => by simp at A; omega);exact h1.mono (c8 d k9)
    have hF9 : FsAt (fun b => ok b ∨ (w.heap.size ≤ b ∧ Unm d b)) d L2 D2 := (T.E k9 (fun b S A => by have := S.2; simp at A; omega)).mono fun b S => .inl S.1;subst c1;exact AT rfl rfl rfl p.D.cells ⟨e3.E p.E O, FAt.node N [] 0 0 c7 hF9⟩
section
variable {mk : Prop} [MK mk]
structure Fil (B : Nat) (W : World) (g n : Nat) (l : LF) (L : List (LV)) (Z : LV) : Prop where
 D : Blk W g 36 (L.flatten ++ Z)
 zl : Z.length = (n - l.length) * 5
 ln : l.length ≤ n
 fs : FsAt (fun b => B ≤ b ∧ b ≠ g) W L l
 gB : B ≤ g
section
variable {B g n : Nat} {W W' : World} {l : LF} {L : List (LV)} {Z : LV}
theorem Fil.start {w w' : World} {z : Array Value} (h : New w w' 36 (madeCells z (n * 5)).toList) (q : B ≤ w.heap.size) : Fil B w' w.heap.size n [] [] (madeCells z (n * 5)).toList :=
 ⟨h.D, by simp [madeCells], by simp, FsAt.nil _ _, q⟩
theorem Fil.ext (h : Fil B W g n l L Z) (k : Ext W W') : Fil B W' g n l L Z := ⟨h.D.E k O, h.zl, h.ln, h.fs.ext k, h.gB⟩
theorem Fil.room (h : Fil B W g n l L Z) (G : l.length < n) : l.length * 5 + 5 ≤ (L.flatten ++ Z).length := by
 rw [List.length_append, h.fs.flat, h.zl];omega
theorem Fil.push {T : TypeId} {cs : LV} {x : Fml} (h : Fil B W g n l L Z) (I : FAt (fun b => B ≤ b ∧ b ≠ g) W (.agg cs.toArray) x) (A : cs.length = 5) (G : l.length < n) (p : Put W W' g T (splice (L.flatten ++ Z) (l.length * 5) cs)) (C : T = 36) :
  Fil B W' g n (l ++ [x]) (L ++ [cs]) (Z.drop 5) := by
 subst C;have H := h.fs.flat
 have e : splice (L.flatten ++ Z) (l.length * 5) cs = (L ++ [cs]).flatten ++ Z.drop 5 := by
  unfold splice;rw [← H, List.take_left, A, List.drop_append];simp
 have S := p.D;rw [e] at S;refine ⟨S, by rw [List.length_drop, h.zl, List.length_append]; simp only [List.length_singleton]; omega, by rw [List.length_append]; simp only [List.length_singleton]; omega, ?_, h.gB⟩;exact (h.fs.snoc I A).E p.E fun b S V => by simp at V; exact S.2 V
theorem Fil.fin (h : Fil B W g n l L Z) (G : l.length = n) (A : n ≤ 1000000) : SlAt fmlR (fun b => B ≤ b) W (.slice (sm g) n n) l ∧
  ∀ (N : Int) (nm : LU) (v b : Int), FAt (fun b => B ≤ b) W (.agg #[iV N, AI nm, iV v, iV b, .slice (sm g) n n]) ⟨N, nm, v, b, l⟩ := by
 subst G;have j : Z = [] := List.eq_nil_of_length_eq_zero (by rw [h.zl]; simp);have S := h.D;rw [j, List.append_nil] at S;have f : Sl (fun b => B ≤ b) W (.slice (sm g) l.length l.length) l.length L.flatten := ⟨_, _, rfl, Nat.le_refl _, by omega, (fun e => by cases e), .inr ⟨g, 0, rfl, h.gB, S.cells⟩⟩;have d : FsAt (fun b => B ≤ b) W L l := h.fs.mono fun b S => S.1;exact ⟨⟨_, _, L, rfl, f, d.1, fun i c a T H => ⟨d.2.1 c (List.mem_of_getElem? T), d.2.2 i c a T H⟩⟩, fun N nm v b => FAt.node N nm v b f d⟩
end
end
theorem FAt.unm {ok : Nat → Prop} {X : List Nat} {w w' : World} {u : Value} {f : Fml} (h : FAt (fun b => ok b ∧ Unm w b) w u f) (k : Keep X w w') (a : ∀ b, ok b → b ∉ X) : FAt (fun b => ok b ∧ Unm w' b) w' u f :=
 (h.lt.E k fun b S => a b S.1.1).mono fun b S => ⟨S.1.1, S.1.2.eq (k.block b S.2 (a b S.1.1))⟩
theorem FsAt.unm {ok : Nat → Prop} {X : List Nat} {w w' : World} {L : List (LV)} {l : LF} (h : FsAt (fun b => ok b ∧ Unm w b) w L l) (k : Keep X w w') (a : ∀ b, ok b → b ∉ X) : FsAt (fun b => ok b ∧ Unm w' b) w' L l :=
 (h.lt.E k fun b S => a b S.1.1).mono fun b S => ⟨S.1.1, S.1.2.eq (k.block b S.2 (a b S.1.1))⟩
theorem SlAt.unm {ok : Nat → Prop} {X : List Nat} {w w' : World} {v : Value} {l : LF} (h : SlAt fmlR (fun b => ok b ∧ Unm w b) w v l) (k : Keep X w w') (a : ∀ b, ok b → b ∉ X) : SlAt fmlR (fun b => ok b ∧ Unm w' b) w' v l :=
 ((SlAt.lt D9 h).E k fun b S => a b S.1.1).mono fun b S => ⟨S.1.1, S.1.2.eq (k.block b S.2 (a b S.1.1))⟩
def ArgC (w : World) (c : Option Addr) (args : LF) : Prop := ∀ (k : Nat) (a : Fml), args[k]? = some a → ∀ W, Ext w W → ∃ r p, c = some ⟨r, p, none⟩ ∧ Fn Zp 52 [.pointer (some ⟨r, p + k * 5, none⟩)] W fun u Z => Ext W Z ∧ FAt (fun b => W.heap.size ≤ b ∧ Unm Z b) Z u (Ao a)
theorem canons_ok (w : World) (args : LF) (h : Option Addr) (C : Nat) (a0 : args.length ≤ 1000) (F : ArgC w h args) :
  Fn Zp 85 [.slice h args.length C] w fun u w' => Ext w w' ∧ ∃ g, u = .slice (sm g) args.length args.length ∧ SlAt fmlR (fun b => w.heap.size ≤ b ∧ Unm w' b) w' u (args.map Ao) := by
 refine AG Tryz.func85 rfl Tryz.ntmps85 (go ?_);refine W_make (n := args.length) rfl rfl rfl rfl U Dq (fun w2 p => ?_);have D := Fil.start (B := w.heap.size) p (Nat.le_refl _);refine go ?_
 refine Ah (α := Nat × List (LV) × LV) (fun y => [(0, .slice h args.length C), (3, .slice (sm w.heap.size) args.length args.length), (9, iV (args.length : Int)), (10, iV (y.1 : Int))])
  (fun y W => y.1 ≤ args.length ∧ Ext w W ∧ Fil w.heap.size W w.heap.size args.length ((args.take y.1).map Ao) y.2.1 y.2.2 ∧ FsAt (fun b => (w.heap.size ≤ b ∧ b ≠ w.heap.size) ∧ Unm W b) W y.2.1 ((args.take y.1).map Ao) ∧ w.heap.size < W.heap.size) (fun y => args.length - y.1) (0, [], _) ⟨rfl, rfl, rfl, rfl, trivial⟩ ⟨by simp, p.E, by simpa using D, by simpa using FsAt.nil _ _, by have := p.size; omega⟩ ?_
 rintro ⟨k, L, Z⟩ W fr ⟨P, T, q, l, f⟩;simp only at P T q l f;have d : ((args.take k).map Ao).length = k := by simp; omega
 refine go ?_;by_cases m : k < args.length
 ·refine go ?_;obtain ⟨x, V⟩ : ∃ x, args[k]? = some x := ⟨_, List.getElem?_eq_getElem m⟩;obtain ⟨b', o', rfl, E⟩ := F k x V W T;refine go ?_;refine AC E rfl ?_;rintro u w4 ⟨R, I⟩;obtain ⟨t, rfl, j, M⟩ := I.cells;refine go ?_;have z := q.ext R;have N := z.room (by rw [d]; exact m);rw [d] at N;refine AE (cs := t) rfl rfl j M z.D U (fun w5 A => go ?_);have v := A;rw [show 0 + k * 5 = ((args.take k).map Ao).length * 5 by rw [d]; omega] at v;have X := z.push (I.mono fun y K => ⟨by omega, by omega⟩) j (by rw [d]; exact m) v rfl;have u4 := l.unm R (fun _ _ => by simp);have u6 := (u4.snoc (I.mono fun y K => ⟨⟨by omega, by omega⟩, K.2⟩) j).unm A.E (fun y K s => by rw [List.mem_singleton] at s; exact K.2 s);refine go ?_;refine ⟨(k + 1, L ++ [t], Z.drop 5), ⟨rfl, ⟨rfl, rfl, rfl, ?_, trivial⟩, ⟨by simp only; omega, (T.trans R).E A.E O, ?_, ?_, by have := A.size; have := R.size; omega⟩⟩, by simp only; omega⟩
  ·show iV ((k : Int) + 1) = _;rw [Int.natCast_add]; rfl
  ·simp only;rw [List.take_add_one, V, List.map_append];exact X
  ·simp only;rw [List.take_add_one, V, List.map_append];exact u6
 ·refine go ?_;rw [List.take_of_length_le U] at q l;refine go ?_;refine AA rfl ⟨T, w.heap.size, rfl, ?_⟩;have o : (args.map Ao).length = args.length := by simp
  have Q : Z = [] := List.eq_nil_of_length_eq_zero (by rw [q.zl, o]; simp);have S := q.D;rw [Q, List.append_nil] at S;have G : FsAt (fun b => w.heap.size ≤ b ∧ Unm W b) W L (args.map Ao) := l.mono fun b S => ⟨S.1.1, S.2⟩;refine ⟨some ⟨w.heap.size, 0, none⟩, args.length, L, ?_, ?_, G.1, fun i c a r H => ⟨G.2.1 c (List.mem_of_getElem? r), G.2.2 i c a r H⟩⟩
  ·rw [o]; rfl
  ·rw [o];exact ⟨_, _, rfl, Nat.le_refl _, by omega, (fun e => by cases e), .inr ⟨w.heap.size, 0, rfl, ⟨Nat.le_refl _, Unm.cells S⟩, S.cells⟩⟩
theorem const_ok (w : World) (Z g o n c : Nat) (l : LF) (k : Nat) (x : Fml) (ok : Nat → Prop) (S : Blk w Z 34 [.slice (some ⟨g, o, none⟩) n c]) (v : PF ok w g (o + k * 5) x) (P : k < n) :
  Fn Zp 86 [iV (k : Int), pt Z] w fun u w' => u = .bool (CP x) ∧ w' = w := by
 have a := v.opc;refine AG Tryz.func86 rfl Tryz.ntmps86 (go ?_);by_cases X : x.op = 1
 ·have B : CP x = true := by unfold CP; rw [decide_eq_true X, Bool.true_or]
  rw [B];exact EU
 ·by_cases W : x.op = 2
  ·have B : CP x = true := by unfold CP; rw [decide_eq_true W, Bool.or_true]
   rw [B];exact EU
  ·have B : CP x = false := by unfold CP; rw [decide_eq_false X, decide_eq_false W]; rfl
   rw [B];exact EU
theorem SlAt.el {ok : Nat → Prop} {w : World} {g n c : Nat} {l : LF} {k : Nat} {x : Fml} (h : SlAt fmlR ok w (.slice (sm g) n c) l) (V : l[k]? = some x) : PF ok w g (0 + k * 5) x ∧ ∃ a f m j i, Cells w g (0 + k * 5) [a, f, m, j, i] ∧ FAt ok w (.agg [a, f, m, j, i].toArray) x := by
 obtain ⟨b, o, e, v⟩ := SlAt.pf h V;cases e;refine ⟨v, ?_⟩;obtain ⟨_, d, C, T, I⟩ := v;obtain ⟨a, f, m, j, i, rfl⟩ := AX C;exact ⟨a, f, m, j, i, T, I⟩
theorem canon_ok : ∀ (n : Nat) (w : World) (b o : Nat) (f : Fml), dpF f ≤ n → szF f ≤ 1000 → PF AZ w b o f → Sh f → Fn Zp 52 [.pointer (some ⟨b, o, none⟩)] w fun u w' => Ext w w' ∧ FAt (fun b => w.heap.size ≤ b ∧ Unm w' b) w' u (Ao f) := by
 intro n
 induction n with
 | zero => intro w b o f hd; rw [BP] at hd; omega
 | succ n ih =>
 intro w b o f hd hz hf hs;obtain ⟨aa, cc, d0, q0, q1, q2, q3, q4, qa⟩ := hf.all;obtain ⟨M, I, v, bd, j⟩ := f;obtain ⟨_, ⟨d7, a8, d9, e0, _⟩, b4⟩ := sh_iff.1 hs;rw [BP] at hd;rw [Bd] at hz;simp only [Fml.op, Fml.name, Fml.val, Fml.args] at hd hz d0 q0 q1 q2 q4 qa;have d8 := Bv j;have c6 := World.block_lt_of_cell? w _ q0;simp only at c6
 have c5 : ∀ V, Ext w V → ArgC V aa j := fun V eV k a ha W eW => by
  obtain ⟨b', o', e, hp⟩ := qa k a ha;have b1 := List.mem_of_getElem? ha;have h1 := Ba b1;have h2 := Bq b1;exact ⟨b', o', e, ih W b' _ a U U (hp.E (eV.trans eW) (fun _ _ => by simp)) (b4 a b1)⟩
 rw [canon_eq];refine AG Tryz.func52 rfl Tryz.ntmps52 (go ?_);refine AQ (L := zero5) (fun w1 E => go ?_);have z1 := E.size;have d4 := E.E.cell q4 O;refine go ?_;refine AC (canons_ok w1 j aa cc U (c5 w1 E.E)) rfl ?_;rintro _ w2 ⟨k2, g, rfl, c0⟩;refine AQ (L := [.slice none 0 0]) (fun w3 n3 => ?_);refine AN (v := .slice (sm g) j.length j.length) rfl rfl rfl n3.D O (fun p p4 => ?_);repeat refine nx rfl ?_
 have T : Blk p w2.heap.size 34 [.slice (sm g) j.length j.length] := p4.D;have a6 : Ext w2 p := n3.E.E p4.E O;have H : Ext w p := (E.E.trans k2).trans a6;have R : Blk p w.heap.size 36 zero5 := E.D.E (k2.trans a6) O;have P := c0.unm a6 (fun _ _ => by simp);have z2 := k2.size;have e1 := a6.size;have b7 := H.cell q0 O;have d2 := H.cell q1 O;have d3 := H.cell q2 O;have S : (j.map Ao).length = j.length := by simp
 have b5 : ∀ x ∈ j.map Ao, Sh x := fun x Q => by
  obtain ⟨y, K, rfl⟩ := List.mem_map.1 Q;exact cf_sh (canon_cf (b4 y K))
 have b6 : szL (j.map Ao) ≤ 1000 := by
  have := szL_map Ao j fun a ha => canon_sz (b4 a ha);omega
 clear c0 E k2 n3 p4 d4;generalize j.map Ao = l at P S b5 b6 ⊢;obtain ⟨Z, c7⟩ : ∃ Z, Z = w2.heap.size := ⟨_, rfl⟩;rw [← c7] at T ⊢;have d5 : w1.heap.size ≤ Z := by omega
 refine AJ (Dd rfl rfl (Ac (M_func rfl ?_)));repeat refine nx rfl ?_
 (refine AJ (Ag rfl (AK rfl (AF rfl (AM rfl Do ?_)))) <;> refine AH ?_)
 refine Q_then ?_;refine C_mid (α := Unit) (fun _ => [(0, .pointer (some ⟨b, o, none⟩)), (2, pt w.heap.size), (3, pt Z)]) (fun _ W => W = p ∧ BY M I v l = ⟨M, I, v, 0, l⟩) ?_ ?_
 ·have a2 : ∀ k, k < j.length → ∃ x, l[k]? = some x ∧ l.getD k Ae = x := fun k hk => by
   have c2 : k < l.length := by omega
   exact ⟨l[k], List.getElem?_eq_getElem c2, by rw [List.getD_eq_getElem?_getD, List.getElem?_eq_getElem c2]; rfl⟩
  refine go ?_;by_cases b9 : M = 5 ∨ M = 6
  ·rcases b9 with rfl | rfl
   ·refine go ?_;rw [show BY 5 I v l = Di 5 l by unfold BY; rw [if_pos U]];refine AW (rd 0 5 (.alt 5 (.alt 6 .done .stop) .stop)) Al Dk (fun F N ed => ⟨fun V => Keep [w.heap.size] F V, ?_, ?_⟩)
    ·exact Ep
    have s1 : ∀ V, Keep [w.heap.size] F V → V.cell? ⟨b, o + 0, none⟩ = some (iV 5) := fun V e => e.cell (N.cell b7 O) Dl;have s2 : ∀ V, Keep [w.heap.size] F V → V.cell? ⟨Z, 0, none⟩ = some (.slice (sm g) j.length j.length) := fun V e => e.cell ((T.E N O).cell rfl) Dl;refine go ?_;refine D_E rfl ?_;have a1 := SlAt.lt D9 (P.unm N (fun _ _ => by simp));rw [← S] at a1;have hj := join_ok F 5 U (sm g) _ l _ a1 (fun b hb => hb.1.2) (Nat.le_trans b6 U) b5;rw [S] at hj;refine AC hj rfl ?_;rintro u w5 ⟨G, f5⟩;obtain ⟨t, rfl, hcs, b2⟩ := f5.cells;obtain ⟨q, r, s, C, D, rfl⟩ := AX hcs;refine AH ⟨_, fun _ e => e, G.any, ?_⟩;refine D_E rfl ?_;have zd := N.size;have z5 := G.size;refine AE (cs := [q, r, s, C, D]) rfl rfl rfl b2 ((R.E N O).E G O) Dp (fun d m => ?_);refine AH ⟨_, fun _ e => e, G.any.trans m.E (fun _ h _ => h), ?_⟩;refine go ?_
    have f6 : FAt (fun b => w1.heap.size ≤ b ∧ Unm w5 b) w5 (.agg [q, r, s, C, D].toArray) (Di 5 l) := f5.mono fun y K => by
     rcases K with h | h
     ·exact ⟨h.1.1, h.1.2.eq (G.block y h.2 O)⟩
     ·exact ⟨by omega, h.2⟩
    exact E7
   ·refine go ?_;rw [show BY 6 I v l = Di 6 l by unfold BY; rw [if_pos U]];refine AW (rd 0 5 (.alt 5 (.alt 6 .done .stop) .stop)) Al Dk (fun F N ed => ⟨fun V => Keep [w.heap.size] F V, ?_, ?_⟩)
    ·exact Ep
    have s1 : ∀ V, Keep [w.heap.size] F V → V.cell? ⟨b, o + 0, none⟩ = some (iV 6) := fun V e => e.cell (N.cell b7 O) Dl;have s2 : ∀ V, Keep [w.heap.size] F V → V.cell? ⟨Z, 0, none⟩ = some (.slice (sm g) j.length j.length) := fun V e => e.cell ((T.E N O).cell rfl) Dl;refine go ?_;refine D_E rfl ?_;have a1 := SlAt.lt D9 (P.unm N (fun _ _ => by simp));rw [← S] at a1;have hj := join_ok F 6 U (sm g) _ l _ a1 (fun b hb => hb.1.2) (Nat.le_trans b6 U) b5;rw [S] at hj;refine AC hj rfl ?_;rintro u w5 ⟨G, f5⟩;obtain ⟨t, rfl, hcs, b2⟩ := f5.cells;obtain ⟨q, r, s, C, D, rfl⟩ := AX hcs;refine AH ⟨_, fun _ e => e, G.any, ?_⟩;refine D_E rfl ?_;have zd := N.size;have z5 := G.size;refine AE (cs := [q, r, s, C, D]) rfl rfl rfl b2 ((R.E N O).E G O) Dp (fun d m => ?_);refine AH ⟨_, fun _ e => e, G.any.trans m.E (fun _ h _ => h), ?_⟩;refine go ?_
    have f6 : FAt (fun b => w1.heap.size ≤ b ∧ Unm w5 b) w5 (.agg [q, r, s, C, D].toArray) (Di 6 l) := f5.mono fun y K => by
     rcases K with h | h
     ·exact ⟨h.1.1, h.1.2.eq (G.block y h.2 O)⟩
     ·exact ⟨by omega, h.2⟩
    exact E7
  ·by_cases h8 : M = 8
   ·subst h8;have d6 : j.length = 1 := by simpa [Ar] using a8
    obtain ⟨x, Q, a3⟩ := a2 0 U;obtain ⟨hp, q, r, s, C, D, a0, X⟩ := P.el Q;have z := canonOp_8 I v l;rw [a3] at z;refine go ?_;refine Av (v1 := []) (v2 := [pt Z]) (vs := [iV ((0 : Nat) : Int)]) rfl (const_ok p Z g 0 _ _ l 0 x _ T hp U) rfl ?_;rintro _ p ⟨rfl, rfl⟩;cases hic : CP x with
    | true =>
     rw [hic, if_pos rfl] at z;exact EL
    | false =>
     rw [hic, if_neg Bool.false_ne_true] at z;refine go ?_;exact Aw () ⟨rfl, rfl, rfl, trivial⟩ ⟨rfl, z⟩
   ·by_cases h9 : M = 9
    ·subst h9;have hl2 : j.length = 2 := by simpa [Ar] using a8
     obtain ⟨y, K, b0⟩ := a2 0 U;obtain ⟨b3, _⟩ := P.el K;obtain ⟨x, Q, a3⟩ := a2 1 U;obtain ⟨hp, q, r, s, C, D, a0, X⟩ := P.el Q;have z := canonOp_9 I v l;rw [a3, b0] at z;have qy := b3.opc;refine go ?_;refine Av (v1 := []) (v2 := [pt Z]) (vs := [iV ((1 : Nat) : Int)]) rfl (const_ok p Z g 0 _ _ l 1 x _ T hp U) rfl ?_;rintro _ p ⟨rfl, rfl⟩;cases hic : CP x with
     | true =>
      rw [if_pos (.inl hic)] at z;exact EL
     | false =>
      by_cases a4 : y.op = 2
      ·rw [if_pos (.inr a4)] at z;exact EL
      ·exact FT
    ·by_cases b8 : M = 10
     ·subst b8;have hl2 : j.length = 2 := by simpa [Ar] using a8
      obtain ⟨y, K, b0⟩ := a2 0 U;obtain ⟨b3, _⟩ := P.el K;obtain ⟨x, Q, a3⟩ := a2 1 U;obtain ⟨hp, q, r, s, C, D, a0, X⟩ := P.el Q;have z := canonOp_10 I v l;rw [a3, b0] at z;have qy := b3.opc;refine go ?_;refine Av (v1 := []) (v2 := [pt Z]) (vs := [iV ((1 : Nat) : Int)]) rfl (const_ok p Z g 0 _ _ l 1 x _ T hp U) rfl ?_;rintro _ p ⟨rfl, rfl⟩;cases hic : CP x with
      | true =>
       rw [if_pos (.inl hic)] at z;exact EL
      | false =>
       by_cases a4 : y.op = 1
       ·rw [if_pos (.inr a4)] at z;exact EL
       ·exact FT
     ·refine go ?_;exact Aw () ⟨rfl, rfl, rfl, trivial⟩ ⟨rfl, canonOp_E b9 h8 h9 b8 I v l⟩
 rintro _ W f5 ⟨rfl, d1⟩;rw [d1];refine go ?_;refine AW (rd 0 14 (.alt 14 .done .stop)) Al Dk (fun F N ed => ⟨fun V => Keep [w.heap.size] F V, ?_, ?_⟩)
 ·exact Ep
 have s0 : ∀ V, Keep [w.heap.size] F V → V.cell? ⟨b, o + 0, none⟩ = some (iV M) := fun V e => e.cell (N.cell b7 O) Dl;have s1 : ∀ V, Keep [w.heap.size] F V → V.cell? ⟨b, o + 1, none⟩ = some (AI I) := fun V e => e.cell (N.cell d2 O) Dl;have s2 : ∀ V, Keep [w.heap.size] F V → V.cell? ⟨b, o + 2, none⟩ = some (iV v) := fun V e => e.cell (N.cell d3 O) Dl;have s3 : ∀ V, Keep [w.heap.size] F V → V.cell? ⟨Z, 0, none⟩ = some (.slice (sm g) j.length j.length) := fun V e => e.cell ((T.E N O).cell rfl) Dl;(refine D_R rfl rfl (fun W B => Ag rfl Z3) (D_R rfl rfl (fun W B => AK rfl Z3) (D_R rfl rfl (fun W B => AF rfl Z3) (D_R rfl rfl (fun W B => AM rfl (s0 W B) Z3) (D_R rfl rfl (fun W B => Ag rfl Z3) (D_R rfl rfl (fun W B => AK rfl Z3) (D_R rfl rfl (fun W B => AF rfl Z3) (D_R rfl rfl (fun W B => AM rfl (s1 W B) Z3) (D_R rfl rfl (fun W B => Ag rfl Z3) (D_R rfl rfl (fun W B => AK rfl Z3) (D_R rfl rfl (fun W B => AF rfl Z3) (D_R rfl rfl (fun W B => AM rfl (s2 W B) Z3) (D_R rfl rfl (fun W B => AM rfl (s3 W B) Z3) ?_)))))))))))) <;> (apply D_R rfl rfl; (intro W B; refine Bo Dn Dn ?_; exact Z3)))
 refine D_E rfl ?_;refine AE (cs := [iV M, AI I, iV v, iV 0, .slice (sm g) j.length j.length]) rfl rfl rfl (AU rfl) (R.E N O) Dp (fun d m => ?_);refine AH ⟨_, fun _ e => e, m.E, ?_⟩;refine go ?_;have zd := N.size;have c4 := (P.unm N (fun _ _ => by simp)).unm m.E (fun y K A => by rw [List.mem_singleton] at A; omega);obtain ⟨a9, c9, L9, e9, a7, a5⟩ := c4;rw [S] at a7 e9
 have c3 : FsAt (fun b => w1.heap.size ≤ b ∧ Unm d b) d L9 l := ⟨a5.1, fun c hc => by
  obtain ⟨i, hi⟩ := List.getElem?_of_mem hc;have c8 : i < l.length := by rw [← a5.1]; exact (List.getElem?_eq_some_iff.1 hi).1
  exact (a5.2 i c _ hi (List.getElem?_eq_getElem c8)).1, fun i c x hc Q => (a5.2 i c x hc Q).2⟩
 rw [← S] at a7;have c1 := FAt.node M I v 0 a7 c3;rw [S] at c1;refine go ?_;exact AT rfl rfl rfl m.D.cells ⟨(H.trans N).E m.E O, c1.mono fun y K => ⟨by omega, K.2⟩⟩
end Go.Proofs.YtohodbnnhlddpaaGreatDoor
