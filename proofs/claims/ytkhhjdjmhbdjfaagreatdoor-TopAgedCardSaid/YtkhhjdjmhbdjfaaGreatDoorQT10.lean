/- formula.distinct, negated; slices.BinarySearchFunc at formulas; formula.opposed. formula.join. A slice of formulas that is filled, element by element. formula.canon, canons, Canon. The aged form of a formula: reader.aged. Conditions: none. -/
import Derived.Test.YtkhhjdjmhbdjfaaGreatDoorQT9

namespace Go.Proofs.YtkhhjdjmhbdjfaaGreatDoor
open Go.RowKit
set_option linter.unusedVariables false
theorem distinct_ok (w : World) (B : Nat) (v : Value) (l : List Fml) (L : List (List Value)) (ok : Nat → Prop) (ho : w.ownsRow B 25 5 v l.length L.flatten) (hF : FsAt ok w L l)
  (hok : ∀ b, ok b → Unm w b ∧ b < w.heap.size ∧ v.ownBlock ≠ some b) (hz : ∀ x ∈ l, szF x ≤ 1000000) (hn : l.length < 4611686018427387904) :
  Fn Tryz.prog 111 [v, cmpV] w fun u w' => Keep v.ownBlock.toList w w' ∧ u.ownBlock = v.ownBlock ∧ ∃ L', w'.ownsRow B 25 5 u (Cp l).length L'.flatten ∧ FsAt ok w' L' (Cp l) := by
 have hvs : ∃ p n cap, v = .slice p n cap := by
  rcases ho.2 with ⟨e, h0⟩ | ⟨g, cap, cur, e, _⟩
  ·exact ⟨_, _, _, e⟩
  ·exact ⟨_, _, _, e⟩
 obtain ⟨p, n, cap, rfl⟩ := hvs
 have hX : ∀ b, ok b → b ∉ (Value.slice p n cap).ownBlock.toList := fun b hb hx => (hok b hb).2.2 (Option.mem_toList.1 hx)
 have hvl : ∀ g, (Value.slice p n cap).ownBlock = some g → g < w.heap.size := fun g hg => (Aw ho hg).2
 refine AR Tryz.func111 rfl Tryz.ntmps111 (Nat.le_of_ble_eq_true rfl) (by kernel_rfl) ?_
 repeat refine nx rfl ?_
 (refine AA ?_; refine A5 (L := [cmpV]) rfl (fun w1 n1 => ?_))
 refine AC (AM rfl ?_)
 repeat refine nx rfl ?_
 have z1 := n1.size
 have b1 := n1.blk
 have hc1 : (Value.slice p n cap).ownBlock ≠ some w.heap.size := fun e => by have := hvl _ e; omega
 have hm1 : w.heap.size ∉ (Value.slice p n cap).ownBlock.toList := fun hx => hc1 (Option.mem_toList.1 hx)
 refine AA (AM rfl (AF rfl (Blk.cell (by assumption) (by rfl)) ?_))
 refine AQ (sort_ok w1 B _ l L ok (A4 ho n1.keep) (hF.ext n1.keep) (fun b hb => ⟨(hok b hb).1.eq (n1.keep.block b (hok b hb).2.1 (by simp)), by have := (hok b hb).2.1; omega, (hok b hb).2.2⟩) hz hn) rfl ?_
 rintro _ w2 ⟨rfl, k2, L2, l2, hp2, hs2, o2, f2⟩
 have hl2 : l2.length = l.length := hp2.length_eq
 have k02 : Keep (Value.slice p n cap).ownBlock.toList w w2 := n1.keep.any.trans k2 (fun _ h _ => h)
 repeat refine nx rfl ?_
 refine AA (AM rfl (Ae rfl rfl ?_))
 rw [← hl2] at o2
 refine AQ (compact_ok w2 B _ l2 L2 ok w.heap.size o2 f2 (fun b hb => ⟨(hok b hb).1.eq (k02.block b (hok b hb).2.1 (hX b hb)), by have := (hok b hb).2.1; have := k02.size; omega, (hok b hb).2.2⟩) (fun x hx => hz x (hp2.mem_iff.1 hx)) (b1.keep k2 hm1) hc1) rfl ?_
 rintro u w3 ⟨k3, hu, L3, o3, f3⟩
 rw [cpN_dist hs2 hp2] at o3 f3
 obtain ⟨p', n', cap', rfl⟩ : ∃ p n cap, u = .slice p n cap := by
  rcases o3.2 with ⟨e, h0⟩ | ⟨g, cap, cur, e, _⟩
  ·exact ⟨_, _, _, e⟩
  ·exact ⟨_, _, _, e⟩
 refine AC (AM rfl ?_)
 repeat refine nx rfl ?_
 exact AI rfl ⟨k02.trans k3 (fun _ h _ => h), hu, L3, o3, f3.keep k3 hX⟩
theorem negated_ok (w : World) (c : List Value) (f : Fml) (ok : Nat → Prop) (hf : FAt ok w (.agg c.toArray) f) (ha : f.op = 4 → 0 < f.args.length) :
  Fn Tryz.prog 113 [.agg c.toArray] w fun u w' => ∃ d : List Value, u = .tuple #[.agg d.toArray, .bool (decide (f.op = 4))] ∧ Ext w w' ∧ FAt ok w' (.agg d.toArray) (if f.op = 4 then f.args.getD 0 Af else Af) := by
 obtain ⟨x0, x1, x2, x3, x4, rfl⟩ := hf.v5
 obtain ⟨av, e, La, hS, hLl, hL5, hA⟩ := hf.form
 simp only [Value.agg.injEq, List.toArray_eq_iff, List.cons.injEq, and_true] at e
 obtain ⟨rfl, rfl, rfl, rfl, rfl⟩ := e
 obtain ⟨aa, cc, rfl, hla, hcm, _⟩ := id hS
 refine AR Tryz.func113 rfl Tryz.ntmps113 (Nat.le_of_ble_eq_true rfl) (by kernel_rfl) ?_
 repeat refine nx rfl ?_
 (refine AA ?_; refine A5 (L := [.int .i64 f.op, An f.name, .int .i64 f.val, .int .i64 f.bound, .slice aa f.args.length cc]) rfl (fun w1 n1 => ?_))
 refine Ar (L := zero5) (fun w2 n2 => ?_)
 refine AC (AB rfl ?_)
 repeat refine nx rfl ?_
 have kk := n1.keep.trans n2.keep
 have b1 := n1.blk.keep n2.keep (by simp)
 have b2 := n2.blk
 have z1 := n1.size
 by_cases h4 : f.op = 4
 ·obtain ⟨a, hal⟩ : ∃ a, f.args[0]? = some a := ⟨_, List.getElem?_eq_getElem (ha h4)⟩
  obtain ⟨d, hd⟩ : ∃ d, La[0]? = some d := ⟨_, List.getElem?_eq_getElem (by rw [hLl]; exact ha h4)⟩
  have hfa := hA 0 d a hd hal
  obtain ⟨y0, y1, y2, y3, y4, rfl⟩ := hfa.v5
  obtain ⟨b', o', rfl, hb', hcs⟩ := Sl.fml hS hL5 hd (ha h4)
  have hbl : b' < w.heap.size := World.block_lt_of_cell? w _ (hcs 0 _ rfl)
  rw [if_pos h4, decide_eq_true h4, show f.args.getD 0 Af = a by rw [List.getD_eq_getElem?_getD, hal]; rfl]
  rw [h4] at b1
  (refine AA (AD rfl (AF rfl (Blk.cell (by assumption) (by rfl)) ?_)) <;> refine W_neqF rfl rfl (by omega) ?_)
  repeat first | refine nx rfl ?_ | refine nf rfl ?_
  (refine AA (AD rfl (AF rfl (Blk.cell (by assumption) (by rfl)) ?_)) <;> refine Aq rfl rfl (by omega) (by omega) ?_)
  refine Ao (L := [y0, y1, y2, y3, y4]) rfl rfl (hcs.keep kk (by simp)) ?_
  refine AU (cs := [y0, y1, y2, y3, y4]) rfl rfl rfl hfa.one b2 (by simp [zero5]) (fun w5 p5 => ?_)
  refine AC (AB rfl ?_)
  repeat refine nx rfl ?_
  exact fin_retA1 rfl rfl rfl p5.blk.cells ⟨[y0, y1, y2, y3, y4], rfl, kk.keep p5.keep (by simp; omega), ((hfa.lt.ext kk).keep p5.keep (fun y hy hm => by have := hy.2; simp at hm; omega)).mono fun y hy => hy.1⟩
 ·rw [if_neg h4, decide_eq_false h4]
  (refine AA (AD rfl (AF rfl (Blk.cell (by assumption) (by rfl)) ?_)) <;> refine W_neqT rfl rfl (by omega) ?_)
  repeat refine nx rfl ?_
  refine AA (BE (by rfl) (by rfl) ?_)
  refine AU (cs := zero5) rfl rfl rfl (Ap rfl) b2 (by simp [zero5]) (fun w5 p5 => ?_)
  refine AC (AB rfl ?_)
  repeat refine nx rfl ?_
  exact fin_retA1 rfl rfl rfl p5.blk.cells ⟨zero5, rfl, kk.keep p5.keep (by simp; omega), FAt.leaf _ _ 0 [] 0 0⟩
theorem SlAt.c5 {ok : Nat → Prop} {w : World} {a : Option Addr} {n c : Nat} {l : List Fml} {k : Nat} (h : SlAt fmlR ok w (.slice a n c) l) (hk : k < l.length) : ∃ b o x0 x1 x2 x3 x4, a = some ⟨b, o, none⟩ ∧ Cells w b (o + k * 5) [x0, x1, x2, x3, x4] ∧ FAt ok w (.agg [x0, x1, x2, x3, x4].toArray) (l.getD k Af) := by
 have e1 : l[k]? = some (l.getD k Af) := by rw [List.getD_eq_getElem?_getD, List.getElem?_eq_getElem hk]; rfl
 obtain ⟨b, o, e, _, d, hd, hc, hf⟩ := SlAt.pf h e1
 obtain ⟨x0, x1, x2, x3, x4, rfl⟩ := A7 hd
 exact ⟨b, o, x0, x1, x2, x3, x4, e, hc, hf⟩
theorem Inc.at {l : List Fml} (h : Inc l) : ∀ i j, i < j → j < l.length → BV (l.getD i Af) (l.getD j Af) < 0 := by
 induction l with
 | nil => intro i j _ hj; simp at hj
 | cons a l ih =>
  intro i j hij hj
  obtain ⟨h1, h2⟩ := h
  cases j with
  | zero => omega
  | succ j =>
   have hj' : j < l.length := by simpa using hj
   have ej : (a :: l).getD (j + 1) Af = l.getD j Af := rfl
   rw [ej]
   cases i with
   | zero => exact h1 _ (by rw [List.getD_eq_getElem?_getD, List.getElem?_eq_getElem hj']; exact List.getElem_mem hj')
   | succ i => exact ih h2 i j (by omega) hj'
theorem bs_found {l : List Fml} {y : Fml} {i : Nat} (hinc : Inc l) (hi : i ≤ l.length) (h1 : ∀ a, a < i → BV (l.getD a Af) y < 0) (h2 : ∀ a, i ≤ a → a < l.length → ¬ BV (l.getD a Af) y < 0) :
  l.any (fun z => decide (BV z y = 0)) = (decide (i < l.length) && decide (BV (l.getD i Af) y = 0)) := by
 rw [Bool.eq_iff_iff, List.any_eq_true, Bool.and_eq_true, decide_eq_true_eq, decide_eq_true_eq]
 constructor
 ·rintro ⟨z, hz, hc⟩
  rw [decide_eq_true_eq] at hc
  obtain ⟨j, hj⟩ := List.getElem?_of_mem hz
  have hjl := (List.getElem?_eq_some_iff.1 hj).1
  have ej : l.getD j Af = z := by rw [List.getD_eq_getElem?_getD, hj]; rfl
  by_cases hji : j < i
  ·have := h1 j hji; rw [ej] at this; omega
  ·by_cases he : j = i
   ·subst he; exact ⟨hjl, by rw [ej]; exact hc⟩
   ·have h3 := hinc.at i j (by omega) hjl
    rw [ej, (Bt _ _).1 hc] at h3
    exact absurd h3 (h2 i (Nat.le_refl _) (by omega))
 ·rintro ⟨h3, h4⟩
  exact ⟨l.getD i Af, by rw [List.getD_eq_getElem?_getD, List.getElem?_eq_getElem h3]; exact List.getElem_mem h3, by rw [decide_eq_true_eq]; exact h4⟩
theorem bs_ok (w : World) (a : Option Addr) (cap : Nat) (l : List Fml) (y : Fml) (d : List Value) (ok okt : Nat → Prop) (hl : SlAt fmlR ok w (.slice a l.length cap) l) (hy : FAt okt w (.agg d.toArray) y) (hu : ∀ b, ok b → Unm w b) (hz : ∀ x ∈ l, szF x ≤ 1000000) (hinc : Inc l) (hn : l.length ≤ 1000000) :
  Fn Tryz.prog 144 [.slice a l.length cap, .agg d.toArray, cmpV] w fun u w' => ∃ i : Int, u = .tuple #[.int .i64 i, .bool (l.any fun z => decide (BV z y = 0))] ∧ Ext w w' := by
 obtain ⟨y0, y1, y2, y3, y4, rfl⟩ := hy.v5
 have hok : ∀ V, Ext w V → ∀ b, (ok b ∧ b < w.heap.size) → Unm V b := fun V e b hb => (hu b hb.1).eq (e.block b hb.2 (by simp))
 have hll := hl.lt (by show 0 < 5; omega)
 refine AR Tryz.func144 rfl Tryz.ntmps144 (Nat.le_of_ble_eq_true rfl) (by kernel_rfl) ?_
 repeat refine nx rfl ?_
 (refine AA ?_; refine A5 (L := [y0, y1, y2, y3, y4]) rfl (fun w1 n1 => ?_))
 refine AC (AG rfl (AC (AB rfl ?_)))
 repeat refine nx rfl ?_
 refine AA (AM rfl (AZ rfl (AC (AG rfl ?_))))
 repeat refine nx rfl ?_
 refine AA (AG rfl (AC (AG rfl (AC (AG rfl (AO ?_))))))
 have b1 := n1.blk
 have k1 := n1.keep
 repeat refine nx rfl ?_
 refine A3 (α := Nat × Nat) (fun | (i, j) => [(0, .slice a l.length cap), (2, cmpV), (4, pt w.heap.size), (8, .int .i64 (l.length : Int)), (9, .int .i64 (i : Int)), (10, .int .i64 (j : Int))]) (fun x W => x.1 ≤ x.2 ∧ x.2 ≤ l.length ∧ Ext w1 W ∧ (∀ p, p < x.1 → BV (l.getD p Af) y < 0) ∧ (∀ p, x.2 ≤ p → p < l.length → ¬ BV (l.getD p Af) y < 0)) (fun x => x.2 - x.1) (0, l.length) ⟨rfl, rfl, rfl, rfl, rfl, rfl, trivial⟩ ⟨by simp, by simp, Ext.refl _, fun p hp => absurd hp (by simp), fun p hp hp2 => absurd hp2 (by simp only at hp; omega)⟩ ?_
 rintro ⟨i, j⟩ W fr ⟨hij, hjn, kW, hlo, hhi⟩
 simp only at hij hjn hlo hhi
 have kw := k1.trans kW
 repeat refine nx rfl ?_
 by_cases hlt : i < j
 ·refine AA (AG rfl (AG rfl (At rfl rfl (by omega) ?_)))
  repeat refine nx rfl ?_
  refine AA (AG rfl (AG rfl (Av rfl rfl (by first | exact AV (by omega) (by omega) | exact AY (by omega) (by omega) | exact AW (by omega) (by omega)) ?_)))
  refine W_conv rfl (inR_u64 (by omega) (by omega)) ?_
  refine W_shrU (m := i + j) (n := 1) rfl rfl (by omega) ?_
  obtain ⟨h, hh⟩ : ∃ h, h = (i + j) / 2 ^ 1 := ⟨_, rfl⟩
  rw [← hh]
  have hh2 : h = (i + j) / 2 := hh
  have hhi2 : h < j := by omega
  have hhi3 : i ≤ h := by omega
  (refine W_conv rfl (by first | exact AV (by omega) (by omega) | exact AY (by omega) (by omega) | exact AW (by omega) (by omega)) ?_ <;> refine AC (AG rfl ?_))
  repeat refine nx rfl ?_
  obtain ⟨b, o, x0, x1, x2, x3, x4, rfl, hc, hfx⟩ := (hll.ext kw).c5 (k := h) (by omega)
  refine Ad (.read 0 (.read 1 (.read 2 (.read 3 (.read 4 (.read 5 (.alt 6 (.read 7 .done) .stop))))))) Ax (by kernel_rfl) (fun wd kd ed => ⟨Ext wd, ?_, ?_⟩)
  ·exact Ext.refl _
  have kk := kw.trans kd
  have s1 : ∀ V, Ext wd V → Cells V b (o + h * 5) [x0, x1, x2, x3, x4] := fun V e => hc.keep (kd.trans e) (by simp)
  have s2 : ∀ V, Ext wd V → Cells V w.heap.size 0 [y0, y1, y2, y3, y4] := fun V e => (b1.keep ((kW.trans kd).trans e) (by simp)).cells
  (refine D_R rfl rfl (fun W hW => Bq rfl Z3) (D_R rfl rfl (fun W hW => AM rfl Z3) (D_R rfl rfl (fun W hW => AG rfl Z3) (D_R rfl rfl (fun W hW => Au rfl rfl rfl (by omega) Z3) ?_))) <;> (apply D_R rfl rfl; (intro W hW; refine Ao rfl (by rfl) (s1 W hW) ?_; exact Z3)) <;> (apply D_R rfl rfl; (intro W hW; refine Ao rfl (by rfl) (s2 W hW) ?_; exact Z3)))
  refine D_E rfl ?_
  have hmem : l.getD h Af ∈ l := by rw [List.getD_eq_getElem?_getD, List.getElem?_eq_getElem (by omega : h < l.length)]; exact List.getElem_mem (by omega : h < l.length)
  refine BO (v1 := []) (v2 := []) (vs := [.agg [x0, x1, x2, x3, x4].toArray, .agg [y0, y1, y2, y3, y4].toArray]) rfl (fcompare_ok wd _ _ _ y _ okt (hfx.ext kd) (hy.ext kk) (.inl (hok wd kk)) (hz _ hmem)) rfl ?_
  rintro _ w4 ⟨rfl, k4⟩
  refine AO ⟨Ext wd, fun _ e => e, k4, ?_⟩
  have k5 := (kW.trans kd).trans k4
  by_cases hc0 : BV (l.getD h Af) y < 0
  ·refine D_lssT rfl rfl rfl rfl (by omega) (Ah ?_)
   repeat refine nx rfl ?_
   (refine AA (AG rfl (Av rfl rfl (by first | exact AV (by omega) (by omega) | exact AY (by omega) (by omega) | exact AW (by omega) (by omega)) ?_)) <;> refine AC (AG rfl ?_))
   repeat refine nx rfl ?_
   refine ⟨(h + 1, j), ⟨rfl, ⟨rfl, rfl, rfl, rfl, ?_, rfl, trivial⟩, ⟨by simp only; omega, hjn, k5, fun p hp => ?_, hhi⟩⟩, by simp only; omega⟩
   ·show Value.int .i64 ((h : Int) + 1) = _
    rw [Int.natCast_add]; rfl
   ·simp only at hp
    by_cases hph : p = h
    ·subst hph; exact hc0
    ·have h3 := hinc.at p h (by omega) (by omega)
     exact CY _ _ _ h3 hc0
  ·refine D_lssF rfl rfl rfl rfl (by omega) (Ah ?_)
   repeat first | refine nx rfl ?_ | refine nf rfl ?_
   refine AA (AG rfl (AC (AG rfl ?_)))
   repeat refine nx rfl ?_
   refine ⟨(i, h), ⟨rfl, ⟨rfl, rfl, rfl, rfl, rfl, rfl, trivial⟩, ⟨by simp only; omega, by simp only; omega, k5, hlo, fun p hp hpl => ?_⟩⟩, by simp only; omega⟩
   simp only at hp
   by_cases hph : p = h
   ·subst hph; exact hc0
   ·have h3 := hinc.at h p (by omega) hpl
    intro h4
    exact hc0 (CY _ _ _ h3 h4)
 ·refine AA (AG rfl (AG rfl (Aj rfl rfl (by omega) ?_)))
  repeat first | refine nx rfl ?_ | refine nf rfl ?_
  obtain rfl : i = j := by omega
  rw [bs_found hinc hjn hlo hhi]
  by_cases hin : i < l.length
  ·rw [decide_eq_true hin, Bool.true_and]
   obtain ⟨b, o, x0, x1, x2, x3, x4, rfl, hc, hfx⟩ := (hll.ext kw).c5 (k := i) (by omega)
   refine Ad (.read 0 (.read 1 (.read 2 (.read 3 (.read 4 (.read 5 (.read 6 (.read 7 (.read 8 (.read 9 (.read 10 (.alt 11 (.read 12 (.read 13 (.read 14 (.read 15 .done)))) .stop)))))))))))) Ax (by kernel_rfl) (fun wd kd ed => ⟨Ext wd, ?_, ?_⟩)
   ·exact Ext.refl _
   have kk := kw.trans kd
   have s1 : ∀ V, Ext wd V → Cells V b (o + i * 5) [x0, x1, x2, x3, x4] := fun V e => hc.keep (kd.trans e) (by simp)
   have s2 : ∀ V, Ext wd V → Cells V w.heap.size 0 [y0, y1, y2, y3, y4] := fun V e => (b1.keep ((kW.trans kd).trans e) (by simp)).cells
   (refine D_R rfl rfl (fun W hW => AG rfl Z3) (D_R rfl rfl (fun W hW => AG rfl Z3) (D_R rfl rfl (fun W hW => AG rfl Z3) (D_lssT rfl rfl rfl rfl (by omega) (D_R rfl rfl (fun W hW => AB rfl Z3) (D_R rfl rfl (fun W hW => AE rfl (Bq rfl Z3)) (D_R rfl rfl (fun W hW => AE rfl (AM rfl Z3)) (D_R rfl rfl (fun W hW => AE rfl (AG rfl Z3)) (D_R rfl rfl (fun W hW => AE rfl (Au rfl rfl rfl (by omega) Z3)) ?_)))))))) <;> (apply D_R rfl rfl; (intro W hW; (refine AE rfl ?_; refine Ao rfl (by rfl) (s1 W hW) ?_); exact Z3)) <;> (apply D_R rfl rfl; (intro W hW; (refine AE rfl ?_; refine Ao rfl (by rfl) (s2 W hW) ?_); exact Z3)))
   refine D_E rfl ?_
   have hmem : l.getD i Af ∈ l := by rw [List.getD_eq_getElem?_getD, List.getElem?_eq_getElem hin]; exact List.getElem_mem hin
   refine AE rfl (BO (v1 := []) (v2 := []) (vs := [.agg [x0, x1, x2, x3, x4].toArray, .agg [y0, y1, y2, y3, y4].toArray]) rfl (fcompare_ok wd _ _ _ y _ okt (hfx.ext kd) (hy.ext kk) (.inl (hok wd kk)) (hz _ hmem)) rfl ?_)
   rintro _ w4 ⟨rfl, k4⟩
   refine AO ⟨Ext wd, fun _ e => e, k4, ?_⟩
   by_cases hc0 : BV (l.getD i Af) y = 0
   ·rw [decide_eq_true hc0]
    refine D_eqlT rfl rfl rfl rfl (by omega) (D_R rfl rfl (fun W hW => AK rfl (AB rfl Z3)) (D_R rfl rfl (fun W hW => AC (AG rfl Z3)) (D_R rfl rfl (fun W hW => AC (AB rfl Z3)) (Ah ?_))))
    repeat refine nx rfl ?_
    exact fin_ret2 rfl ⟨_, rfl, kk.trans k4⟩
   ·rw [decide_eq_false hc0]
    refine D_eqlF rfl rfl rfl rfl (by omega) (D_R rfl rfl (fun W hW => AK rfl (AB rfl Z3)) (D_R rfl rfl (fun W hW => AC (AG rfl Z3)) (D_R rfl rfl (fun W hW => AC (AB rfl Z3)) (Ah ?_))))
    repeat refine nx rfl ?_
    exact fin_ret2 rfl ⟨_, rfl, kk.trans k4⟩
  ·rw [decide_eq_false hin, Bool.false_and]
   refine Ad (.read 0 (.read 1 (.read 2 (.read 3 (.read 4 (.read 5 (.read 6 (.read 7 (.read 8 (.read 9 (.read 10 (.alt 11 (.read 12 (.read 13 (.read 14 (.read 15 .done)))) .stop)))))))))))) Ax (by kernel_rfl) (fun wd kd ed => ⟨Ext wd, ?_, ?_⟩)
   ·exact Ext.refl _
   refine D_R rfl rfl (fun W hW => AG rfl Z3) (D_R rfl rfl (fun W hW => AG rfl Z3) (D_R rfl rfl (fun W hW => AG rfl Z3) (D_lssF rfl rfl rfl rfl (by omega) (D_R rfl rfl (fun W hW => AB rfl Z3) (Am rfl rfl rfl rfl (Am rfl rfl rfl rfl (Am rfl rfl rfl rfl (Am rfl rfl rfl rfl (Am rfl rfl rfl rfl (Am rfl rfl rfl rfl ?_))))))))))
   refine D_E rfl ?_
   refine AL rfl ?_
   refine AO ⟨Ext wd, fun _ e => e, Ext.refl _, ?_⟩
   refine Am rfl rfl rfl rfl (D_R rfl rfl (fun W hW => AJ rfl (AB rfl Z3)) (D_R rfl rfl (fun W hW => AC (AG rfl Z3)) (D_R rfl rfl (fun W hW => AC (AB rfl Z3)) (Ah ?_))))
   repeat refine nx rfl ?_
   exact fin_ret2 rfl ⟨_, rfl, kw.trans kd⟩
abbrev negV : Value := .func (.func 113) #[] #[]
theorem opposed_ok (w : World) (a : Option Addr) (cap : Nat) (l : List Fml) (ok : Nat → Prop) (hl : SlAt fmlR ok w (.slice a l.length cap) l) (hu : ∀ b, ok b → Unm w b) (hz : ∀ x ∈ l, szF x ≤ 1000000) (hinc : Inc l) (hn : l.length ≤ 1000000) (h4 : ∀ x ∈ l, x.op = 4 → 0 < x.args.length) :
  Fn Tryz.prog 112 [.slice a l.length cap, cmpV, negV] w fun u w' => u = .bool (oppB l) ∧ Ext w w' := by
 have hll := hl.lt (by show 0 < 5; omega)
 have hok : ∀ V, Ext w V → ∀ b, (ok b ∧ b < w.heap.size) → Unm V b := fun V e b hb => (hu b hb.1).eq (e.block b hb.2 (by simp))
 refine AR Tryz.func112 rfl Tryz.ntmps112 (Nat.le_of_ble_eq_true rfl) (by kernel_rfl) ?_
 repeat refine nx rfl ?_
 refine AA (AC (AB rfl ?_))
 repeat refine nx rfl ?_
 refine AA (AM rfl (AZ rfl (AG rfl ?_)))
 repeat refine nx rfl ?_
 refine A3 (α := Nat) (fun k => [(0, .slice a l.length cap), (1, cmpV), (2, negV), (13, .slice a l.length cap), (14, .int .i64 (l.length : Int)), (15, .int .i64 (k : Int))]) (fun k W => k ≤ l.length ∧ Ext w W ∧ ∀ (i : Nat) (x : Fml), i < k → l[i]? = some x → (decide (x.op = 4) && l.any fun y => decide (BV y (x.args.getD 0 Af) = 0)) = false) (fun k => l.length - k) 0 ⟨rfl, rfl, rfl, rfl, rfl, rfl, trivial⟩ ⟨by omega, Ext.refl _, fun i x hi => by omega⟩ ?_
 rintro k W fr ⟨hk, kW, hbefore⟩
 repeat refine nx rfl ?_
 by_cases hlt : k < l.length
 ·refine AA (At rfl rfl (by omega) ?_)
  repeat refine nx rfl ?_
  obtain ⟨b, o, x0, x1, x2, x3, x4, rfl, hc, hfx⟩ := (hll.ext kW).c5 hlt
  have hx : l[k]? = some (l.getD k Af) := by rw [List.getD_eq_getElem?_getD, List.getElem?_eq_getElem hlt]; rfl
  obtain ⟨x, hxe⟩ : ∃ x, x = l.getD k Af := ⟨_, rfl⟩
  rw [← hxe] at hx hfx
  have hmem := List.mem_of_getElem? hx
  refine AA (Au rfl rfl rfl (by omega) ?_)
  refine Ao (L := [x0, x1, x2, x3, x4]) rfl rfl hc ?_
  refine Ar (L := zero5) (fun w4 n4 => ?_)
  refine AU (cs := [x0, x1, x2, x3, x4]) rfl rfl rfl hfx.one n4.blk (by simp [zero5]) (fun w5 p5 => ?_)
  repeat refine nx rfl ?_
  have b8 : Blk w5 W.heap.size 25 [x0, x1, x2, x3, x4] := p5.blk
  have k5 : Ext W w5 := n4.keep.keep p5.keep (by simp)
  refine AA (Bq rfl (Ac rfl (by assumption) (by rfl) ?_))
  refine BO (v1 := []) (v2 := []) (vs := [.agg [x0, x1, x2, x3, x4].toArray]) rfl (negated_ok w5 _ x _ (hfx.ext k5) (h4 x hmem)) rfl ?_
  rintro _ w6 ⟨d, rfl, k6, hfd⟩
  obtain ⟨y0, y1, y2, y3, y4, rfl⟩ := hfd.v5
  refine Cj rfl (BA rfl rfl (BA rfl rfl ?_))
  refine Ar (L := zero5) (fun w7 n7 => ?_)
  refine AU (cs := [y0, y1, y2, y3, y4]) rfl rfl rfl hfd.one n7.blk (by simp [zero5]) (fun w8 p8 => ?_)
  have b9 : Blk w8 w6.heap.size 25 [y0, y1, y2, y3, y4] := p8.blk
  have k68 : Ext w6 w8 := n7.keep.keep p8.keep (by simp)
  have k8 : Ext w w8 := ((kW.trans k5).trans k6).trans k68
  have hnext : ∀ (V : World), Ext w V → ∀ (r : (decide (x.op = 4) && l.any fun y => decide (BV y (x.args.getD 0 Af) = 0)) = false), k + 1 ≤ l.length ∧ Ext w V ∧ ∀ (i : Nat) (z : Fml), i < k + 1 → l[i]? = some z → (decide (z.op = 4) && l.any fun y => decide (BV y (z.args.getD 0 Af) = 0)) = false := fun V e r => ⟨by omega, e, fun i z hi hz => by
   by_cases hik : i = k
   ·subst hik; rw [hx] at hz; cases hz; exact r
   ·exact hbefore i z (by omega) hz⟩
  by_cases ho : x.op = 4
  ·rw [decide_eq_true ho]
   rw [if_pos ho] at hfd
   refine AC (AB rfl ?_)
   repeat refine nx rfl ?_
   refine AA (AB rfl ?_)
   repeat refine nx rfl ?_
   (refine AA (AM rfl (Ac rfl (by assumption) (by rfl) ?_)) <;> refine Bq rfl ?_)
   refine AQ (bs_ok w8 _ cap l _ _ _ _ (hll.ext k8) (hfd.ext k68) (hok w8 k8) hz hinc hn) rfl ?_
   rintro _ w9 ⟨i, rfl, k9⟩
   cases hr : l.any fun z => decide (BV z (x.args.getD 0 Af) = 0) with
   | true =>
    refine Cj rfl (BA rfl rfl (BA rfl rfl (AC (AG rfl (AC (AB rfl ?_))))))
    repeat refine nx rfl ?_
    refine AA (AB rfl ?_)
    repeat refine nx rfl ?_
    refine AA (AC (AB rfl ?_))
    repeat refine nx rfl ?_
    refine AI rfl ⟨?_, k8.trans k9⟩
    have : oppB l = true := by
     unfold oppB
     exact any_stop (p := fun x => decide (x.op = 4) && l.any fun y => decide (BV y (x.args.getD 0 Af) = 0)) hx (by rw [decide_eq_true ho]; exact hr)
    rw [this]; rfl
   | false =>
    refine Cj rfl (BA rfl rfl (BA rfl rfl (AC (AG rfl (AC (AB rfl ?_))))))
    repeat refine nx rfl ?_
    refine AA (AB rfl ?_)
    repeat first | refine nx rfl ?_ | refine nf rfl ?_
    (refine AA (Av rfl rfl (by first | exact AV (by omega) (by omega) | exact AY (by omega) (by omega) | exact AW (by omega) (by omega)) ?_) <;> refine AG rfl ?_)
    repeat refine nx rfl ?_
    refine ⟨k + 1, ⟨rfl, ⟨rfl, rfl, rfl, rfl, rfl, ?_, trivial⟩, hnext _ (k8.trans k9) (by rw [hr, Bool.and_false])⟩, by omega⟩
    show Value.int .i64 ((k : Int) + 1) = _
    rw [Int.natCast_add]; rfl
  ·rw [decide_eq_false ho]
   refine AC (AB rfl ?_)
   repeat refine nx rfl ?_
   refine AA (AB rfl ?_)
   repeat first | refine nx rfl ?_ | refine nf rfl ?_
   (refine AA (Av rfl rfl (by first | exact AV (by omega) (by omega) | exact AY (by omega) (by omega) | exact AW (by omega) (by omega)) ?_) <;> refine AG rfl ?_)
   repeat refine nx rfl ?_
   refine ⟨k + 1, ⟨rfl, ⟨rfl, rfl, rfl, rfl, rfl, ?_, trivial⟩, hnext _ k8 (by rw [decide_eq_false ho, Bool.false_and])⟩, by omega⟩
   show Value.int .i64 ((k : Int) + 1) = _
   rw [Int.natCast_add]; rfl
 ·refine AA (Aj rfl rfl (by omega) ?_)
  repeat first | refine nx rfl ?_ | refine nf rfl ?_
  refine AA (AC (AB rfl ?_))
  repeat refine nx rfl ?_
  refine AI rfl ⟨?_, kW⟩
  have : oppB l = false := by
   unfold oppB
   exact any_done (p := fun x => decide (x.op = 4) && l.any fun y => decide (BV y (x.args.getD 0 Af) = 0)) fun i x hi hx => hbefore i x (by omega) hx
  rw [this]; rfl
end Go.Proofs.YtkhhjdjmhbdjfaaGreatDoor
namespace Go.Proofs.YtkhhjdjmhbdjfaaGreatDoor
open Go.RowKit
set_option linter.unusedVariables false
theorem clip_ok (w : World) (a : Option Addr) (n c : Nat) (h : n ≤ c) : Fn Tryz.prog 114 [.slice a n c] w fun u w' => u = .slice a n n ∧ w' = w := by
 refine AR Tryz.func114 rfl Tryz.ntmps114 (Nat.le_of_ble_eq_true rfl) (by kernel_rfl) ?_
 repeat refine nx rfl ?_
 refine AA (AC (AM rfl ?_))
 repeat refine nx rfl ?_
 refine AA (AM rfl (AM rfl (AZ rfl (AM rfl (AZ rfl ?_)))))
 refine W_slice_hm (h := n) (m := n) rfl rfl rfl (Nat.le_refl _) h ?_
 refine AC (AM rfl ?_)
 repeat refine nx rfl ?_
 exact AI rfl ⟨rfl, rfl⟩
theorem own_sl {w : World} {B : Nat} {v : Value} {l : List Fml} {L : List (List Value)} {ok : Nat → Prop} (ho : w.ownsRow B 25 5 v l.length L.flatten) (hF : FsAt ok w L l) (hu : ∀ b, ok b → Unm w b) :
  ∃ a c, v = .slice a l.length c ∧ l.length ≤ c ∧ SlAt fmlR (Unm w) w (.slice a l.length c) l ∧ Sl (fun b => B ≤ b ∧ Unm w b) w (.slice a l.length l.length) l.length L.flatten := by
 have hF' := hF.mono hu
 have hR : RsAt fmlR (Unm w) w L l := ⟨hF.1, fun i c x hc hx => ⟨hF.2.1 c (List.mem_of_getElem? hc), hF'.2.2 i c x hc hx⟩⟩
 rcases ho.2 with ⟨rfl, h0⟩ | ⟨g, cap, cur, rfl, hB, hg, hnc, hcm, hcs, ht⟩
 ·obtain rfl : l = [] := List.eq_nil_of_length_eq_zero h0
  exact ⟨none, 0, rfl, Nat.le_refl _, ⟨none, 0, L, rfl, Az (ok := Unm w) ho (fun g hg => by cases hg), hR⟩, ⟨none, 0, rfl, by simp, by simp, fun _ => rfl, .inl rfl⟩⟩
 ·have hug : Unm w g := Unm.cells hg
  have hS := Az (ok := fun b => B ≤ b ∧ Unm w b) ho (fun g' hg' => by cases hg'; exact ⟨hB, hug⟩)
  refine ⟨_, _, rfl, hnc, ⟨_, _, L, rfl, Az (ok := Unm w) ho (fun g' hg' => by cases hg'; exact hug), hR⟩, ?_⟩
  obtain ⟨a, c, e, h1, h2, h3, h4⟩ := hS
  cases e
  exact ⟨_, _, rfl, Nat.le_refl _, by unfold maxLen at hcm; omega, (fun e => by cases e), h4⟩
theorem flat_snoc (op : Int) {l : List Fml} {k : Nat} {x : Fml} (h : l[k]? = some x) : (l.take (k + 1)).flatMap (Fl op) = (l.take k).flatMap (Fl op) ++ Fl op x := by
 rw [List.take_add_one, h]; simp
theorem zAny_snoc (op : Int) {l : List Fml} {k : Nat} {x : Fml} (h : l[k]? = some x) : CE op (l.take (k + 1)) = (CE op (l.take k) || decide (x.op = Bf op)) := by
 rw [List.take_add_one, h]; simp [CE]
theorem flat_take_le (op : Int) (l : List Fml) (k : Nat) : ((l.take k).flatMap (Fl op)).length ≤ szL l :=
 Nat.le_trans (CQ _) (Nat.le_trans (sz_flat op _) (szL_take_le l k))
theorem FsAt.app {ok : Nat → Prop} {w : World} : ∀ {L M : List (List Value)} {l m : List Fml}, FsAt ok w L l → FsAt ok w M m → FsAt ok w (L ++ M) (l ++ m)
 | [], _, [], _, _, h => h
 | [], _, _ :: _, _, h, _ => by have := h.1; simp at this
 | _ :: _, _, [], _, h, _ => by have := h.1; simp at this
 | c :: L, M, x :: l, m, h, h' => FsAt.cons (h.2.2 0 c x rfl rfl) (h.2.1 c (by simp)) (FsAt.app ⟨by have := h.1; simpa using this, fun d hd => h.2.1 d (by simp [hd]), fun i d g hd hg => h.2.2 (i + 1) d g (by simpa using hd) (by simpa using hg)⟩ h')
theorem FsAt.oneC {ok : Nat → Prop} {w : World} {L : List (List Value)} {l : List Fml} (h : FsAt ok w L l) : oneC L.flatten := by
 intro u hu
 obtain ⟨c, hc, huc⟩ := List.mem_flatten.1 hu
 obtain ⟨i, hi⟩ := List.getElem?_of_mem hc
 have hil : i < l.length := by rw [← h.1]; exact (List.getElem?_eq_some_iff.1 hi).1
 exact (h.2.2 i c _ hi (List.getElem?_eq_getElem hil)).one u huc
theorem join_ok (w : World) (op : Int) (hop : op = 5 ∨ op = 6) (a : Option Addr) (cap : Nat) (l : List Fml) (ok : Nat → Prop) (hl : SlAt fmlR ok w (.slice a l.length cap) l) (hu : ∀ b, ok b → Unm w b) (hz : szL l ≤ 1000) (hsh : ∀ x ∈ l, Sh x) :
  Fn Tryz.prog 74 [.int .i64 op, .slice a l.length cap] w fun u w' => Ext w w' ∧ FAt (fun b => ok b ∨ (w.heap.size ≤ b ∧ Unm w' b)) w' u (B1 op l) := by
 have hll := hl.lt (by show 0 < 5; omega)
 have hlen : l.length ≤ 1000 := Nat.le_trans (CQ l) hz
 obtain ⟨ho1, ho2, ho3, ho4, ho5⟩ := uz_ne hop
 refine AR Tryz.func74 rfl Tryz.ntmps74 (Nat.le_of_ble_eq_true rfl) (by kernel_rfl) ?_
 repeat refine nx rfl ?_
 (refine AA ?_; refine Ar (L := zero5) (fun w1 n1 => ?_))
 repeat refine nx rfl ?_
 have z1 := n1.size
 have b4 := n1.blk
 have k1 := n1.keep
 refine AA (AC (AG rfl (AC (AG rfl ?_))))
 repeat refine nx rfl ?_
 refine AA (AG rfl ?_)
 refine W_eqlD rfl rfl ?_
 refine AO ?_
 refine Q_then ?_
 refine Cn (α := Unit) (fun _ => [(0, .int .i64 op), (1, .slice a l.length cap), (4, pt w.heap.size), (5, .int .i64 (B2 op)), (6, .int .i64 (Bf op))]) (fun _ W => W = w1) ?_ ?_
 ·rcases hop with rfl | rfl
  ·repeat first | refine nx rfl ?_ | refine nf rfl ?_
   exact A0 () ⟨rfl, rfl, rfl, rfl, rfl, trivial⟩ rfl
  ·repeat refine nx rfl ?_
   refine AA (AG rfl (AG rfl (AC (AG rfl (AC (AG rfl ?_))))))
   repeat refine nx rfl ?_
   exact A0 () ⟨rfl, rfl, rfl, rfl, rfl, trivial⟩ rfl
 rintro _ W f3 rfl
 repeat refine nx rfl ?_
 refine AA (AC (AM rfl ?_))
 repeat refine nx rfl ?_
 refine AA (AM rfl (AZ rfl (AG rfl ?_)))
 repeat refine nx rfl ?_
 refine A3 (α := Nat × Value × List (List Value)) (fun | (k, v, _) => [(0, .int .i64 op), (4, pt w.heap.size), (5, .int .i64 (B2 op)), (6, .int .i64 (Bf op)), (7, v), (14, .slice a l.length cap), (15, .int .i64 (l.length : Int)), (16, .int .i64 (k : Int))])
  (fun y V => y.1 ≤ l.length ∧ Ext w V ∧ Blk V w.heap.size 25 zero5 ∧ V.ownsRow W.heap.size 25 5 y.2.1 ((l.take y.1).flatMap (Fl op)).length y.2.2.flatten ∧ CE op (l.take y.1) = false ∧ FsAt (fun b => ok b ∧ b < w.heap.size) V y.2.2 ((l.take y.1).flatMap (Fl op)) ∧ W.heap.size ≤ V.heap.size) (fun y => l.length - y.1) (0, .slice none 0 0, []) ⟨rfl, rfl, rfl, rfl, rfl, rfl, rfl, rfl, trivial⟩ ⟨by simp, k1, b4, ⟨rfl, .inl ⟨rfl, rfl⟩⟩, rfl, FsAt.nil _ _, Nat.le_refl _⟩ ?_
 rintro ⟨k, v, L⟩ V fr ⟨hk, kV, bV, oV, hzV, fV, zV⟩
 simp only at hk bV oV hzV fV
 repeat refine nx rfl ?_
 by_cases hlt : k < l.length
 ·refine AA (At rfl rfl (by omega) ?_)
  repeat refine nx rfl ?_
  obtain ⟨b, o, x0, x1, x2, x3, x4, rfl, hc, hfx⟩ := (hll.ext kV).c5 hlt
  have hx : l[k]? = some (l.getD k Af) := by rw [List.getD_eq_getElem?_getD, List.getElem?_eq_getElem hlt]; rfl
  obtain ⟨x, hxe⟩ : ∃ x, x = l.getD k Af := ⟨_, rfl⟩
  rw [← hxe] at hx hfx
  have hmem := List.mem_of_getElem? hx
  have hsn := flat_snoc op hx
  have hzn := zAny_snoc op hx
  rw [hzV, Bool.false_or] at hzn
  have hG1 := flat_take_le op l (k + 1)
  refine AA (Au rfl rfl rfl (by omega) ?_)
  refine Ao (L := [x0, x1, x2, x3, x4]) rfl rfl hc ?_
  refine Ar (L := zero5) (fun w4 n4 => ?_)
  refine AU (cs := [x0, x1, x2, x3, x4]) rfl rfl rfl hfx.one n4.blk (by simp [zero5]) (fun w5 p5 => ?_)
  repeat refine nx rfl ?_
  have k5 : Ext V w5 := n4.keep.keep p5.keep (by simp)
  have hf5 := hfx.ext k5
  obtain ⟨av, e, La, hS, hLl, hL5, hA⟩ := hf5.form
  simp only [Value.agg.injEq, List.toArray_eq_iff, List.cons.injEq, and_true] at e
  obtain ⟨rfl, rfl, rfl, rfl, rfl⟩ := e
  have b8 : Blk w5 V.heap.size 25 [.int .i64 x.op, An x.name, .int .i64 x.val, .int .i64 x.bound, x4] := p5.blk
  have o5 := A4 oV k5
  have f5 := fV.ext k5
  have e5 := kV.trans k5
  have b45 := bV.keep k5 (by simp)
  have z5 := k5.size
  have hvl : ∀ g, v.ownBlock = some g → W.heap.size ≤ g := fun g hg => (Aw oV hg).1
  have hvk : ∀ (b : Nat), ok b ∧ b < w.heap.size → b ∉ v.ownBlock.toList := fun b hb hx => by have := hvl b (Option.mem_toList.1 hx); omega
  (refine AA (AD rfl (AF rfl (Blk.cell (by assumption) (by rfl)) ?_)))
  repeat refine nx rfl ?_
  by_cases hA1 : x.op = op
  ·refine AA (AG rfl (Ai rfl rfl (by omega) (AC (AB rfl ?_))))
   repeat refine nx rfl ?_
   have hFl : Fl op x = x.args := by unfold Fl; rw [if_pos hA1]
   rw [hFl] at hsn
   have hzk : CE op (l.take (k + 1)) = false := by rw [hzn, decide_eq_false]; omega
   have hgl : ((l.take k).flatMap (Fl op)).length + x.args.length ≤ 1000 := by rw [hsn, List.length_append] at hG1; omega
   have fA : FsAt (fun b => ok b ∧ b < w.heap.size) w5 La x.args := ⟨hLl, hL5, hA⟩
   refine AA (Be (AD rfl (AF rfl (Blk.cell (by assumption) (by rfl)) ?_)))
   refine BD (v := v) (sv := x4) rfl rfl o5 hS (by omega) rfl fA.flat fA.oneC (by omega) (by omega) (by omega) (fun v7 w7 a7 => ?_)
   have e7 : Ext w w7 := e5.keep a7.keep (fun y hy => by have := hvl y (Option.mem_toList.1 hy); omega)
   have f7 := (f5.app fA).keep a7.keep hvk
   have b7 := b45.keep a7.keep (fun hx => by have := hvl _ (Option.mem_toList.1 hx); omega)
   have o7 : w7.ownsRow W.heap.size 25 5 v7 ((l.take (k + 1)).flatMap (Fl op)).length (L ++ La).flatten := by rw [hsn, List.length_append, List.flatten_append]; exact a7.own
   rw [← hsn] at f7
   refine AC (Be ?_)
   repeat refine nx rfl ?_
   (refine AA (Av rfl rfl (by first | exact AV (by omega) (by omega) | exact AY (by omega) (by omega) | exact AW (by omega) (by omega)) ?_) <;> refine AG rfl ?_)
   repeat refine nx rfl ?_
   refine ⟨(k + 1, v7, L ++ La), ⟨rfl, ⟨rfl, rfl, rfl, rfl, rfl, rfl, rfl, ?_, trivial⟩, ⟨by simp only; omega, e7, b7, o7, hzk, f7, Nat.le_trans (Nat.le_trans zV z5) a7.keep.size⟩⟩, by simp only; omega⟩
   show Value.int .i64 ((k : Int) + 1) = _
   rw [Int.natCast_add]; rfl
  ·by_cases hA2 : x.op = Bf op
   ·refine AA (AG rfl (AT rfl rfl (by omega) (AC (AB rfl ?_))))
    repeat first | refine nx rfl ?_ | refine nf rfl ?_
    refine AA (AG rfl (Ai rfl rfl (by omega) (AC (AB rfl ?_))))
    repeat refine nx rfl ?_
    refine AA (AG rfl (BE (by rfl) (by rfl) ?_))
    refine AU (cs := [.int .i64 (Bf op), An [], .int .i64 0, .int .i64 0, .slice none 0 0]) rfl rfl rfl (Ap rfl) b45 (by simp [zero5]) (fun w9 p9 => ?_)
    repeat refine nx rfl ?_
    have hzA : CE op l = true := by
     unfold CE
     exact any_stop hx (by rw [decide_eq_true_eq]; exact hA2)
    rw [B4 hop, hzA, if_pos rfl]
    exact A2 rfl rfl rfl p9.blk.cells ⟨e5.keep p9.keep (by simp), FAt.leaf _ _ (Bf op) [] 0 0⟩
   ·by_cases hA3 : x.op = B2 op
    ·refine AA (AG rfl (AT rfl rfl (by omega) (AC (AB rfl ?_))))
     repeat first | refine nx rfl ?_ | refine nf rfl ?_
     refine AA (AG rfl (AT rfl rfl (by omega) (AC (AB rfl ?_))))
     repeat first | refine nx rfl ?_ | refine nf rfl ?_
     refine AA (AG rfl (Ai rfl rfl (by omega) (AC (AB rfl (AO ?_)))))
     have hFl : Fl op x = [] := by unfold Fl; rw [if_neg hA1, if_pos hA3]
     rw [hFl, List.append_nil] at hsn
     have hzk : CE op (l.take (k + 1)) = false := by rw [hzn, decide_eq_false hA2]
     rw [← hsn] at f5 o5
     repeat refine nx rfl ?_
     (refine AA (Av rfl rfl (by first | exact AV (by omega) (by omega) | exact AY (by omega) (by omega) | exact AW (by omega) (by omega)) ?_) <;> refine AG rfl ?_)
     repeat refine nx rfl ?_
     refine ⟨(k + 1, v, L), ⟨rfl, ⟨rfl, rfl, rfl, rfl, rfl, rfl, rfl, ?_, trivial⟩, ⟨by simp only; omega, e5, b45, o5, hzk, f5, Nat.le_trans zV z5⟩⟩, by simp only; omega⟩
     show Value.int .i64 ((k : Int) + 1) = _
     rw [Int.natCast_add]; rfl
    ·refine AA (AG rfl (AT rfl rfl (by omega) (AC (AB rfl ?_))))
     repeat first | refine nx rfl ?_ | refine nf rfl ?_
     refine AA (AG rfl (AT rfl rfl (by omega) (AC (AB rfl ?_))))
     repeat first | refine nx rfl ?_ | refine nf rfl ?_
     refine AA (AG rfl (AT rfl rfl (by omega) (AC (AB rfl ?_))))
     repeat first | refine nx rfl ?_ | refine nf rfl ?_
     have hFl : Fl op x = [x] := by unfold Fl; rw [if_neg hA1, if_neg hA3]
     rw [hFl] at hsn
     have hzk : CE op (l.take (k + 1)) = false := by rw [hzn, decide_eq_false hA2]
     have hgl : ((l.take k).flatMap (Fl op)).length + 1 ≤ 1000 := by rw [hsn, List.length_append] at hG1; simp only [List.length_singleton] at hG1; omega
     refine AA (Be (Ac rfl (by assumption) (by rfl) ?_))
     refine Ab (out := [.int .i64 x.op, An x.name, .int .i64 x.val, .int .i64 x.bound, x4]) rfl (by omega) (by rw [CV]; rfl) (fun w6 n6 => ?_)
     have o6 := n6.own (n := 1) (size := 5) rfl (by unfold maxLen; omega) (Nat.le_refl _)
     have z6 := n6.size
     refine BD (ok := As) (v := v) (sv := .slice (some ⟨w5.heap.size, 0, none⟩) 1 1) rfl rfl (A4 o5 n6.keep) (Az o6 fun _ _ => trivial) (by omega) rfl rfl hf5.one (by omega) (by omega) (by omega) (fun v7 w7 a7 => ?_)
     have e7 : Ext w w7 := (e5.trans n6.keep).keep a7.keep (fun y hy => by have := hvl y (Option.mem_toList.1 hy); omega)
     have f7 := ((f5.snoc hf5 rfl).ext n6.keep).keep a7.keep hvk
     have b7 := (b45.keep n6.keep (by simp)).keep a7.keep (fun hx => by have := hvl _ (Option.mem_toList.1 hx); omega)
     have o7 : w7.ownsRow W.heap.size 25 5 v7 ((l.take (k + 1)).flatMap (Fl op)).length (L ++ [[.int .i64 x.op, An x.name, .int .i64 x.val, .int .i64 x.bound, x4]]).flatten := by
      rw [hsn, List.length_append, List.flatten_append]; simpa using a7.own
     rw [← hsn] at f7
     have z7 : W.heap.size ≤ w7.heap.size := by have := a7.keep.size; omega
     refine AC (Be ?_)
     repeat refine nx rfl ?_
     (refine AA (Av rfl rfl (by first | exact AV (by omega) (by omega) | exact AY (by omega) (by omega) | exact AW (by omega) (by omega)) ?_) <;> refine AG rfl ?_)
     repeat refine nx rfl ?_
     refine ⟨(k + 1, v7, L ++ [[.int .i64 x.op, An x.name, .int .i64 x.val, .int .i64 x.bound, x4]]), ⟨rfl, ⟨rfl, rfl, rfl, rfl, rfl, rfl, rfl, ?_, trivial⟩, ⟨by simp only; omega, e7, b7, o7, hzk, f7, z7⟩⟩, by simp only; omega⟩
     show Value.int .i64 ((k : Int) + 1) = _
     rw [Int.natCast_add]; rfl
 ·refine AA (Aj rfl rfl (by omega) ?_)
  repeat first | refine nx rfl ?_ | refine nf rfl ?_
  obtain rfl : k = l.length := by omega
  rw [List.take_of_length_le (Nat.le_refl _)] at oV hzV fV
  have hvl : ∀ g, v.ownBlock = some g → W.heap.size ≤ g := fun g hg => (Aw oV hg).1
  have hGz : szL (l.flatMap (Fl op)) ≤ 1000 := Nat.le_trans (sz_flat op l) hz
  have hGm : ∀ x ∈ l.flatMap (Fl op), szF x ≤ 1000000 ∧ (x.op = 4 → 0 < x.args.length) := fun x hx => by
   refine ⟨by have := BY hx; omega, fun h4 => ?_⟩
   obtain ⟨c, hc, hxc⟩ := List.mem_flatMap.1 hx
   have hs : Sh x := by
    unfold Fl at hxc
    split at hxc
    ·exact (sh_eq (hsh c hc)).2.2 x hxc
    ·split at hxc
     ·cases hxc
     ·rw [List.mem_singleton.1 hxc]; exact hsh c hc
   have := (sh_eq hs).2.1.2.1
   rw [h4] at this
   have : x.args.length = 1 := by simpa [A8] using this
   omega
  have hGl : (l.flatMap (Fl op)).length ≤ 1000 := Nat.le_trans (CQ _) hGz
  have hDz : (Cp (l.flatMap (Fl op))).length ≤ 1000 := Nat.le_trans (CQ _) (Nat.le_trans (sz_dist _) hGz)
  refine AA (Be ?_)
  refine AQ (distinct_ok V W.heap.size v _ L _ oV fV (fun b hb => ⟨(hu b hb.1).eq (kV.block b hb.2 (by simp)), by have := kV.size; omega, fun e => by have := hvl b e; omega⟩) (fun x hx => (hGm x hx).1) (by omega)) rfl ?_
  rintro u2 w2 ⟨k2, hu2, L2, o2, f2⟩
  have e2 : Ext w w2 := kV.keep k2 (fun y hy => by have := hvl y (Option.mem_toList.1 hy); omega)
  have b42 := bV.keep k2 (fun hx => by have := hvl _ (Option.mem_toList.1 hx); omega)
  obtain ⟨a2, c2, rfl, hnc, hSl2, hS2⟩ := own_sl o2 f2 (fun b hb => (hu b hb.1).eq (e2.block b hb.2 (by simp)))
  have hin := inc_dist (l.flatMap (Fl op))
  have hDm : ∀ x ∈ Cp (l.flatMap (Fl op)), szF x ≤ 1000000 ∧ (x.op = 4 → 0 < x.args.length) := fun x hx => hGm x (mem_dist.1 hx)
  rw [B4 hop, hzV, if_neg Bool.false_ne_true]
  clear o2 hGm
  generalize Cp (l.flatMap (Fl op)) = D at hDz hSl2 hS2 f2 hin hDm hnc ⊢
  refine AC (AM rfl ?_)
  repeat refine nx rfl ?_
  refine AA (AM rfl ?_)
  refine AQ (opposed_ok w2 a2 c2 D (Unm w2) hSl2 (fun b h => h) (fun x hx => (hDm x hx).1) hin (by omega) fun x hx => (hDm x hx).2) rfl ?_
  rintro _ w3 ⟨rfl, k3⟩
  have e3 := e2.trans k3
  have b43 := b42.keep k3 (by simp)
  have hbk : ∀ w9, Keep [w.heap.size] w2 w9 → ∀ b, (W.heap.size ≤ b ∧ Unm w2 b) ∧ b < w2.heap.size → ok b ∨ (w.heap.size ≤ b ∧ Unm w9 b) := fun w9 k9 b hb => .inr ⟨by omega, hb.1.2.eq (k9.block b hb.2 (by simp; omega))⟩
  unfold joinD
  cases hob : oppB D with
  | true =>
   rw [if_pos rfl]
   refine AC (AB rfl ?_)
   repeat refine nx rfl ?_
   refine AA (AG rfl (BE (by rfl) (by rfl) ?_))
   refine AU (cs := [.int .i64 (Bf op), An [], .int .i64 0, .int .i64 0, .slice none 0 0]) rfl rfl rfl (Ap rfl) b43 (by simp [zero5]) (fun w9 p9 => ?_)
   repeat refine nx rfl ?_
   exact A2 rfl rfl rfl p9.blk.cells ⟨e3.keep p9.keep (by simp), FAt.leaf _ _ (Bf op) [] 0 0⟩
  | false =>
   rw [if_neg Bool.false_ne_true]
   refine AC (AB rfl ?_)
   repeat first | refine nx rfl ?_ | refine nf rfl ?_
   match D, hDz, hSl2, hS2, f2, hin, hDm, hnc with
   | [], _, _, _, _, _, _, _ =>
    refine AA (AM rfl (AZ rfl ?_))
    refine W_eqlD rfl rfl ?_
    refine AC (AB rfl ?_)
    repeat refine nx rfl ?_
    refine AA (AG rfl (BE (by rfl) (by rfl) ?_))
    refine AU (cs := [.int .i64 (B2 op), An [], .int .i64 0, .int .i64 0, .slice none 0 0]) rfl rfl rfl (Ap rfl) b43 (by simp [zero5]) (fun w9 p9 => ?_)
    repeat refine nx rfl ?_
    exact A2 rfl rfl rfl p9.blk.cells ⟨e3.keep p9.keep (by simp), FAt.leaf _ _ (B2 op) [] 0 0⟩
   | [x], _, hSl2, hS2, f2, _, _, _ =>
    obtain ⟨x0, x1, x2, x3, x4, hL0, _, hfx⟩ := f2.at (k := 0) (by simp)
    obtain ⟨b, o, rfl, hb, hc⟩ := Sl.fml hS2 f2.2.1 hL0 (by simp)
    have hc3 : Cells w3 b (o + 0 * 5) [x0, x1, x2, x3, x4] := hc.keep k3 (by simp)
    refine AA (AM rfl (AZ rfl ?_))
    refine W_eqlD rfl rfl ?_
    refine AC (AB rfl ?_)
    repeat first | refine nx rfl ?_ | refine nf rfl ?_
    refine AA (AM rfl (AZ rfl ?_))
    refine W_eqlD rfl rfl ?_
    refine AC (AB rfl ?_)
    repeat refine nx rfl ?_
    refine AA (AM rfl ?_)
    refine Au (k := 0) rfl rfl rfl (by simp) ?_
    refine Ao (L := [x0, x1, x2, x3, x4]) rfl rfl hc3 ?_
    refine AU (cs := [x0, x1, x2, x3, x4]) rfl rfl rfl hfx.one b43 (by simp [zero5]) (fun w9 p9 => ?_)
    repeat refine nx rfl ?_
    exact A2 rfl rfl rfl p9.blk.cells ⟨e3.keep p9.keep (by simp), ((hfx.ext k3).keep p9.keep (fun y hy hm => by have := hy.2; simp at hm; omega)).mono fun y hy => .inl hy.1⟩
   | x :: y :: D', hDz, hSl2, hS2, f2, _, _, hnc =>
    have hlen2 : (x :: y :: D').length = D'.length + 2 := rfl
    generalize hDD : x :: y :: D' = D2 at hDz hSl2 hS2 f2 hnc hlen2 ⊢
    refine AA (AM rfl (AZ rfl (AT rfl rfl (by omega) (AC (AB rfl ?_)))))
    repeat first | refine nx rfl ?_ | refine nf rfl ?_
    refine AA (AM rfl (AZ rfl (AT rfl rfl (by omega) (AC (AB rfl ?_)))))
    repeat first | refine nx rfl ?_ | refine nf rfl ?_
    refine AA (AG rfl (AM rfl ?_))
    refine AQ (clip_ok w3 a2 D2.length c2 hnc) rfl ?_
    rintro _ _ ⟨rfl, rfl⟩
    refine BE (by rfl) (by rfl) ?_
    refine AU (cs := [.int .i64 op, An [], .int .i64 0, .int .i64 0, .slice a2 D2.length D2.length]) rfl rfl rfl (Ap rfl) b43 (by simp [zero5]) (fun w9 p9 => ?_)
    repeat refine nx rfl ?_
    have k9 : Keep [w.heap.size] w2 w9 := k3.any.trans p9.keep (fun _ h _ => h)
    have hS9 : Sl (fun b => ok b ∨ (w.heap.size ≤ b ∧ Unm w9 b)) w9 (.slice a2 D2.length D2.length) D2.length L2.flatten := by
     have h1 := (hS2.lt (flatten_ne f2.1 f2.2.1)).keep k9 (fun b hb hm => by simp at hm; omega)
     exact h1.mono (hbk w9 k9)
    have hF9 : FsAt (fun b => ok b ∨ (w.heap.size ≤ b ∧ Unm w9 b)) w9 L2 D2 := (f2.keep k9 (fun b hb hm => by have := hb.2; simp at hm; omega)).mono fun b hb => .inl hb.1
    subst hDD
    exact A2 rfl rfl rfl p9.blk.cells ⟨e3.keep p9.keep (by simp), FAt.node op [] 0 0 hS9 hF9⟩
end Go.Proofs.YtkhhjdjmhbdjfaaGreatDoor
namespace Go.Proofs.YtkhhjdjmhbdjfaaGreatDoor
open Go.RowKit
set_option linter.unusedVariables false
variable {mk : Prop} [MK mk]
structure Fil (B : Nat) (W : World) (g n : Nat) (l : List Fml) (L : List (List Value)) (Z : List Value) : Prop where
 blk : Blk W g 25 (L.flatten ++ Z)
 zl : Z.length = (n - l.length) * 5
 ln : l.length ≤ n
 fs : FsAt (fun b => B ≤ b ∧ b ≠ g) W L l
 gB : B ≤ g
section
variable {B g n : Nat} {W W' : World} {l : List Fml} {L : List (List Value)} {Z : List Value}
theorem Fil.start {w w' : World} {z : Array Value} (h : New w w' 25 (madeCells z (n * 5)).toList) (hB : B ≤ w.heap.size) : Fil B w' w.heap.size n [] [] (madeCells z (n * 5)).toList :=
 ⟨h.blk, by simp [madeCells], by simp, FsAt.nil _ _, hB⟩
theorem Fil.ext (h : Fil B W g n l L Z) (k : Ext W W') : Fil B W' g n l L Z := ⟨h.blk.keep k (by simp), h.zl, h.ln, h.fs.ext k, h.gB⟩
theorem Fil.room (h : Fil B W g n l L Z) (hn : l.length < n) : l.length * 5 + 5 ≤ (L.flatten ++ Z).length := by
 rw [List.length_append, h.fs.flat, h.zl]
 omega
theorem Fil.push {T : TypeId} {cs : List Value} {x : Fml} (h : Fil B W g n l L Z) (hf : FAt (fun b => B ≤ b ∧ b ≠ g) W (.agg cs.toArray) x) (hcs : cs.length = 5) (hn : l.length < n) (p : Put W W' g T (splice (L.flatten ++ Z) (l.length * 5) cs)) (hT : T = 25) :
  Fil B W' g n (l ++ [x]) (L ++ [cs]) (Z.drop 5) := by
 subst hT
 have hfl := h.fs.flat
 have e : splice (L.flatten ++ Z) (l.length * 5) cs = (L ++ [cs]).flatten ++ Z.drop 5 := by
  unfold splice
  rw [← hfl, List.take_left, hcs, List.drop_append]
  simp
 have hb := p.blk
 rw [e] at hb
 refine ⟨hb, by rw [List.length_drop, h.zl, List.length_append]; simp only [List.length_singleton]; omega, by rw [List.length_append]; simp only [List.length_singleton]; omega, ?_, h.gB⟩
 exact (h.fs.snoc hf hcs).keep p.keep fun b hb hx => by simp at hx; exact hb.2 hx
theorem Fil.fin (h : Fil B W g n l L Z) (hn : l.length = n) (hm : n ≤ 1000000) : SlAt fmlR (fun b => B ≤ b) W (.slice (some ⟨g, 0, none⟩) n n) l ∧
  ∀ (op : Int) (nm : List UInt8) (v b : Int), FAt (fun b => B ≤ b) W (.agg #[.int .i64 op, An nm, .int .i64 v, .int .i64 b, .slice (some ⟨g, 0, none⟩) n n]) ⟨op, nm, v, b, l⟩ := by
 subst hn
 have hz : Z = [] := List.eq_nil_of_length_eq_zero (by rw [h.zl]; simp)
 have hb := h.blk
 rw [hz, List.append_nil] at hb
 have hS : Sl (fun b => B ≤ b) W (.slice (some ⟨g, 0, none⟩) l.length l.length) l.length L.flatten := ⟨_, _, rfl, Nat.le_refl _, by omega, (fun e => by cases e), .inr ⟨g, 0, rfl, h.gB, hb.cells⟩⟩
 have hF : FsAt (fun b => B ≤ b) W L l := h.fs.mono fun b hb => hb.1
 exact ⟨⟨_, _, L, rfl, hS, hF.1, fun i c a hc ha => ⟨hF.2.1 c (List.mem_of_getElem? hc), hF.2.2 i c a hc ha⟩⟩, fun op nm v b => FAt.node op nm v b hS hF⟩
end
end Go.Proofs.YtkhhjdjmhbdjfaaGreatDoor
namespace Go.Proofs.YtkhhjdjmhbdjfaaGreatDoor
open Go.RowKit
set_option linter.unusedVariables false
theorem FAt.unm {ok : Nat → Prop} {X : List Nat} {w w' : World} {u : Value} {f : Fml} (h : FAt (fun b => ok b ∧ Unm w b) w u f) (k : Keep X w w') (hX : ∀ b, ok b → b ∉ X) : FAt (fun b => ok b ∧ Unm w' b) w' u f :=
 (h.lt.keep k fun b hb => hX b hb.1.1).mono fun b hb => ⟨hb.1.1, hb.1.2.eq (k.block b hb.2 (hX b hb.1.1))⟩
theorem FsAt.unm {ok : Nat → Prop} {X : List Nat} {w w' : World} {L : List (List Value)} {l : List Fml} (h : FsAt (fun b => ok b ∧ Unm w b) w L l) (k : Keep X w w') (hX : ∀ b, ok b → b ∉ X) : FsAt (fun b => ok b ∧ Unm w' b) w' L l :=
 (h.lt.keep k fun b hb => hX b hb.1.1).mono fun b hb => ⟨hb.1.1, hb.1.2.eq (k.block b hb.2 (hX b hb.1.1))⟩
theorem SlAt.unm {ok : Nat → Prop} {X : List Nat} {w w' : World} {v : Value} {l : List Fml} (h : SlAt fmlR (fun b => ok b ∧ Unm w b) w v l) (k : Keep X w w') (hX : ∀ b, ok b → b ∉ X) : SlAt fmlR (fun b => ok b ∧ Unm w' b) w' v l :=
 ((SlAt.lt (by show 0 < 5; omega) h).keep k fun b hb => hX b hb.1.1).mono fun b hb => ⟨hb.1.1, hb.1.2.eq (k.block b hb.2 (hX b hb.1.1))⟩
def ArgC (w : World) (aa : Option Addr) (args : List Fml) : Prop := ∀ (k : Nat) (a : Fml), args[k]? = some a → ∀ W, Ext w W → ∃ b' o', aa = some ⟨b', o', none⟩ ∧ Fn Tryz.prog 40 [.pointer (some ⟨b', o' + k * 5, none⟩)] W fun u w' => Ext W w' ∧ FAt (fun b => W.heap.size ≤ b ∧ Unm w' b) w' u (Al a)
theorem canons_ok (w : World) (args : List Fml) (aa : Option Addr) (cc : Nat) (hla : args.length ≤ 1000) (harg : ArgC w aa args) :
  Fn Tryz.prog 72 [.slice aa args.length cc] w fun u w' => Ext w w' ∧ ∃ g, u = .slice (some ⟨g, 0, none⟩) args.length args.length ∧ SlAt fmlR (fun b => w.heap.size ≤ b ∧ Unm w' b) w' u (args.map Al) := by
 refine AR Tryz.func72 rfl Tryz.ntmps72 (Nat.le_of_ble_eq_true rfl) (by kernel_rfl) ?_
 repeat refine nx rfl ?_
 refine AA (AC (AM rfl ?_))
 repeat refine nx rfl ?_
 refine AA (AM rfl (AZ rfl ?_))
 refine W_make (n := args.length) rfl rfl rfl rfl (by omega) (by unfold maxLen; omega) (fun w2 n2 => ?_)
 have hF := Fil.start (B := w.heap.size) n2 (Nat.le_refl _)
 refine AC (AM rfl ?_)
 repeat refine nx rfl ?_
 refine AA (AM rfl (AZ rfl (AG rfl ?_)))
 repeat refine nx rfl ?_
 refine A3 (α := Nat × List (List Value) × List Value) (fun y => [(0, .slice aa args.length cc), (3, .slice (some ⟨w.heap.size, 0, none⟩) args.length args.length), (9, .int .i64 (args.length : Int)), (10, .int .i64 (y.1 : Int))])
  (fun y W => y.1 ≤ args.length ∧ Ext w W ∧ Fil w.heap.size W w.heap.size args.length ((args.take y.1).map Al) y.2.1 y.2.2 ∧ FsAt (fun b => (w.heap.size ≤ b ∧ b ≠ w.heap.size) ∧ Unm W b) W y.2.1 ((args.take y.1).map Al) ∧ w.heap.size < W.heap.size) (fun y => args.length - y.1) (0, [], _) ⟨rfl, rfl, rfl, rfl, trivial⟩ ⟨by simp, n2.keep, by simpa using hF, by simpa using FsAt.nil _ _, by have := n2.size; omega⟩ ?_
 rintro ⟨k, L, Z⟩ W fr ⟨hk, kW, fW, uW, lW⟩
 simp only at hk kW fW uW lW
 have hlen : ((args.take k).map Al).length = k := by simp; omega
 repeat refine nx rfl ?_
 by_cases hlt : k < args.length
 ·refine AA (At rfl rfl (by omega) ?_)
  repeat refine nx rfl ?_
  refine AA (AG rfl (AC (AG rfl ?_)))
  repeat refine nx rfl ?_
  obtain ⟨x, hx⟩ : ∃ x, args[k]? = some x := ⟨_, List.getElem?_eq_getElem hlt⟩
  obtain ⟨b', o', rfl, hfn⟩ := harg k x hx W kW
  refine AA (AM rfl (AG rfl (AM rfl (AG rfl (Au rfl rfl rfl (by omega) ?_)))))
  refine AQ hfn rfl ?_
  rintro u w4 ⟨k4, f4⟩
  obtain ⟨cs, rfl, hcs, hone⟩ := f4.cells
  refine Au rfl rfl rfl (by omega) ?_
  have f5 := fW.ext k4
  have hroom := f5.room (by rw [hlen]; exact hlt)
  rw [hlen] at hroom
  refine AU (cs := cs) rfl rfl hcs hone f5.blk (by omega) (fun w5 p5 => ?_)
  refine AO ?_
  have p6 := p5
  rw [show 0 + k * 5 = ((args.take k).map Al).length * 5 by rw [hlen]; omega] at p6
  have f6 := f5.push (f4.mono fun y hy => ⟨by omega, by omega⟩) hcs (by rw [hlen]; exact hlt) p6 rfl
  have u4 := uW.unm k4 (fun _ _ => by simp)
  have u6 := (u4.snoc (f4.mono fun y hy => ⟨⟨by omega, by omega⟩, hy.2⟩) hcs).unm p5.keep (fun y hy hm => by rw [List.mem_singleton] at hm; exact hy.2 hm)
  repeat refine nx rfl ?_
  (refine AA (Av rfl rfl (by first | exact AV (by omega) (by omega) | exact AY (by omega) (by omega) | exact AW (by omega) (by omega)) ?_) <;> refine AG rfl ?_)
  repeat refine nx rfl ?_
  refine ⟨(k + 1, L ++ [cs], Z.drop 5), ⟨rfl, ⟨rfl, rfl, rfl, ?_, trivial⟩, ⟨by simp only; omega, (kW.trans k4).keep p5.keep (by simp), ?_, ?_, by have := p5.size; have := k4.size; omega⟩⟩, by simp only; omega⟩
  ·show Value.int .i64 ((k : Int) + 1) = _
   rw [Int.natCast_add]; rfl
  ·simp only
   rw [List.take_add_one, hx, List.map_append]
   exact f6
  ·simp only
   rw [List.take_add_one, hx, List.map_append]
   exact u6
 ·refine AA (Aj rfl rfl (by omega) ?_)
  repeat first | refine nx rfl ?_ | refine nf rfl ?_
  rw [List.take_of_length_le (by omega)] at fW uW
  refine AA (AM rfl (AC (AM rfl ?_)))
  repeat refine nx rfl ?_
  refine AI rfl ⟨kW, w.heap.size, rfl, ?_⟩
  have hml : (args.map Al).length = args.length := by simp
  have hz : Z = [] := List.eq_nil_of_length_eq_zero (by rw [fW.zl, hml]; simp)
  have hb := fW.blk
  rw [hz, List.append_nil] at hb
  have hF' : FsAt (fun b => w.heap.size ≤ b ∧ Unm W b) W L (args.map Al) := uW.mono fun b hb => ⟨hb.1.1, hb.2⟩
  refine ⟨some ⟨w.heap.size, 0, none⟩, args.length, L, ?_, ?_, hF'.1, fun i c a hc ha => ⟨hF'.2.1 c (List.mem_of_getElem? hc), hF'.2.2 i c a hc ha⟩⟩
  ·rw [hml]; rfl
  ·rw [hml]
   exact ⟨_, _, rfl, Nat.le_refl _, by omega, (fun e => by cases e), .inr ⟨w.heap.size, 0, rfl, ⟨Nat.le_refl _, Unm.cells hb⟩, hb.cells⟩⟩
theorem const_ok (w : World) (c3 g o n c : Nat) (l : List Fml) (k : Nat) (x : Fml) (ok : Nat → Prop) (hb : Blk w c3 23 [.slice (some ⟨g, o, none⟩) n c]) (hp : PF ok w g (o + k * 5) x) (hk : k < n) :
  Fn Tryz.prog 73 [.int .i64 (k : Int), pt c3] w fun u w' => u = .bool (Bo x) ∧ w' = w := by
 have q0 := hp.opc
 refine AR Tryz.func73 rfl Tryz.ntmps73 (Nat.le_of_ble_eq_true rfl) (by kernel_rfl) ?_
 repeat refine nx rfl ?_
 refine AA (AC (AB rfl ?_))
 repeat refine nx rfl ?_
 by_cases h1 : x.op = 1
 ·have hr : Bo x = true := by unfold Bo; rw [decide_eq_true h1, Bool.true_or]
  rw [hr]
  (refine AA (AF rfl (Blk.cell (by assumption) (by rfl)) ?_) <;> refine AG rfl (Au rfl rfl rfl (by omega) (AD rfl (AF rfl (by assumption) ?_))) <;> refine Ai rfl rfl (by omega) (AB rfl (AL rfl (AL rfl (AL rfl (AL rfl (AL rfl (AL rfl (AK rfl (AB rfl (AC (AB rfl ?_))))))))))))
  repeat refine nx rfl ?_
  exact AI rfl ⟨rfl, rfl⟩
 ·by_cases h2 : x.op = 2
  ·have hr : Bo x = true := by unfold Bo; rw [decide_eq_true h2, Bool.or_true]
   rw [hr]
   (refine AA (AF rfl (Blk.cell (by assumption) (by rfl)) ?_) <;> refine AG rfl (Au rfl rfl rfl (by omega) (AD rfl (AF rfl (by assumption) ?_))) <;> refine AT rfl rfl (by omega) (AB rfl (AE rfl (AF rfl (Blk.cell (by assumption) (by rfl)) ?_))) <;> refine AE rfl (AG rfl (AE rfl (Au rfl rfl rfl (by omega) (AE rfl (AD rfl (AE rfl (AF rfl (by assumption) ?_))))))) <;> refine AE rfl (Ai rfl rfl (by omega) (AJ rfl (AB rfl (AC (AB rfl ?_))))))
   repeat refine nx rfl ?_
   exact AI rfl ⟨rfl, rfl⟩
  ·have hr : Bo x = false := by unfold Bo; rw [decide_eq_false h1, decide_eq_false h2]; rfl
   rw [hr]
   (refine AA (AF rfl (Blk.cell (by assumption) (by rfl)) ?_) <;> refine AG rfl (Au rfl rfl rfl (by omega) (AD rfl (AF rfl (by assumption) ?_))) <;> refine AT rfl rfl (by omega) (AB rfl (AE rfl (AF rfl (Blk.cell (by assumption) (by rfl)) ?_))) <;> refine AE rfl (AG rfl (AE rfl (Au rfl rfl rfl (by omega) (AE rfl (AD rfl (AE rfl (AF rfl (by assumption) ?_))))))) <;> refine AE rfl (AT rfl rfl (by omega) (AJ rfl (AB rfl (AC (AB rfl ?_))))))
   repeat refine nx rfl ?_
   exact AI rfl ⟨rfl, rfl⟩
theorem SlAt.el {ok : Nat → Prop} {w : World} {g n c : Nat} {l : List Fml} {k : Nat} {x : Fml} (h : SlAt fmlR ok w (.slice (some ⟨g, 0, none⟩) n c) l) (hx : l[k]? = some x) : PF ok w g (0 + k * 5) x ∧ ∃ x0 x1 x2 x3 x4, Cells w g (0 + k * 5) [x0, x1, x2, x3, x4] ∧ FAt ok w (.agg [x0, x1, x2, x3, x4].toArray) x := by
 obtain ⟨b, o, e, hp⟩ := SlAt.pf h hx
 cases e
 refine ⟨hp, ?_⟩
 obtain ⟨_, d, hd, hc, hf⟩ := hp
 obtain ⟨x0, x1, x2, x3, x4, rfl⟩ := A7 hd
 exact ⟨x0, x1, x2, x3, x4, hc, hf⟩
theorem canon_ok : ∀ (n : Nat) (w : World) (b o : Nat) (f : Fml), dpF f ≤ n → szF f ≤ 1000 → PF As w b o f → Sh f → Fn Tryz.prog 40 [.pointer (some ⟨b, o, none⟩)] w fun u w' => Ext w w' ∧ FAt (fun b => w.heap.size ≤ b ∧ Unm w' b) w' u (Al f) := by
 intro n
 induction n with
 | zero => intro w b o f hd; rw [Bd] at hd; omega
 | succ n ih =>
 intro w b o f hd hz hf hs
 obtain ⟨aa, cc, hla, q0, q1, q2, q3, q4, qa⟩ := hf.all
 obtain ⟨op, nm, v, bd, args⟩ := f
 obtain ⟨_, ⟨hlo, har, hnm, hvl, _⟩, hsa⟩ := sh_iff.1 hs
 rw [Bd] at hd
 rw [BW] at hz
 simp only [Fml.op, Fml.name, Fml.val, Fml.args] at hd hz hla q0 q1 q2 q4 qa
 have hlz := CQ args
 have hbw := World.block_lt_of_cell? w _ q0
 simp only at hbw
 have harg : ∀ V, Ext w V → ArgC V aa args := fun V eV k a ha W eW => by
  obtain ⟨b', o', e, hp⟩ := qa k a ha
  have hm' := List.mem_of_getElem? ha
  have h1 := Bp hm'
  have h2 := BY hm'
  exact ⟨b', o', e, ih W b' _ a (by omega) (by omega) (hp.keep (eV.trans eW) (fun _ _ => by simp)) (hsa a hm')⟩
 rw [CH]
 refine AR Tryz.func40 rfl Tryz.ntmps40 (Nat.le_of_ble_eq_true rfl) (by kernel_rfl) ?_
 repeat refine nx rfl ?_
 (refine AA ?_; refine Ar (L := zero5) (fun w1 n1 => ?_))
 repeat refine nx rfl ?_
 have z1 := n1.size
 have q41 := n1.keep.cell q4 (by simp)
 refine AA (AP rfl (AH rfl (AD rfl (AF rfl (by assumption) ?_))))
 refine AQ (canons_ok w1 args aa cc (by omega) (harg w1 n1.keep)) rfl ?_
 rintro _ w2 ⟨k2, g, rfl, hSl⟩
 refine Ar (L := [.slice none 0 0]) (fun w3 n3 => ?_)
 refine Aa (v := .slice (some ⟨g, 0, none⟩) args.length args.length) rfl rfl rfl n3.blk (by simp) (fun w4 p4 => ?_)
 repeat refine nx rfl ?_
 have b3 : Blk w4 w2.heap.size 23 [.slice (some ⟨g, 0, none⟩) args.length args.length] := p4.blk
 have k24 : Ext w2 w4 := n3.keep.keep p4.keep (by simp)
 have e4 : Ext w w4 := (n1.keep.trans k2).trans k24
 have b2 : Blk w4 w.heap.size 25 zero5 := n1.blk.keep (k2.trans k24) (by simp)
 have hS4 := hSl.unm k24 (fun _ _ => by simp)
 have z2 := k2.size
 have zr4 := k24.size
 have q04 := e4.cell q0 (by simp)
 have q14 := e4.cell q1 (by simp)
 have q24 := e4.cell q2 (by simp)
 have hml : (args.map Al).length = args.length := by simp
 have hshl : ∀ x ∈ args.map Al, Sh x := fun x hx => by
  obtain ⟨y, hy, rfl⟩ := List.mem_map.1 hx
  exact Cx (canon_cf (hsa y hy))
 have hszl : szL (args.map Al) ≤ 1000 := by
  have := szL_map Al args fun a ha => canon_sz (hsa a ha)
  omega
 clear hSl n1 k2 n3 p4 q41
 generalize args.map Al = l at hS4 hml hshl hszl ⊢
 obtain ⟨c3, hc3⟩ : ∃ c3, c3 = w2.heap.size := ⟨_, rfl⟩
 rw [← hc3] at b3 ⊢
 have hc3w : w1.heap.size ≤ c3 := by omega
 refine AA (Ae rfl rfl (AC (Bq rfl ?_)))
 repeat refine nx rfl ?_
 (refine AA (AP rfl (AH rfl (AD rfl (AF rfl (by assumption) ?_)))) <;> refine AO ?_)
 refine Q_then ?_
 refine Cn (α := Unit) (fun _ => [(0, .pointer (some ⟨b, o, none⟩)), (2, pt w.heap.size), (3, pt c3)]) (fun _ W => W = w4 ∧ BP op nm v l = ⟨op, nm, v, 0, l⟩) ?_ ?_
 ·have hgk : ∀ k, k < args.length → ∃ x, l[k]? = some x ∧ l.getD k Af = x := fun k hk => by
   have hk' : k < l.length := by omega
   exact ⟨l[k], List.getElem?_eq_getElem hk', by rw [List.getD_eq_getElem?_getD, List.getElem?_eq_getElem hk']; rfl⟩
  repeat refine nx rfl ?_
  by_cases h56 : op = 5 ∨ op = 6
  ·rcases h56 with rfl | rfl
   ·refine AA (Ai rfl rfl (by omega) (AC (AB rfl ?_)))
    repeat refine nx rfl ?_
    rw [show BP 5 nm v l = B1 5 l by unfold BP; rw [if_pos (by omega)]]
    refine Ad (.read 0 (.read 1 (.read 2 (.read 3 (.read 4 (.alt 5 (.alt 6 .done .stop) .stop)))))) Ax (by kernel_rfl) (fun wd kd ed => ⟨fun V => Keep [w.heap.size] wd V, ?_, ?_⟩)
    ·exact Keep.refl _ _
    have s1 : ∀ V, Keep [w.heap.size] wd V → V.cell? ⟨b, o + 0, none⟩ = some (.int .i64 5) := fun V e => e.cell (kd.cell q04 (by simp)) (by simp; omega)
    have s2 : ∀ V, Keep [w.heap.size] wd V → V.cell? ⟨c3, 0, none⟩ = some (.slice (some ⟨g, 0, none⟩) args.length args.length) := fun V e => e.cell ((b3.keep kd (by simp)).cell rfl) (by simp; omega)
    refine D_R rfl rfl (fun W hW => AP rfl Z3) (D_R rfl rfl (fun W hW => AH rfl Z3) (D_R rfl rfl (fun W hW => AD rfl Z3) (D_R rfl rfl (fun W hW => AF rfl (s1 W hW) Z3) (D_R rfl rfl (fun W hW => AF rfl (s2 W hW) Z3) ?_))))
    refine D_E rfl ?_
    have hSd := SlAt.lt (by show 0 < 5; omega) (hS4.unm kd (fun _ _ => by simp))
    rw [← hml] at hSd
    have hj := join_ok wd 5 (by omega) (some ⟨g, 0, none⟩) _ l _ hSd (fun b hb => hb.1.2) hszl hshl
    rw [hml] at hj
    refine AQ hj rfl ?_
    rintro u w5 ⟨k5, f5⟩
    obtain ⟨cs, rfl, hcs, hone⟩ := f5.cells
    obtain ⟨x0, x1, x2, x3, x4, rfl⟩ := A7 hcs
    refine AO ⟨_, fun _ e => e, k5.any, ?_⟩
    refine D_E rfl ?_
    have zd := kd.size
    have z5 := k5.size
    refine AU (cs := [x0, x1, x2, x3, x4]) rfl rfl rfl hone ((b2.keep kd (by simp)).keep k5 (by simp)) (by simp [zero5]) (fun w9 p9 => ?_)
    refine AO ⟨_, fun _ e => e, k5.any.trans p9.keep (fun _ h _ => h), ?_⟩
    refine Ah ?_
    have f6 : FAt (fun b => w1.heap.size ≤ b ∧ Unm w5 b) w5 (.agg [x0, x1, x2, x3, x4].toArray) (B1 5 l) := f5.mono fun y hy => by
     rcases hy with h | h
     ·exact ⟨h.1.1, h.1.2.eq (k5.block y h.2 (by simp))⟩
     ·exact ⟨by omega, h.2⟩
    repeat refine nx rfl ?_
    exact A2 rfl rfl rfl p9.blk.cells ⟨((e4.trans kd).trans k5).keep p9.keep (by simp), (f6.unm p9.keep (fun y hy hm => by rw [List.mem_singleton] at hm; omega)).mono fun y hy => ⟨by omega, hy.2⟩⟩
   ·refine AA (AT rfl rfl (by omega) (AC (AB rfl ?_)))
    repeat first | refine nx rfl ?_ | refine nf rfl ?_
    refine AA (Ai rfl rfl (by omega) (AC (AB rfl ?_)))
    repeat refine nx rfl ?_
    rw [show BP 6 nm v l = B1 6 l by unfold BP; rw [if_pos (by omega)]]
    refine Ad (.read 0 (.read 1 (.read 2 (.read 3 (.read 4 (.alt 5 (.alt 6 .done .stop) .stop)))))) Ax (by kernel_rfl) (fun wd kd ed => ⟨fun V => Keep [w.heap.size] wd V, ?_, ?_⟩)
    ·exact Keep.refl _ _
    have s1 : ∀ V, Keep [w.heap.size] wd V → V.cell? ⟨b, o + 0, none⟩ = some (.int .i64 6) := fun V e => e.cell (kd.cell q04 (by simp)) (by simp; omega)
    have s2 : ∀ V, Keep [w.heap.size] wd V → V.cell? ⟨c3, 0, none⟩ = some (.slice (some ⟨g, 0, none⟩) args.length args.length) := fun V e => e.cell ((b3.keep kd (by simp)).cell rfl) (by simp; omega)
    refine D_R rfl rfl (fun W hW => AP rfl Z3) (D_R rfl rfl (fun W hW => AH rfl Z3) (D_R rfl rfl (fun W hW => AD rfl Z3) (D_R rfl rfl (fun W hW => AF rfl (s1 W hW) Z3) (D_R rfl rfl (fun W hW => AF rfl (s2 W hW) Z3) ?_))))
    refine D_E rfl ?_
    have hSd := SlAt.lt (by show 0 < 5; omega) (hS4.unm kd (fun _ _ => by simp))
    rw [← hml] at hSd
    have hj := join_ok wd 6 (by omega) (some ⟨g, 0, none⟩) _ l _ hSd (fun b hb => hb.1.2) hszl hshl
    rw [hml] at hj
    refine AQ hj rfl ?_
    rintro u w5 ⟨k5, f5⟩
    obtain ⟨cs, rfl, hcs, hone⟩ := f5.cells
    obtain ⟨x0, x1, x2, x3, x4, rfl⟩ := A7 hcs
    refine AO ⟨_, fun _ e => e, k5.any, ?_⟩
    refine D_E rfl ?_
    have zd := kd.size
    have z5 := k5.size
    refine AU (cs := [x0, x1, x2, x3, x4]) rfl rfl rfl hone ((b2.keep kd (by simp)).keep k5 (by simp)) (by simp [zero5]) (fun w9 p9 => ?_)
    refine AO ⟨_, fun _ e => e, k5.any.trans p9.keep (fun _ h _ => h), ?_⟩
    refine Ah ?_
    have f6 : FAt (fun b => w1.heap.size ≤ b ∧ Unm w5 b) w5 (.agg [x0, x1, x2, x3, x4].toArray) (B1 6 l) := f5.mono fun y hy => by
     rcases hy with h | h
     ·exact ⟨h.1.1, h.1.2.eq (k5.block y h.2 (by simp))⟩
     ·exact ⟨by omega, h.2⟩
    repeat refine nx rfl ?_
    exact A2 rfl rfl rfl p9.blk.cells ⟨((e4.trans kd).trans k5).keep p9.keep (by simp), (f6.unm p9.keep (fun y hy hm => by rw [List.mem_singleton] at hm; omega)).mono fun y hy => ⟨by omega, hy.2⟩⟩
  ·by_cases h8 : op = 8
   ·subst h8
    have hl1 : args.length = 1 := by simpa [A8] using har
    obtain ⟨x, hx, hgx⟩ := hgk 0 (by omega)
    obtain ⟨hp, x0, x1, x2, x3, x4, hcl, hfx⟩ := hS4.el hx
    have hco := C7 nm v l
    rw [hgx] at hco
    refine AA (AT rfl rfl (by omega) (AC (AB rfl ?_)))
    repeat first | refine nx rfl ?_ | refine nf rfl ?_
    refine AA (AT rfl rfl (by omega) (AC (AB rfl ?_)))
    repeat first | refine nx rfl ?_ | refine nf rfl ?_
    refine AA (Ai rfl rfl (by omega) (AC (AB rfl ?_)))
    repeat refine nx rfl ?_
    refine AA (Bq rfl ?_)
    refine BO (v1 := []) (v2 := [pt c3]) (vs := [.int .i64 ((0 : Nat) : Int)]) rfl (const_ok w4 c3 g 0 _ _ l 0 x _ b3 hp (by omega)) rfl ?_
    rintro _ w4 ⟨rfl, rfl⟩
    cases hic : Bo x with
    | true =>
     rw [hic, if_pos rfl] at hco
     rw [hco]
     repeat refine nx rfl ?_
     refine AA (AF rfl (Blk.cell (by assumption) (by rfl)) ?_)
     refine Au (k := 0) rfl rfl rfl (by omega) ?_
     refine Ao (L := [x0, x1, x2, x3, x4]) rfl rfl hcl ?_
     refine AU (cs := [x0, x1, x2, x3, x4]) rfl rfl rfl hfx.one b2 (by simp [zero5]) (fun w9 p9 => ?_)
     repeat refine nx rfl ?_
     exact A2 rfl rfl rfl p9.blk.cells ⟨e4.keep p9.keep (by simp), (hfx.unm p9.keep (fun y hy hm => by rw [List.mem_singleton] at hm; omega)).mono fun y hy => ⟨by omega, hy.2⟩⟩
    | false =>
     rw [hic, if_neg Bool.false_ne_true] at hco
     repeat first | refine nx rfl ?_ | refine nf rfl ?_
     exact A0 () ⟨rfl, rfl, rfl, trivial⟩ ⟨rfl, hco⟩
   ·by_cases h9 : op = 9
    ·subst h9
     have hl2 : args.length = 2 := by simpa [A8] using har
     obtain ⟨y, hy, hgy⟩ := hgk 0 (by omega)
     obtain ⟨hpy, _⟩ := hS4.el hy
     obtain ⟨x, hx, hgx⟩ := hgk 1 (by omega)
     obtain ⟨hp, x0, x1, x2, x3, x4, hcl, hfx⟩ := hS4.el hx
     have hco := canonOp_9 nm v l
     rw [hgx, hgy] at hco
     have qy := hpy.opc
     refine AA (AT rfl rfl (by omega) (AC (AB rfl ?_)))
     repeat first | refine nx rfl ?_ | refine nf rfl ?_
     refine AA (AT rfl rfl (by omega) (AC (AB rfl ?_)))
     repeat first | refine nx rfl ?_ | refine nf rfl ?_
     refine AA (AT rfl rfl (by omega) (AC (AB rfl ?_)))
     repeat first | refine nx rfl ?_ | refine nf rfl ?_
     refine AA (Ai rfl rfl (by omega) (AC (AB rfl ?_)))
     repeat refine nx rfl ?_
     refine AA (Bq rfl ?_)
     refine BO (v1 := []) (v2 := [pt c3]) (vs := [.int .i64 ((1 : Nat) : Int)]) rfl (const_ok w4 c3 g 0 _ _ l 1 x _ b3 hp (by omega)) rfl ?_
     rintro _ w4 ⟨rfl, rfl⟩
     cases hic : Bo x with
     | true =>
      rw [if_pos (.inl hic)] at hco
      rw [hco]
      refine AB rfl (AL rfl (AL rfl (AL rfl (AL rfl (AL rfl (AK rfl (AB rfl ?_)))))))
      repeat refine nx rfl ?_
      refine AA (AF rfl (Blk.cell (by assumption) (by rfl)) ?_)
      refine Au (k := 1) rfl rfl rfl (by omega) ?_
      refine Ao (L := [x0, x1, x2, x3, x4]) rfl rfl hcl ?_
      refine AU (cs := [x0, x1, x2, x3, x4]) rfl rfl rfl hfx.one b2 (by simp [zero5]) (fun w9 p9 => ?_)
      repeat refine nx rfl ?_
      exact A2 rfl rfl rfl p9.blk.cells ⟨e4.keep p9.keep (by simp), (hfx.unm p9.keep (fun y hy hm => by rw [List.mem_singleton] at hm; omega)).mono fun y hy => ⟨by omega, hy.2⟩⟩
     | false =>
      by_cases hyo : y.op = 2
      ·rw [if_pos (.inr hyo)] at hco
       rw [hco]
       (refine AB rfl (AE rfl (AF rfl (Blk.cell (by assumption) (by rfl)) ?_)) <;> refine AE rfl (Aq rfl rfl (by omega) (by omega) (AE rfl (AD rfl (AE rfl (AF rfl (by assumption) ?_))))) <;> refine AE rfl (Ai rfl rfl (by omega) (AJ rfl (AB rfl ?_))))
       repeat refine nx rfl ?_
       refine AA (AF rfl (Blk.cell (by assumption) (by rfl)) ?_)
       refine Au (k := 1) rfl rfl rfl (by omega) ?_
       refine Ao (L := [x0, x1, x2, x3, x4]) rfl rfl hcl ?_
       refine AU (cs := [x0, x1, x2, x3, x4]) rfl rfl rfl hfx.one b2 (by simp [zero5]) (fun w9 p9 => ?_)
       repeat refine nx rfl ?_
       exact A2 rfl rfl rfl p9.blk.cells ⟨e4.keep p9.keep (by simp), (hfx.unm p9.keep (fun y hy hm => by rw [List.mem_singleton] at hm; omega)).mono fun y hy => ⟨by omega, hy.2⟩⟩
      ·rw [if_neg (fun h => h.elim (fun h => by rw [hic] at h; cases h) hyo)] at hco
       (refine AB rfl (AE rfl (AF rfl (Blk.cell (by assumption) (by rfl)) ?_)) <;> refine AE rfl (Aq rfl rfl (by omega) (by omega) (AE rfl (AD rfl (AE rfl (AF rfl (by assumption) ?_))))) <;> refine AE rfl (AT rfl rfl (by omega) (AJ rfl (AB rfl ?_))))
       repeat first | refine nx rfl ?_ | refine nf rfl ?_
       exact A0 () ⟨rfl, rfl, rfl, trivial⟩ ⟨rfl, hco⟩
    ·by_cases h10 : op = 10
     ·subst h10
      have hl2 : args.length = 2 := by simpa [A8] using har
      obtain ⟨y, hy, hgy⟩ := hgk 0 (by omega)
      obtain ⟨hpy, _⟩ := hS4.el hy
      obtain ⟨x, hx, hgx⟩ := hgk 1 (by omega)
      obtain ⟨hp, x0, x1, x2, x3, x4, hcl, hfx⟩ := hS4.el hx
      have hco := C3 nm v l
      rw [hgx, hgy] at hco
      have qy := hpy.opc
      refine AA (AT rfl rfl (by omega) (AC (AB rfl ?_)))
      repeat first | refine nx rfl ?_ | refine nf rfl ?_
      refine AA (AT rfl rfl (by omega) (AC (AB rfl ?_)))
      repeat first | refine nx rfl ?_ | refine nf rfl ?_
      refine AA (AT rfl rfl (by omega) (AC (AB rfl ?_)))
      repeat first | refine nx rfl ?_ | refine nf rfl ?_
      refine AA (AT rfl rfl (by omega) (AC (AB rfl ?_)))
      repeat first | refine nx rfl ?_ | refine nf rfl ?_
      refine AA (Ai rfl rfl (by omega) (AC (AB rfl ?_)))
      repeat refine nx rfl ?_
      refine AA (Bq rfl ?_)
      refine BO (v1 := []) (v2 := [pt c3]) (vs := [.int .i64 ((1 : Nat) : Int)]) rfl (const_ok w4 c3 g 0 _ _ l 1 x _ b3 hp (by omega)) rfl ?_
      rintro _ w4 ⟨rfl, rfl⟩
      cases hic : Bo x with
      | true =>
       rw [if_pos (.inl hic)] at hco
       rw [hco]
       refine AB rfl (AL rfl (AL rfl (AL rfl (AL rfl (AL rfl (AK rfl (AB rfl ?_)))))))
       repeat refine nx rfl ?_
       refine AA (AF rfl (Blk.cell (by assumption) (by rfl)) ?_)
       refine Au (k := 1) rfl rfl rfl (by omega) ?_
       refine Ao (L := [x0, x1, x2, x3, x4]) rfl rfl hcl ?_
       refine AU (cs := [x0, x1, x2, x3, x4]) rfl rfl rfl hfx.one b2 (by simp [zero5]) (fun w9 p9 => ?_)
       repeat refine nx rfl ?_
       exact A2 rfl rfl rfl p9.blk.cells ⟨e4.keep p9.keep (by simp), (hfx.unm p9.keep (fun y hy hm => by rw [List.mem_singleton] at hm; omega)).mono fun y hy => ⟨by omega, hy.2⟩⟩
      | false =>
       by_cases hyo : y.op = 1
       ·rw [if_pos (.inr hyo)] at hco
        rw [hco]
        (refine AB rfl (AE rfl (AF rfl (Blk.cell (by assumption) (by rfl)) ?_)) <;> refine AE rfl (Aq rfl rfl (by omega) (by omega) (AE rfl (AD rfl (AE rfl (AF rfl (by assumption) ?_))))) <;> refine AE rfl (Ai rfl rfl (by omega) (AJ rfl (AB rfl ?_))))
        repeat refine nx rfl ?_
        refine AA (AF rfl (Blk.cell (by assumption) (by rfl)) ?_)
        refine Au (k := 1) rfl rfl rfl (by omega) ?_
        refine Ao (L := [x0, x1, x2, x3, x4]) rfl rfl hcl ?_
        refine AU (cs := [x0, x1, x2, x3, x4]) rfl rfl rfl hfx.one b2 (by simp [zero5]) (fun w9 p9 => ?_)
        repeat refine nx rfl ?_
        exact A2 rfl rfl rfl p9.blk.cells ⟨e4.keep p9.keep (by simp), (hfx.unm p9.keep (fun y hy hm => by rw [List.mem_singleton] at hm; omega)).mono fun y hy => ⟨by omega, hy.2⟩⟩
       ·rw [if_neg (fun h => h.elim (fun h => by rw [hic] at h; cases h) hyo)] at hco
        (refine AB rfl (AE rfl (AF rfl (Blk.cell (by assumption) (by rfl)) ?_)) <;> refine AE rfl (Aq rfl rfl (by omega) (by omega) (AE rfl (AD rfl (AE rfl (AF rfl (by assumption) ?_))))) <;> refine AE rfl (AT rfl rfl (by omega) (AJ rfl (AB rfl ?_))))
        repeat first | refine nx rfl ?_ | refine nf rfl ?_
        exact A0 () ⟨rfl, rfl, rfl, trivial⟩ ⟨rfl, hco⟩
     ·refine AA (AT rfl rfl (by omega) (AC (AB rfl ?_)))
      repeat first | refine nx rfl ?_ | refine nf rfl ?_
      refine AA (AT rfl rfl (by omega) (AC (AB rfl ?_)))
      repeat first | refine nx rfl ?_ | refine nf rfl ?_
      refine AA (AT rfl rfl (by omega) (AC (AB rfl ?_)))
      repeat first | refine nx rfl ?_ | refine nf rfl ?_
      refine AA (AT rfl rfl (by omega) (AC (AB rfl ?_)))
      repeat first | refine nx rfl ?_ | refine nf rfl ?_
      refine AA (AT rfl rfl (by omega) (AC (AB rfl ?_)))
      repeat first | refine nx rfl ?_ | refine nf rfl ?_
      exact A0 () ⟨rfl, rfl, rfl, trivial⟩ ⟨rfl, canonOp_E h56 h8 h9 h10 nm v l⟩
 rintro _ W f5 ⟨rfl, hres⟩
 rw [hres]
 repeat refine nx rfl ?_
 refine Ad (.read 0 (.read 1 (.read 2 (.read 3 (.read 4 (.read 5 (.read 6 (.read 7 (.read 8 (.read 9 (.read 10 (.read 11 (.read 12 (.read 13 (.alt 14 .done .stop))))))))))))))) Ax (by kernel_rfl) (fun wd kd ed => ⟨fun V => Keep [w.heap.size] wd V, ?_, ?_⟩)
 ·exact Keep.refl _ _
 have s0 : ∀ V, Keep [w.heap.size] wd V → V.cell? ⟨b, o + 0, none⟩ = some (.int .i64 op) := fun V e => e.cell (kd.cell q04 (by simp)) (by simp; omega)
 have s1 : ∀ V, Keep [w.heap.size] wd V → V.cell? ⟨b, o + 1, none⟩ = some (An nm) := fun V e => e.cell (kd.cell q14 (by simp)) (by simp; omega)
 have s2 : ∀ V, Keep [w.heap.size] wd V → V.cell? ⟨b, o + 2, none⟩ = some (.int .i64 v) := fun V e => e.cell (kd.cell q24 (by simp)) (by simp; omega)
 have s3 : ∀ V, Keep [w.heap.size] wd V → V.cell? ⟨c3, 0, none⟩ = some (.slice (some ⟨g, 0, none⟩) args.length args.length) := fun V e => e.cell ((b3.keep kd (by simp)).cell rfl) (by simp; omega)
 (refine D_R rfl rfl (fun W hW => AP rfl Z3) (D_R rfl rfl (fun W hW => AH rfl Z3) (D_R rfl rfl (fun W hW => AD rfl Z3) (D_R rfl rfl (fun W hW => AF rfl (s0 W hW) Z3) (D_R rfl rfl (fun W hW => AP rfl Z3) (D_R rfl rfl (fun W hW => AH rfl Z3) (D_R rfl rfl (fun W hW => AD rfl Z3) (D_R rfl rfl (fun W hW => AF rfl (s1 W hW) Z3) (D_R rfl rfl (fun W hW => AP rfl Z3) (D_R rfl rfl (fun W hW => AH rfl Z3) (D_R rfl rfl (fun W hW => AD rfl Z3) (D_R rfl rfl (fun W hW => AF rfl (s2 W hW) Z3) (D_R rfl rfl (fun W hW => AF rfl (s3 W hW) Z3) ?_)))))))))))) <;> (apply D_R rfl rfl; (intro W hW; refine BE (by rfl) (by rfl) ?_; exact Z3)))
 refine D_E rfl ?_
 refine AU (cs := [.int .i64 op, An nm, .int .i64 v, .int .i64 0, .slice (some ⟨g, 0, none⟩) args.length args.length]) rfl rfl rfl (Ap rfl) (b2.keep kd (by simp)) (by simp [zero5]) (fun w9 p9 => ?_)
 refine AO ⟨_, fun _ e => e, p9.keep, ?_⟩
 refine Ah ?_
 have zd := kd.size
 have hS9 := (hS4.unm kd (fun _ _ => by simp)).unm p9.keep (fun y hy hm => by rw [List.mem_singleton] at hm; omega)
 obtain ⟨a9, c9, L9, e9, hSl9, hR9⟩ := hS9
 rw [hml] at hSl9 e9
 have hF9 : FsAt (fun b => w1.heap.size ≤ b ∧ Unm w9 b) w9 L9 l := ⟨hR9.1, fun c hc => by
  obtain ⟨i, hi⟩ := List.getElem?_of_mem hc
  have hil : i < l.length := by rw [← hR9.1]; exact (List.getElem?_eq_some_iff.1 hi).1
  exact (hR9.2 i c _ hi (List.getElem?_eq_getElem hil)).1, fun i c x hc hx => (hR9.2 i c x hc hx).2⟩
 rw [← hml] at hSl9
 have hfin := FAt.node op nm v 0 hSl9 hF9
 rw [hml] at hfin
 repeat refine nx rfl ?_
 exact A2 rfl rfl rfl p9.blk.cells ⟨(e4.trans kd).keep p9.keep (by simp), hfin.mono fun y hy => ⟨by omega, hy.2⟩⟩
end Go.Proofs.YtkhhjdjmhbdjfaaGreatDoor
namespace Go.Proofs.YtkhhjdjmhbdjfaaGreatDoor
open Go.RowKit
set_option linter.unusedVariables false
variable {mk : Prop} [MK mk]
theorem past_of_pst {op v b : Int} {nm : List UInt8} {args : List Fml} {i : Bool} (h : A9 i (.mk op nm v b args) = true) (hp : op = 15 ∨ op = 16 ∨ op = 17) : Bv (.mk op nm v b args) = true := by
 obtain ⟨_, _, _, h4⟩ := BS h
 have e : (i || pstB op) = true := by rcases hp with rfl | rfl | rfl <;> cases i <;> rfl
 rw [e] at h4
 rw [Bv, pastL_of fun a ha => bare_past a (h4 a ha)]
 rcases hp with rfl | rfl | rfl <;> rfl
theorem raged_ok (w0 : World) (r : Nat) (S : List Sgn) (x : Int) (hR : Rdr w0 r S x) : ∀ (n : Nat) (w : World) (b o : Nat) (f : Fml) (i : Bool), dpF f ≤ n → szF f ≤ 1000 → Ext w0 w → PF As w b o f → A9 i f = true → isB (knS S) f = true →
  Fn Tryz.prog 117 [pt r, .pointer (some ⟨b, o, none⟩)] w fun u w' => Ext w w' ∧ FAt (fun b => w.heap.size ≤ b) w' u (CG (vlS S x) f) := by
 have hnow := rnow_ok w0 r S x hR
 obtain ⟨X, hX⟩ : ∃ X, X = vlS S x := ⟨_, rfl⟩
 rw [← hX] at hnow ⊢
 intro n
 induction n with
 | zero => intro w b o f i hd; rw [Bd] at hd; omega
 | succ n ih =>
 intro w b o f i hd hz e0 hf hb hk
 have hdF : dpF f ≤ n + 1 := hd
 have hpp := @past_of_pst
 have hfo := hf
 have hbo := hb
 have hko := hk
 obtain ⟨op, nm, vl, bd, args⟩ := f
 obtain ⟨hlo, hsh, _, hbl⟩ := BS hb
 have hba := Bk hsh
 obtain ⟨hk3, hkl⟩ := is_iff.1 hk
 have hla := CQ args
 rw [Bd] at hd
 rw [BW] at hz
 simp only [Fml.args] at hd hz
 rw [aged_eq]
 refine AR Tryz.func117 rfl Tryz.ntmps117 (Nat.le_of_ble_eq_true rfl) (by kernel_rfl) ?_
 repeat refine nx rfl ?_
 (refine AA ?_; refine Ar (fun w1 n1 => ?_))
 repeat refine nx rfl ?_
 have z1 := n1.size
 have hf1 := hf.keep n1.keep (fun _ _ => by simp)
 obtain ⟨aa, cc, _, q0, q1, q2, q3, q4, _⟩ := hf1.all
 refine Ad (.read 0 (.read 1 (.read 2 (.read 3 (.read 4 (.read 5 (.read 6 (.read 7 (.read 8 (.read 9 (.read 10 (.read 11 (.read 12 (.alt 13 (.alt 14 .done .stop) .stop)))))))))))))) Ax (by kernel_rfl) (fun wd kd ed => ⟨Ext wd, ?_, ?_⟩)
 ·exact Ext.refl _
 have s0 : ∀ V, Ext wd V → V.cell? ⟨b, o + 0, none⟩ = some (.int .i64 op) := fun V e => (kd.trans e).cell q0 (by simp)
 have s1 : ∀ V, Ext wd V → V.cell? ⟨b, o + 1, none⟩ = some (An nm) := fun V e => (kd.trans e).cell q1 (by simp)
 have s2 : ∀ V, Ext wd V → V.cell? ⟨b, o + 2, none⟩ = some (.int .i64 vl) := fun V e => (kd.trans e).cell q2 (by simp)
 (refine D_R rfl rfl (fun W hW => AP rfl Z3) (D_R rfl rfl (fun W hW => AH rfl Z3) (D_R rfl rfl (fun W hW => AD rfl Z3) (D_R rfl rfl (fun W hW => AF rfl (s0 W hW) Z3) (D_R rfl rfl (fun W hW => AP rfl Z3) (D_R rfl rfl (fun W hW => AH rfl Z3) (D_R rfl rfl (fun W hW => AD rfl Z3) (D_R rfl rfl (fun W hW => AF rfl (s1 W hW) Z3) (D_R rfl rfl (fun W hW => AP rfl Z3) (D_R rfl rfl (fun W hW => AH rfl Z3) (D_R rfl rfl (fun W hW => AD rfl Z3) (D_R rfl rfl (fun W hW => AF rfl (s2 W hW) Z3) ?_))))))))))) <;> (apply D_R rfl rfl; (intro W hW; refine BE (by rfl) (by rfl) ?_; exact Z3)))
 refine D_E rfl ?_
 refine Ar (L := zero5) (fun w2 n2 => ?_)
 refine AO ⟨Ext wd, fun _ e => e, n2.keep, ?_⟩
 refine D_E rfl ?_
 refine AU (cs := [.int .i64 op, An nm, .int .i64 vl, .int .i64 0, .slice none 0 0]) rfl rfl rfl (Ap rfl) n2.blk (by simp [zero5]) (fun w3 p3 => ?_)
 refine AO ⟨Ext wd, fun _ e => e, n2.keep.keep p3.keep (by simp), ?_⟩
 refine Ah ?_
 clear s0 s1 s2 q0 q1 q2 q3 q4
 have z2 := n2.size
 have z3 := p3.size
 have zd := kd.size
 have b3 : Blk w3 wd.heap.size 25 [.int .i64 op, An nm, .int .i64 vl, .int .i64 0, .slice none 0 0] := p3.blk
 have k23 : Ext wd w3 := n2.keep.keep p3.keep (by simp)
 have k13 : Ext w1 w3 := kd.trans k23
 have k3 : Ext w w3 := n1.keep.trans k13
 have b4 : Blk w3 w.heap.size 25 zero5 := n1.blk.keep k13 (by simp)
 have hf3 := hf.keep k3 (fun _ _ => by simp)
 have hfw := hf
 have q0 := hf3.opc
 obtain ⟨aa3, cc3, _, qa3, hel3⟩ := hf3.arg
 simp only [Fml.op, Fml.args] at q0 qa3 hel3
 obtain ⟨c5, hc5⟩ : ∃ c5, c5 = wd.heap.size := ⟨_, rfl⟩
 rw [← hc5] at b3 ⊢
 have hc5w : w1.heap.size ≤ c5 := by omega
 have hc5l : c5 < w3.heap.size := b3.lt
 clear hf1 n2 p3 k23 k13 n1
 obtain ⟨av, hav⟩ : ∃ av, av = agedV X op vl ((args.map (BH X)).getD 0 false) (BH X (.mk op nm vl bd args)) := ⟨_, rfl⟩
 rw [← hav]
 repeat refine nx rfl ?_
 refine AA (AC (AB rfl ?_))
 repeat refine nx rfl ?_
 (refine AA (AP rfl (AH rfl (AD rfl (AF rfl (by assumption) ?_)))) <;> refine AO ?_)
 refine Q_then ?_
 refine Cn (α := Bool × Int) (fun y => [(0, pt r), (1, .pointer (some ⟨b, o, none⟩)), (4, pt w.heap.size), (5, pt c5), (6, .bool y.1)]) (fun y W => Ext w W ∧ (if y.1 then 1 else y.2) = av ∧ Blk W c5 25 [.int .i64 op, An nm, .int .i64 y.2, .int .i64 0, .slice none 0 0] ∧ Blk W w.heap.size 25 zero5) ?_ ?_
 ·by_cases h15 : op = 15
  ·subst h15
   have hl1 : args.length = 1 := by simpa [A8] using hba
   obtain ⟨a, ha⟩ := Ck hl1
   have ham : a ∈ args := by rw [ha]; simp
   obtain ⟨b', o', rfl, hfa⟩ := hel3 0 a (by rw [ha]; rfl)
   have hbt := hbl a ham
   simp only [show ∀ i, (i || pstB 15) = true from fun i => by cases i <;> rfl] at hbt
   repeat refine nx rfl ?_
   refine AA (Ai rfl rfl (by omega) (AC (AB rfl ?_)))
   repeat refine nx rfl ?_
   (refine AA (AP rfl (AP rfl (AH rfl (AD rfl (AF rfl (by assumption) ?_))))) <;> refine Aq rfl rfl (by omega) (by omega) ?_)
   refine AQ (hnow n w3 b' _ a true (by have := Bp ham; omega) (e0.trans k3) hfa hbt (bare_past a hbt) (hkl a ham)) rfl ?_
   rintro _ w4 ⟨rfl, k4⟩
   refine AD rfl ?_
   refine Aa (v := .int .i64 0) rfl rfl rfl (b3.keep k4 (by simp)) (by simp) (fun w5 p5 => ?_)
   refine AC (AB rfl ?_)
   repeat refine nx rfl ?_
   exact A0 (BH X a, 0) ⟨rfl, rfl, rfl, rfl, rfl, trivial⟩ ⟨(k3.trans k4).keep p5.keep (by simp; omega), by rw [hav, ha]; rfl, p5.blk, (b4.keep k4 (by simp)).keep p5.keep (by simp; omega)⟩
  ·by_cases h67 : op = 16 ∨ op = 17
   ·have hcall := hnow (n + 1) w3 b o (.mk op nm vl bd args) i hdF (e0.trans k3) hf3 hbo (hpp hbo (.inr h67)) hko
    have hav' : av = bitI (BH X (.mk op nm vl bd args)) := by rw [hav]; unfold agedV; rw [if_neg h15, if_pos h67]
    repeat refine nx rfl ?_
    refine AA (AT rfl rfl (by omega) (AC (AB rfl ?_)))
    repeat first | refine nx rfl ?_ | refine nf rfl ?_
    rcases h67 with rfl | rfl
    ·refine AA (Ai rfl rfl (by omega) (AC (AB rfl ?_)))
     repeat refine nx rfl ?_
     refine AA (AP rfl (AP rfl ?_))
     refine AQ hcall rfl ?_
     rintro _ w4 ⟨rfl, k4⟩
     refine AD rfl ?_
     refine Aa (v := .int .i64 0) rfl rfl rfl (b3.keep k4 (by simp)) (by simp) (fun w5 p5 => ?_)
     refine AC (AB rfl ?_)
     repeat refine nx rfl ?_
     exact A0 (BH X (.mk 16 nm vl bd args), 0) ⟨rfl, rfl, rfl, rfl, rfl, trivial⟩ ⟨(k3.trans k4).keep p5.keep (by simp; omega), hav'.symm, p5.blk, (b4.keep k4 (by simp)).keep p5.keep (by simp; omega)⟩
    ·refine AA (AT rfl rfl (by omega) (AC (AB rfl ?_)))
     repeat first | refine nx rfl ?_ | refine nf rfl ?_
     refine AA (Ai rfl rfl (by omega) (AC (AB rfl ?_)))
     repeat refine nx rfl ?_
     refine AA (AP rfl (AP rfl ?_))
     refine AQ hcall rfl ?_
     rintro _ w4 ⟨rfl, k4⟩
     refine AD rfl ?_
     refine Aa (v := .int .i64 0) rfl rfl rfl (b3.keep k4 (by simp)) (by simp) (fun w5 p5 => ?_)
     refine AC (AB rfl ?_)
     repeat refine nx rfl ?_
     exact A0 (BH X (.mk 17 nm vl bd args), 0) ⟨rfl, rfl, rfl, rfl, rfl, trivial⟩ ⟨(k3.trans k4).keep p5.keep (by simp; omega), hav'.symm, p5.blk, (b4.keep k4 (by simp)).keep p5.keep (by simp; omega)⟩
   ·have hav' : av = vl := by rw [hav]; exact Cg X _ _ _ (by omega)
    repeat refine nx rfl ?_
    refine AA (AT rfl rfl (by omega) (AC (AB rfl ?_)))
    repeat first | refine nx rfl ?_ | refine nf rfl ?_
    refine AA (AT rfl rfl (by omega) (AC (AB rfl ?_)))
    repeat first | refine nx rfl ?_ | refine nf rfl ?_
    refine AA (AT rfl rfl (by omega) (AC (AB rfl ?_)))
    repeat first | refine nx rfl ?_ | refine nf rfl ?_
    exact A0 (false, vl) ⟨rfl, rfl, rfl, rfl, rfl, trivial⟩ ⟨k3, hav'.symm, b3, b4⟩
 rintro ⟨hh, y⟩ W3 f3 ⟨eW3, hyv, bW3, zW3⟩
 simp only at hyv bW3
 repeat refine nx rfl ?_
 refine AA (AB rfl (AO ?_))
 refine Q_then ?_
 refine Cn (α := Unit) (fun _ => [(0, pt r), (1, .pointer (some ⟨b, o, none⟩)), (4, pt w.heap.size), (5, pt c5)]) (fun _ W => Ext w W ∧ Blk W c5 25 [.int .i64 op, An nm, .int .i64 av, .int .i64 0, .slice none 0 0] ∧ Blk W w.heap.size 25 zero5) ?_ ?_
 ·cases hh with
  | true =>
   repeat refine nx rfl ?_
   refine AA (AD rfl ?_)
   refine Aa (v := .int .i64 1) rfl rfl rfl bW3 (by simp) (fun w5 p5 => ?_)
   repeat refine nx rfl ?_
   refine A0 () ⟨rfl, rfl, rfl, rfl, trivial⟩ ⟨eW3.keep p5.keep (by simp; omega), ?_, zW3.keep p5.keep (by simp; omega)⟩
   rw [← hyv]; exact p5.blk
  | false =>
   repeat first | refine nx rfl ?_ | refine nf rfl ?_
   refine A0 () ⟨rfl, rfl, rfl, rfl, trivial⟩ ⟨eW3, ?_, zW3⟩
   rw [← hyv]; exact bW3
 rintro _ W4 f4 ⟨k4, b5, b4'⟩
 clear b3 b4 q0 hf3 k3 hc5l eW3 bW3 zW3 hyv hel3 qa3
 have hf4 := hfw.keep k4 (fun _ _ => by simp)
 obtain ⟨aa, cc, _, hargs, _⟩ := hf4.arg
 simp only [Fml.args] at hargs
 repeat refine nx rfl ?_
 (refine AA (AP rfl (AH rfl (AD rfl (AF rfl (by assumption) ?_)))) <;> refine AZ rfl (AG rfl ?_))
 repeat refine nx rfl ?_
 refine A3 (α := Nat × Value × List (List Value)) (fun x => [(0, pt r), (1, .pointer (some ⟨b, o, none⟩)), (4, pt w.heap.size), (5, pt c5), (48, .int .i64 (args.length : Int)), (49, .int .i64 (x.1 : Int))])
  (fun x W => x.1 ≤ args.length ∧ Ext w W ∧ Bld w1 W c5 op nm av 0 ((args.take x.1).map (CG X)) x.2.1 x.2.2 ∧ Blk W w.heap.size 25 zero5 ∧ c5 < W.heap.size) (fun x => args.length - x.1) (0, .slice none 0 0, []) ⟨rfl, rfl, rfl, rfl, rfl, rfl, trivial⟩ ⟨by simp, k4, by simpa using Bld.start b5, b4', b5.lt⟩ ?_
 rintro ⟨k, v, L⟩ W fr ⟨hk, kW, bW, bz, hcW⟩
 simp only at hk kW bW bz hcW
 repeat refine nx rfl ?_
 by_cases hlt : k < args.length
 ·refine AA (At rfl rfl (by omega) ?_)
  repeat refine nx rfl ?_
  refine AA (AG rfl (AC (AG rfl ?_)))
  repeat refine nx rfl ?_
  obtain ⟨x, hx⟩ : ∃ x, args[k]? = some x := ⟨_, List.getElem?_eq_getElem hlt⟩
  have hfW := hfw.keep kW (fun _ _ => by simp)
  obtain ⟨aa, cc, _, hargs, hel⟩ := hfW.arg
  simp only [Fml.args] at hargs hel
  obtain ⟨b', o', rfl, hfx⟩ := hel k x hx
  refine Ad (.read 0 (.read 2 (.read 3 (.read 4 (.read 5 (.read 6 (.read 7 (.read 8 (.alt 1 (.alt 9 (.alt 10 (.alt 11 (.read 12 (.alt 13 .done .stop)) .stop) .stop) .stop) (.alt 9 (.alt 1 (.alt 10 (.alt 11 (.read 12 (.alt 13 .done .stop)) .stop) .stop) (.alt 10 (.alt 1 (.alt 11 (.read 12 (.alt 13 .done .stop)) .stop) .stop) .stop)) .stop)))))))))) Ax (by kernel_rfl) (fun wd kd ed => ⟨fun V => V.cell? ⟨b, o + 4, none⟩ = some (.slice (some ⟨b', o', none⟩) args.length cc), ?_, ?_⟩)
  ·exact kd.cell hargs (by simp)
  have ca : ∀ V : World, V.cell? ⟨b, o + 4, none⟩ = some (.slice (some ⟨b', o', none⟩) args.length cc) → V.cell? ⟨b, o + 4, none⟩ = some (.slice (some ⟨b', o', none⟩) args.length cc) := fun V e => e
  refine D_R rfl rfl (fun W hW => AD rfl Z3) (D_R rfl rfl (fun W hW => AP rfl Z3) (D_R rfl rfl (fun W hW => AP rfl Z3) (D_R rfl rfl (fun W hW => AH rfl Z3) (D_R rfl rfl (fun W hW => AD rfl Z3) (D_R rfl rfl (fun W hW => AF rfl (ca W hW) Z3) (D_R rfl rfl (fun W hW => AG rfl Z3) (D_R rfl rfl (fun W hW => Au rfl rfl rfl (by omega) Z3) ?_)))))))
  have hSd : wd.cell? ⟨b, o + 4, none⟩ = some (.slice (some ⟨b', o', none⟩) args.length cc) := kd.cell hargs (by simp)
  have bd' := bW.ext kd
  have hbw : b < w.heap.size := by have := hf.lt.1; exact this.2
  have zd := kd.size
  have hmx := List.mem_of_getElem? hx
  have hdx := Bp hmx
  have hzx := BY hmx
  have hgB : ∀ g, v.ownBlock = some g → g < wd.heap.size := fun g hg => (Aw bd'.own hg).2
  refine D_A rfl ?_ ?_
  ·refine AF rfl (bd'.blk.cell (o := 4) rfl) ?_
   refine AO ⟨_, fun _ h => h, hSd, ?_⟩
   refine D_E rfl ?_
   refine AQ (ih wd b' (o' + k * 5) x _ (by omega) (by omega) (e0.trans (kW.trans kd)) (hfx.keep kd (fun _ _ => by simp)) (hbl x hmx) (hkl x hmx)) rfl ?_
   rintro u8 w8 ⟨k8, f8⟩
   obtain ⟨cs, rfl, hcs, hone⟩ := f8.cells
   obtain ⟨x0, x1, x2, x3, x4, rfl⟩ := A7 hcs
   have hS8 := k8.cell hSd (by simp)
   have b8 := bd'.ext k8
   have z8 := k8.size
   refine AO ⟨_, fun _ h => h, hS8, ?_⟩
   refine D_E rfl ?_
   refine Ab (out := [x0, x1, x2, x3, x4]) rfl (by omega) (by rw [CV]; rfl) (fun w9 n9 => ?_)
   have hS9 := n9.keep.cell hS8 (by simp)
   have b9 := b8.ext n9.keep
   refine AO ⟨_, fun _ h => h, hS9, ?_⟩
   refine D_E rfl ?_
   have o9 := n9.own (n := 1) (size := 5) rfl (by unfold maxLen; omega) (Nat.le_refl _)
   have z9 := n9.size
   have hlen : ((args.take k).map (CG X)).length = k := by simp; omega
   refine BD (ok := As) (v := v) (sv := .slice (some ⟨w8.heap.size, 0, none⟩) 1 1) rfl rfl b9.own (Az o9 fun _ _ => trivial) (by omega) rfl rfl hone (by omega) (by omega) (by omega) (fun v10 w10 a10 => ?_)
   have z10 := a10.keep.size
   have hS10 := a10.keep.cell hS9 (fun hx => by have := Aw b9.own (Option.mem_toList.1 hx); omega)
   refine AO ⟨_, fun _ h => h, hS10, ?_⟩
   ((apply D_R rfl rfl; (intro W hW; refine AD rfl ?_; exact AO ⟨rfl, rfl, rfl⟩)))
   refine D_E rfl ?_
   have hm10 : c5 ∉ v.ownBlock.toList := fun hx => b9.ne _ (Option.mem_toList.1 hx) rfl
   refine Aa (v := v10) rfl rfl (own_oneC a10.own) (b9.blk.keep a10.keep hm10) (by simp) (fun w11 p11 => ?_)
   refine AO ⟨_, fun _ h => h, p11.keep.cell hS10 (by simp; omega), ?_⟩
   refine Ah ?_
   obtain ⟨hB, kB⟩ := b8.push (B := wd.heap.size) ⟨by omega, by omega⟩ hgB (by omega) (by omega) f8 rfl n9 a10 p11 rfl
   have kD : Ext w w11 := ((kW.trans kd).trans k8).keep kB (fun y hy => by
    rcases List.mem_cons.1 hy with rfl | hy
    ·omega
    ·have := (Aw b8.own (Option.mem_toList.1 hy)).1; omega)
   repeat refine nx rfl ?_
   (refine AA (Av rfl rfl (by first | exact AV (by omega) (by omega) | exact AY (by omega) (by omega) | exact AW (by omega) (by omega)) ?_) <;> refine AG rfl ?_)
   repeat refine nx rfl ?_
   refine ⟨(k + 1, v10, L ++ [[x0, x1, x2, x3, x4]]), ⟨rfl, ⟨rfl, rfl, rfl, rfl, rfl, ?_, trivial⟩, ⟨by simp only; omega, kD, ?_, (bz.keep (kd.trans k8) (by simp)).keep kB ?_, by have := kB.size; omega⟩⟩, by simp only; omega⟩
   ·show Value.int .i64 ((k : Int) + 1) = _
    rw [Int.natCast_add]; rfl
   ·simp only
    rw [List.take_add_one, hx, List.map_append]
    exact hB
   ·intro hy
    rcases List.mem_cons.1 hy with e | hy
    ·omega
    ·have := (Aw bW.own (Option.mem_toList.1 hy)).1
     omega
  refine D_E rfl ?_
  refine AQ (ih wd b' (o' + k * 5) x _ (by omega) (by omega) (e0.trans (kW.trans kd)) (hfx.keep kd (fun _ _ => by simp)) (hbl x hmx) (hkl x hmx)) rfl ?_
  rintro u8 w8 ⟨k8, f8⟩
  obtain ⟨cs, rfl, hcs, hone⟩ := f8.cells
  obtain ⟨x0, x1, x2, x3, x4, rfl⟩ := A7 hcs
  have hS8 := k8.cell hSd (by simp)
  have b8 := bd'.ext k8
  have z8 := k8.size
  refine AO ⟨_, fun _ h => h, hS8, ?_⟩
  refine D_A rfl ?_ ?_
  ·refine AF rfl (b8.blk.cell (o := 4) rfl) ?_
   refine AO ⟨_, fun _ h => h, hS8, ?_⟩
   refine D_E rfl ?_
   refine Ab (out := [x0, x1, x2, x3, x4]) rfl (by omega) (by rw [CV]; rfl) (fun w9 n9 => ?_)
   have hS9 := n9.keep.cell hS8 (by simp)
   have b9 := b8.ext n9.keep
   refine AO ⟨_, fun _ h => h, hS9, ?_⟩
   refine D_E rfl ?_
   have o9 := n9.own (n := 1) (size := 5) rfl (by unfold maxLen; omega) (Nat.le_refl _)
   have z9 := n9.size
   have hlen : ((args.take k).map (CG X)).length = k := by simp; omega
   refine BD (ok := As) (v := v) (sv := .slice (some ⟨w8.heap.size, 0, none⟩) 1 1) rfl rfl b9.own (Az o9 fun _ _ => trivial) (by omega) rfl rfl hone (by omega) (by omega) (by omega) (fun v10 w10 a10 => ?_)
   have z10 := a10.keep.size
   have hS10 := a10.keep.cell hS9 (fun hx => by have := Aw b9.own (Option.mem_toList.1 hx); omega)
   refine AO ⟨_, fun _ h => h, hS10, ?_⟩
   ((apply D_R rfl rfl; (intro W hW; refine AD rfl ?_; exact AO ⟨rfl, rfl, rfl⟩)))
   refine D_E rfl ?_
   have hm10 : c5 ∉ v.ownBlock.toList := fun hx => b9.ne _ (Option.mem_toList.1 hx) rfl
   refine Aa (v := v10) rfl rfl (own_oneC a10.own) (b9.blk.keep a10.keep hm10) (by simp) (fun w11 p11 => ?_)
   refine AO ⟨_, fun _ h => h, p11.keep.cell hS10 (by simp; omega), ?_⟩
   refine Ah ?_
   obtain ⟨hB, kB⟩ := b8.push (B := wd.heap.size) ⟨by omega, by omega⟩ hgB (by omega) (by omega) f8 rfl n9 a10 p11 rfl
   have kD : Ext w w11 := ((kW.trans kd).trans k8).keep kB (fun y hy => by
    rcases List.mem_cons.1 hy with rfl | hy
    ·omega
    ·have := (Aw b8.own (Option.mem_toList.1 hy)).1; omega)
   repeat refine nx rfl ?_
   (refine AA (Av rfl rfl (by first | exact AV (by omega) (by omega) | exact AY (by omega) (by omega) | exact AW (by omega) (by omega)) ?_) <;> refine AG rfl ?_)
   repeat refine nx rfl ?_
   refine ⟨(k + 1, v10, L ++ [[x0, x1, x2, x3, x4]]), ⟨rfl, ⟨rfl, rfl, rfl, rfl, rfl, ?_, trivial⟩, ⟨by simp only; omega, kD, ?_, (bz.keep (kd.trans k8) (by simp)).keep kB ?_, by have := kB.size; omega⟩⟩, by simp only; omega⟩
   ·show Value.int .i64 ((k : Int) + 1) = _
    rw [Int.natCast_add]; rfl
   ·simp only
    rw [List.take_add_one, hx, List.map_append]
    exact hB
   ·intro hy
    rcases List.mem_cons.1 hy with e | hy
    ·omega
    ·have := (Aw bW.own (Option.mem_toList.1 hy)).1
     omega
  refine D_E rfl ?_
  refine Ab (out := [x0, x1, x2, x3, x4]) rfl (by omega) (by rw [CV]; rfl) (fun w9 n9 => ?_)
  have hS9 := n9.keep.cell hS8 (by simp)
  have b9 := b8.ext n9.keep
  refine AO ⟨_, fun _ h => h, hS9, ?_⟩
  refine D_E rfl ?_
  refine AF rfl (b9.blk.cell (o := 4) rfl) ?_
  refine AO ⟨_, fun _ h => h, hS9, ?_⟩
  refine D_E rfl ?_
  have o9 := n9.own (n := 1) (size := 5) rfl (by unfold maxLen; omega) (Nat.le_refl _)
  have z9 := n9.size
  have hlen : ((args.take k).map (CG X)).length = k := by simp; omega
  refine BD (ok := As) (v := v) (sv := .slice (some ⟨w8.heap.size, 0, none⟩) 1 1) rfl rfl b9.own (Az o9 fun _ _ => trivial) (by omega) rfl rfl hone (by omega) (by omega) (by omega) (fun v10 w10 a10 => ?_)
  have z10 := a10.keep.size
  have hS10 := a10.keep.cell hS9 (fun hx => by have := Aw b9.own (Option.mem_toList.1 hx); omega)
  refine AO ⟨_, fun _ h => h, hS10, ?_⟩
  ((apply D_R rfl rfl; (intro W hW; refine AD rfl ?_; exact AO ⟨rfl, rfl, rfl⟩)))
  refine D_E rfl ?_
  have hm10 : c5 ∉ v.ownBlock.toList := fun hx => b9.ne _ (Option.mem_toList.1 hx) rfl
  refine Aa (v := v10) rfl rfl (own_oneC a10.own) (b9.blk.keep a10.keep hm10) (by simp) (fun w11 p11 => ?_)
  refine AO ⟨_, fun _ h => h, p11.keep.cell hS10 (by simp; omega), ?_⟩
  refine Ah ?_
  obtain ⟨hB, kB⟩ := b8.push (B := wd.heap.size) ⟨by omega, by omega⟩ hgB (by omega) (by omega) f8 rfl n9 a10 p11 rfl
  have kD : Ext w w11 := ((kW.trans kd).trans k8).keep kB (fun y hy => by
   rcases List.mem_cons.1 hy with rfl | hy
   ·omega
   ·have := (Aw b8.own (Option.mem_toList.1 hy)).1; omega)
  repeat refine nx rfl ?_
  (refine AA (Av rfl rfl (by first | exact AV (by omega) (by omega) | exact AY (by omega) (by omega) | exact AW (by omega) (by omega)) ?_) <;> refine AG rfl ?_)
  repeat refine nx rfl ?_
  refine ⟨(k + 1, v10, L ++ [[x0, x1, x2, x3, x4]]), ⟨rfl, ⟨rfl, rfl, rfl, rfl, rfl, ?_, trivial⟩, ⟨by simp only; omega, kD, ?_, (bz.keep (kd.trans k8) (by simp)).keep kB ?_, by have := kB.size; omega⟩⟩, by simp only; omega⟩
  ·show Value.int .i64 ((k : Int) + 1) = _
   rw [Int.natCast_add]; rfl
  ·simp only
   rw [List.take_add_one, hx, List.map_append]
   exact hB
  ·intro hy
   rcases List.mem_cons.1 hy with e | hy
   ·omega
   ·have := (Aw bW.own (Option.mem_toList.1 hy)).1
    omega
 ·refine AA (Aj rfl rfl (by omega) ?_)
  repeat first | refine nx rfl ?_ | refine nf rfl ?_
  rw [List.take_of_length_le (by omega)] at bW
  have bf := bW.blk
  refine AA ?_
  refine Ac rfl bf rfl ?_
  refine AU (cs := [.int .i64 op, An nm, .int .i64 av, .int .i64 0, v]) rfl rfl rfl ?_ bz (by simp [zero5]) (fun w5 p5 => ?_)
  ·intro u hu
   simp at hu
   rcases hu with rfl | rfl | rfl | rfl | rfl <;> first | rfl | exact own_oneC bW.own
  repeat refine nx rfl ?_
  exact A2 rfl rfl rfl p5.blk.cells ⟨kW.keep p5.keep (by simp), ((bW.fin.keep p5.keep (fun x hx hm => by have := hx.1; simp at hm; omega)).mono fun x hx => by have := hx.1; omega)⟩
end Go.Proofs.YtkhhjdjmhbdjfaaGreatDoor
