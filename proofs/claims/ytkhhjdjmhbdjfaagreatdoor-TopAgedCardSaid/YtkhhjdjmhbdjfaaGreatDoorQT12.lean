/- truth.axisOf. The laws of truth on rows of two: value, each, all, until, release. Until and release on rows of two. The functions of the table of truth. The rows of a formula: truth.axis.laws, row. The row of a formula: truth.axis.row. Conditions: none. -/
import Derived.Test.YtkhhjdjmhbdjfaaGreatDoorQT11

namespace Go.Proofs.YtkhhjdjmhbdjfaaGreatDoor
open Go.RowKit
set_option linter.unusedVariables false
theorem set_fill {α : Type} (A : List α) (z v : α) (n i : Nat) (hA : A.length = i) (hi : i < n) : (A ++ List.replicate (n - i) z).set i v = (A ++ [v]) ++ List.replicate (n - (i + 1)) z := by
 obtain ⟨m, hm⟩ : ∃ m, n - i = m + 1 := ⟨n - i - 1, by omega⟩
 rw [hm, List.replicate_succ, List.set_append_right _ _ (by omega), hA, Nat.sub_self, List.set_cons_zero, show n - (i + 1) = m by omega, List.append_assoc]
 rfl
def RwsAt (W : World) (B : Nat) (nb : Option Nat) (vs : List Value) (S : List Sgn) (xs : List Int) : Prop := vs.length = xs.length ∧ ∀ (k : Nat) (u : Value) (x : Int), vs[k]? = some u → xs[k]? = some x → ∃ g, u = .slice (some ⟨g, 0, none⟩) S.length S.length ∧ B ≤ g ∧ some g ≠ nb ∧ Blk W g 3 (valsC S x S.length)
theorem axisOf_ok (w : World) (sa : Option Addr) (sc : Nat) (S : List Sgn) (b o : Nat) (f : Fml) (c : List Value) (p q : Int) (hS : SlAt sgnR As w (.slice sa S.length sc) S) (hv : BG S = true) (hf : PF As w b o f) (hkf : okT (knS S) f = true) (hl : Las w c p q) (hp : 0 ≤ p ∧ p < Bm S) (hq : 0 ≤ q ∧ q < Bm S) (hK : KY w) (hN : 3 ≤ w.heap.size) :
  Fn Tryz.prog 93 [.slice sa S.length sc, .pointer (some ⟨b, o, none⟩), .agg c.toArray] w fun u w' => ∃ t, u = pt t ∧ Ext w w' ∧ Axs w' t S [p, q] := by
 obtain ⟨hn1, hn2⟩ := num_valid hv
 have h6 : S.length ≤ 6 := (CN hv).2.1
 have hl0 := hl
 obtain ⟨pb, po, pc, qb, qo, qc, rfl, h1, h2⟩ := hl
 refine AR Tryz.func93 rfl Tryz.ntmps93 (Nat.le_of_ble_eq_true rfl) (by kernel_rfl) ?_
 repeat refine nx rfl ?_
 (refine AA ?_; refine A5 (L := [.slice (some ⟨pb, po, none⟩) 1 pc, .slice (some ⟨qb, qo, none⟩) 1 qc]) rfl (fun w1 n1 => ?_))
 refine AC (AP rfl ?_)
 repeat refine nx rfl ?_
 have b1 := n1.blk
 have z1 := n1.size
 (refine AA (AM rfl (AD rfl (AF rfl (Blk.cell (by assumption) (by rfl)) ?_))) <;> refine AZ rfl (BE (by rfl) (by rfl) ?_))
 refine A5 (L := [.slice sa S.length sc, .slice none 0 0, .int .i64 1, .int .i64 0, .int .i64 0]) rfl (fun w2 n2 => ?_)
 refine AC (AP rfl ?_)
 repeat refine nx rfl ?_
 have z2 := n2.size
 have b12 := b1.keep n2.keep (by simp)
 have k2 : Ext w w2 := n1.keep.trans n2.keep
 refine AA ?_
 refine Ac rfl b12 rfl ?_
 (refine AD rfl (AF rfl (Blk.cell (by assumption) (by rfl)) ?_) <;> refine AZ rfl (AD rfl (AF rfl (Blk.cell (by assumption) (by rfl)) ?_)) <;> refine AZ rfl (Av rfl rfl (by first | exact AV (by omega) (by omega) | exact AY (by omega) (by omega) | exact AW (by omega) (by omega)) ?_))
 refine AQ (prefix_ok w2 _ p q (hl0.ext k2) ⟨hp.1, by omega⟩ ⟨hq.1, by omega⟩) rfl ?_
 rintro u w3 ⟨o3, k3⟩
 obtain ⟨pa, pac, rfl, hpl⟩ := own_ints o3
 obtain ⟨pg, pgo, e0, hc0⟩ := hpl 0 _ rfl
 obtain ⟨_, _, e1, hc1⟩ := hpl 1 _ rfl
 subst e0
 cases e1
 refine AZ rfl (AG rfl ?_)
 repeat refine nx rfl ?_
 have e3 := k2.trans k3
 have b13 := b12.keep k3 (by simp)
 have b23 := n2.blk.keep k3 (by simp)
 have z3 := k3.size
 have hpg : w2.heap.size ≤ pg := (Aw o3 rfl).1
 clear hpl o3
 have hcell : ∀ k, k < 2 → ∃ x, [p, q][k]? = some x ∧ 0 ≤ x ∧ x < Bm S ∧ w3.cell? ⟨pg, pgo + k, none⟩ = some (.int .i64 x) := fun k hk => by
  rcases (by omega : k = 0 ∨ k = 1) with rfl | rfl
  ·exact ⟨p, rfl, hp.1, hp.2, hc0⟩
  ·exact ⟨q, rfl, hq.1, hq.2, hc1⟩
 refine A3 (α := Nat × Value × List Value) (fun | (k, _, _) => [(0, .slice sa S.length sc), (1, .pointer (some ⟨b, o, none⟩)), (5, pt w.heap.size), (7, pt w1.heap.size), (26, .slice (some ⟨pg, pgo, none⟩) 2 pac), (27, .int .i64 2), (28, .int .i64 (k : Int))])
  (fun | (k, v, vs), W => k ≤ 2 ∧ Ext w W ∧ Keep [w1.heap.size] w3 W ∧ Blk W w1.heap.size 104 [.slice sa S.length sc, v, .int .i64 1, .int .i64 0, .int .i64 0] ∧ W.ownsRow w3.heap.size 26 1 v k vs ∧ RwsAt W w3.heap.size v.ownBlock vs S ([p, q].take k)) (fun | (k, _, _) => 2 - k) (0, .slice none 0 0, []) ⟨rfl, rfl, rfl, rfl, rfl, rfl, rfl, trivial⟩ ⟨by omega, e3, Keep.refl _ _, b23, ⟨rfl, .inl ⟨rfl, rfl⟩⟩, rfl, fun k u x h => by cases h⟩ ?_
 rintro ⟨k, v, vs⟩ W fr ⟨hk, kW, kW3, bW, oW, rW⟩
 have zW := kW3.size
 have lW := bW.lt
 have l23 := b23.lt
 have hvg : ∀ g, v.ownBlock = some g → w3.heap.size ≤ g ∧ g < W.heap.size := fun g hg => Aw oW hg
 have b1W := b13.keep kW3 (by simp; omega)
 repeat refine nx rfl ?_
 by_cases hlt : k < 2
 ·obtain ⟨x, hx, hx0, hx1, hcx⟩ := hcell k hlt
  have hcw := kW3.cell hcx (fun h => by simp at h; omega)
  refine AA (At rfl rfl (by omega) ?_)
  repeat refine nx rfl ?_
  (refine AA (BL rfl rfl rfl (by omega) (AF rfl (by assumption) ?_)) <;> refine AC (AG rfl ?_))
  repeat refine nx rfl ?_
  refine AA (AM rfl (AZ rfl ?_))
  refine W_make1 (n := S.length) rfl rfl rfl rfl rfl (by omega) (by omega) (fun wa na => ?_)
  refine AC (AM rfl ?_)
  repeat refine nx rfl ?_
  have za := na.size
  refine AA (AM rfl (AZ rfl (AG rfl ?_)))
  repeat refine nx rfl ?_
  have ka := na.keep
  have e1 : Ext w wa := kW.trans ka
  refine A3 (α := Nat) (fun i => [(0, .slice sa S.length sc), (1, .pointer (some ⟨b, o, none⟩)), (5, pt w.heap.size), (7, pt w1.heap.size), (9, .int .i64 x), (10, .slice (some ⟨W.heap.size, 0, none⟩) S.length S.length), (26, .slice (some ⟨pg, pgo, none⟩) 2 pac), (27, .int .i64 2), (28, .int .i64 (k : Int)), (36, .int .i64 (S.length : Int)), (37, .int .i64 (i : Int))])
   (fun i U => i ≤ S.length ∧ Ext W U ∧ Blk U W.heap.size 3 (valsC S x i ++ List.replicate (S.length - i) (.int .i64 0))) (fun i => S.length - i) 0 ⟨rfl, rfl, rfl, rfl, rfl, rfl, rfl, rfl, rfl, rfl, rfl, trivial⟩ ⟨by omega, ka, na.blk⟩ ?_
  rintro i U fi ⟨hi, kU, bU⟩
  repeat refine nx rfl ?_
  by_cases hil : i < S.length
  ·refine AA (At rfl rfl (by omega) ?_)
   repeat refine nx rfl ?_
   refine AA (AG rfl (AC (AG rfl ?_)))
   repeat refine nx rfl ?_
   have eU := kW.trans kU
   refine AA (AM rfl (AG rfl (AM rfl (AG rfl (AG rfl ?_)))))
   refine AQ (value_ok U _ S x i (hS.ext eU) (hK.keep eU (by simp)) (Nat.le_trans hN eU.size) hv hx0 hx1 hil) rfl ?_
   rintro _ U1 ⟨rfl, k1⟩
   have bU1 := bU.keep k1 (by simp)
   refine BL (k := i) rfl rfl rfl (by omega) ?_
   refine Aa (v := .int .i64 (Cr S x i)) rfl rfl rfl bU1 (by simp [valsC_len]; omega) (fun U2 p2 => ?_)
   repeat refine nx rfl ?_
   (refine AA (Av rfl rfl (by first | exact AV (by omega) (by omega) | exact AY (by omega) (by omega) | exact AW (by omega) (by omega)) ?_) <;> refine AG rfl ?_)
   repeat refine nx rfl ?_
   have bU2 := p2.blk
   rw [Nat.zero_add, set_fill _ _ _ _ _ (valsC_len S x i) hil, ← C5] at bU2
   refine ⟨i + 1, ⟨rfl, ⟨rfl, rfl, rfl, rfl, rfl, rfl, rfl, rfl, rfl, rfl, ?_, trivial⟩, ⟨by omega, (kU.trans k1).keep p2.keep (by simp), bU2⟩⟩, by omega⟩
   show Value.int .i64 ((i : Int) + 1) = _
   rw [Int.natCast_add]; rfl
  ·obtain rfl : i = S.length := by omega
   rw [Nat.sub_self, List.replicate_zero, List.append_nil] at bU
   refine AA (Aj rfl rfl (by omega) ?_)
   repeat first | refine nx rfl ?_ | refine nf rfl ?_
   have bWU := bW.keep kU (by simp)
   have oU := A4 oW kU
   have zU := kU.size
   have lU := bU.lt
   (refine AA (AP rfl (AP rfl (AH rfl (AD rfl (AF rfl (Blk.cell (by assumption) (by rfl)) ?_))))) <;> refine AM rfl ?_)
   refine W_buildSlice1 (out := [.slice (some ⟨W.heap.size, 0, none⟩) S.length S.length]) rfl (by omega) rfl rfl (fun U1 m1 => ?_)
   have oz := m1.own (n := 1) (size := 1) rfl (by unfold maxLen; omega) (Nat.le_refl _)
   have y1 := m1.size
   refine BD (ok := As) (v := v) rfl rfl (A4 oU m1.keep) (Az oz fun _ _ => trivial) (by omega) rfl rfl (Ap rfl) (by omega) (by omega) (by omega) (fun v4 U2 a4 => ?_)
   have hm : ∀ {b}, b ∈ v.ownBlock.toList → v.ownBlock = some b := fun hx => Option.mem_toList.1 hx
   have b2 := (bWU.keep m1.keep (by simp)).keep a4.keep (fun h => by have := hvg _ (hm h); omega)
   refine AH rfl (AD rfl ?_)
   refine Aa (v := v4) rfl rfl (C8 a4.own) b2 (by simp) (fun U3 p3 => ?_)
   repeat refine nx rfl ?_
   (refine AA (Av rfl rfl (by first | exact AV (by omega) (by omega) | exact AY (by omega) (by omega) | exact AW (by omega) (by omega)) ?_) <;> refine AG rfl ?_)
   repeat refine nx rfl ?_
   have zU2 := a4.keep.size
   have zU3 := p3.size
   have hv4 : ∀ g, v4.ownBlock = some g → v.ownBlock = some g ∨ g = U1.heap.size := fun g hg => by
    rcases a4.blk with e | e
    ·exact .inl (e ▸ hg)
    ·rw [e] at hg; exact .inr (Option.some.inj hg).symm
   have kk : Ext U U1 := m1.keep
   have kb : ∀ {g : Nat} {L : List Value}, Blk U g 3 L → w3.heap.size ≤ g → v.ownBlock ≠ some g → Blk U3 g 3 L := fun h hg hn => ((h.keep kk (by simp)).keep a4.keep (fun h => hn (hm h))).keep p3.keep (by simp; omega)
   have hxk : [p, q].take (k + 1) = [p, q].take k ++ [x] := by rw [List.take_add_one, hx]; rfl
   have hlk : vs.length = k := by rw [rW.1, List.length_take]; simp only [List.length_cons, List.length_nil]; omega
   refine ⟨(k + 1, v4, vs ++ [.slice (some ⟨W.heap.size, 0, none⟩) S.length S.length]), ⟨rfl, ⟨rfl, rfl, rfl, rfl, rfl, rfl, ?_, trivial⟩, ⟨by omega, ?_, ?_, p3.blk, ?_, ?_, ?_⟩⟩, by simp only; omega⟩
   ·show Value.int .i64 ((k : Int) + 1) = _
    rw [Int.natCast_add]; rfl
   ·exact (((kW.trans kU).trans kk).keep a4.keep (fun y hy => by have := hvg _ (hm hy); omega)).keep p3.keep (by simp; omega)
   ·exact (((kW3.trans kU (fun x h => by cases h)).trans kk (fun x h => by cases h)).trans a4.keep (fun y hy h => by have := hvg _ (hm hy); omega)).trans p3.keep (fun x h _ => h)
   ·exact Ag a4.own p3.keep (fun g hg h => by simp at h; exact (hv4 g hg).elim (fun e => by have := hvg _ e; omega) (fun e => by omega))
   ·rw [hxk, List.length_append, List.length_append, rW.1]; rfl
   ·intro j u y hu hy
    rw [hxk] at hy
    have hlk2 : ([p, q].take k).length = k := by rw [← rW.1]; exact hlk
    by_cases hjk : j < k
    ·rw [List.getElem?_append_left (by omega)] at hu hy
     obtain ⟨g, rfl, hB, hne, hg⟩ := rW.2 j u y hu hy
     have := hg.lt
     exact ⟨g, rfl, hB, fun e => (hv4 g e.symm).elim (fun h => hne h.symm) (fun h => by omega), kb (hg.keep kU (by simp)) hB (fun h => hne h.symm)⟩
    ·rw [List.getElem?_append_right (by omega)] at hu hy
     have hj0 : j - k = 0 := by have := (List.getElem?_eq_some_iff.1 hu).1; simp at this; omega
     rw [hlk, hj0] at hu
     rw [hlk2, hj0] at hy
     simp only [List.getElem?_cons_zero, Option.some.injEq] at hu hy
     subst hu hy
     exact ⟨_, rfl, by omega, fun e => (hv4 _ e.symm).elim (fun h => by have := hvg _ h; omega) (fun h => by omega), kb bU (by omega) (fun h => by have := hvg _ h; omega)⟩
 ·obtain rfl : k = 2 := by omega
  refine AA (Aj rfl rfl (by omega) ?_)
  repeat first | refine nx rfl ?_ | refine nf rfl ?_
  obtain ⟨va, vc, rfl, hvc⟩ := own_ints oW
  have hlen : vs.length = 2 := rW.1
  obtain ⟨u0, hu0⟩ : ∃ u, vs[0]? = some u := ⟨_, List.getElem?_eq_getElem (by omega)⟩
  obtain ⟨u1, hu1⟩ : ∃ u, vs[1]? = some u := ⟨_, List.getElem?_eq_getElem (by omega)⟩
  obtain ⟨lb, lo, e0, c0⟩ := hvc 0 _ hu0
  obtain ⟨_, _, e1, c1⟩ := hvc 1 _ hu1
  subst e0
  cases e1
  obtain ⟨g0, rfl, hg0, _, r0⟩ := rW.2 0 u0 p hu0 rfl
  obtain ⟨g1, rfl, hg1, _, r1⟩ := rW.2 1 u1 q hu1 rfl
  have hlb : w3.heap.size ≤ lb := (Aw oW rfl).1
  clear rW oW hvc hvg
  have hrow : ∀ U, Keep [w1.heap.size] W U → ∀ (k : Nat) (x : Int), [p, q][k]? = some x → ∃ g rc, U.cell? ⟨lb, lo + k, none⟩ = some (.slice (some ⟨g, 0, none⟩) S.length rc) ∧ ∀ i, i < S.length → U.cell? ⟨g, 0 + i, none⟩ = some (.int .i64 (Cr S x i)) := by
   intro U kU k x hx
   have hk2 := (List.getElem?_eq_some_iff.1 hx).1
   have hcl : ∀ {g y}, Blk W g 3 (valsC S y S.length) → w3.heap.size ≤ g → ∀ i, i < S.length → U.cell? ⟨g, 0 + i, none⟩ = some (.int .i64 (Cr S y i)) := fun h hg i hi => (h.keep kU (by simp; omega)).cell (by simp [valsC, hi])
   rcases (by simp at hk2; omega : k = 0 ∨ k = 1) with rfl | rfl
   ·cases hx; exact ⟨g0, _, kU.cell c0 (by simp; omega), hcl r0 hg0⟩
   ·cases hx; exact ⟨g1, _, kU.cell c1 (by simp; omega), hcl r1 hg1⟩
  refine Ad (.read 0 (.read 1 (.read 2 (.read 3 (.read 4 (.read 5 (.read 7 (.read 8 (.read 9 (.alt 6 (.read 10 (.read 11 (.read 12 (.read 13 (.alt 14 .done .stop))))) .stop)))))))))) Ax (by kernel_rfl) (fun wd kd ed => ⟨fun V => V.cell? ⟨w1.heap.size, 0 + 2, none⟩ = some (.int .i64 1) ∧ V.cell? ⟨w.heap.size, 0 + 1, none⟩ = some (.slice (some ⟨qb, qo, none⟩) 1 qc), ?_, ?_⟩)
  ·exact ⟨(bW.keep kd (by simp)).cell rfl, (b1W.keep kd (by simp)).cell rfl⟩
  have s2 : ∀ V : World, V.cell? ⟨w1.heap.size, 0 + 2, none⟩ = some (.int .i64 1) ∧ V.cell? ⟨w.heap.size, 0 + 1, none⟩ = some (.slice (some ⟨qb, qo, none⟩) 1 qc) → V.cell? ⟨w1.heap.size, 0 + 2, none⟩ = some (.int .i64 1) := fun V e => e.1
  have s1 : ∀ V : World, V.cell? ⟨w1.heap.size, 0 + 2, none⟩ = some (.int .i64 1) ∧ V.cell? ⟨w.heap.size, 0 + 1, none⟩ = some (.slice (some ⟨qb, qo, none⟩) 1 qc) → V.cell? ⟨w.heap.size, 0 + 1, none⟩ = some (.slice (some ⟨qb, qo, none⟩) 1 qc) := fun V e => e.2
  refine D_R rfl rfl (fun W hW => AP rfl Z3) (D_R rfl rfl (fun W hW => AP rfl Z3) (D_R rfl rfl (fun W hW => AH rfl Z3) (D_R rfl rfl (fun W hW => AD rfl Z3) (D_R rfl rfl (fun W hW => AF rfl (s2 W hW) Z3) (D_R rfl rfl (fun W hW => AP rfl Z3) (D_R rfl rfl (fun W hW => AD rfl Z3) (D_R rfl rfl (fun W hW => AF rfl (s1 W hW) Z3) (D_R rfl rfl (fun W hW => AZ rfl Z3) ?_))))))))
  refine D_E rfl ?_
  refine AQ (nested_ok _ (dpF f) wd b o f (Nat.le_refl _) (hf.keep (kW.trans kd) (fun _ _ => by simp)) hkf) rfl ?_
  rintro _ W1 ⟨rfl, k1⟩
  have b1' := bW.keep (kd.trans k1) (by simp)
  have bl' := b1W.keep (kd.trans k1) (by simp)
  refine AO ⟨_, fun _ h => h, ⟨b1'.cell rfl, bl'.cell rfl⟩, ?_⟩
  ((apply D_R rfl rfl; (intro W hW; refine W_mul rfl rfl (by first | exact AV (by omega) (by omega) | exact AY (by omega) (by omega) | exact AW (by omega) (by omega)) ?_; exact Z3)) <;> (apply D_R rfl rfl; (intro W hW; refine Av rfl rfl (by first | exact AV (by omega) (by omega) | exact AY (by omega) (by omega) | exact AW (by omega) (by omega)) ?_; exact Z3)) <;> refine D_R rfl rfl (fun W hW => AH rfl Z3) (D_R rfl rfl (fun W hW => AD rfl Z3) ?_))
  refine D_E rfl ?_
  refine Aa (v := .int .i64 1) rfl rfl rfl b1' (by simp) (fun W2 p2 => ?_)
  have b2 : Blk W2 w1.heap.size 104 [.slice sa S.length sc, .slice (some ⟨lb, lo, none⟩) 2 vc, .int .i64 1, .int .i64 1, .int .i64 0] := p2.blk
  have bl2 := bl'.keep p2.keep (by simp; omega)
  refine AO ⟨_, fun _ h => h, ⟨b2.cell rfl, bl2.cell rfl⟩, ?_⟩
  refine Ah ?_
  repeat refine nx rfl ?_
  have k2' : Keep [w1.heap.size] W W2 := ((kd.trans k1).any).trans p2.keep (fun x h _ => h)
  clear s1 s2
  refine Ad (.read 0 (.read 1 (.read 2 (.read 3 (.read 4 (.read 5 (.read 6 (.read 7 (.read 8 (.read 9 (.read 10 (.alt 11 .done .stop)))))))))))) Ax (by kernel_rfl) (fun wd kd ed => ⟨fun V => V.cell? ⟨w1.heap.size, 0 + 3, none⟩ = some (.int .i64 1) ∧ V.cell? ⟨w.heap.size, 0 + 1, none⟩ = some (.slice (some ⟨qb, qo, none⟩) 1 qc), ?_, ?_⟩)
  ·exact ⟨(b2.keep kd (by simp)).cell rfl, (bl2.keep kd (by simp)).cell rfl⟩
  have s2 : ∀ V : World, V.cell? ⟨w1.heap.size, 0 + 3, none⟩ = some (.int .i64 1) ∧ V.cell? ⟨w.heap.size, 0 + 1, none⟩ = some (.slice (some ⟨qb, qo, none⟩) 1 qc) → V.cell? ⟨w1.heap.size, 0 + 3, none⟩ = some (.int .i64 1) := fun V e => e.1
  have s1 : ∀ V : World, V.cell? ⟨w1.heap.size, 0 + 3, none⟩ = some (.int .i64 1) ∧ V.cell? ⟨w.heap.size, 0 + 1, none⟩ = some (.slice (some ⟨qb, qo, none⟩) 1 qc) → V.cell? ⟨w.heap.size, 0 + 1, none⟩ = some (.slice (some ⟨qb, qo, none⟩) 1 qc) := fun V e => e.2
  (refine D_R rfl rfl (fun W hW => AP rfl Z3) (D_R rfl rfl (fun W hW => AP rfl Z3) (D_R rfl rfl (fun W hW => AH rfl Z3) (D_R rfl rfl (fun W hW => AD rfl Z3) (D_R rfl rfl (fun W hW => AF rfl (s2 W hW) Z3) (D_R rfl rfl (fun W hW => AD rfl Z3) (D_R rfl rfl (fun W hW => AF rfl (s1 W hW) Z3) (D_R rfl rfl (fun W hW => AZ rfl Z3) ?_))))))) <;> (apply D_R rfl rfl; (intro W hW; refine Av rfl rfl (by first | exact AV (by omega) (by omega) | exact AY (by omega) (by omega) | exact AW (by omega) (by omega)) ?_; exact Z3)) <;> refine D_R rfl rfl (fun W hW => AH rfl Z3) (D_R rfl rfl (fun W hW => AD rfl Z3) ?_))
  refine D_E rfl ?_
  have b3 := b2.keep kd (by simp)
  refine Aa (v := .int .i64 2) rfl rfl rfl b3 (by simp) (fun W3 p3 => ?_)
  have b4 : Blk W3 w1.heap.size 104 [.slice sa S.length sc, .slice (some ⟨lb, lo, none⟩) 2 vc, .int .i64 1, .int .i64 1, .int .i64 2] := p3.blk
  have bl4 := (bl2.keep kd (by simp)).keep p3.keep (by simp; omega)
  refine AO ⟨_, fun _ h => h, ⟨b4.cell rfl, bl4.cell rfl⟩, ?_⟩
  refine Ah ?_
  repeat refine nx rfl ?_
  have k4' : Keep [w1.heap.size] W W3 := (k2'.trans kd (fun x h => by cases h)).trans p3.keep (fun x h _ => h)
  refine AA (AP rfl (AC (AP rfl ?_)))
  repeat refine nx rfl ?_
  have e4 : Ext w W3 := kW.keep k4' (by simp; omega)
  exact AI rfl ⟨_, rfl, e4, sa, sc, lb, lo, vc, b4, hS.ext e4, hrow _ k4'⟩
end Go.Proofs.YtkhhjdjmhbdjfaaGreatDoor
namespace Go.Proofs.YtkhhjdjmhbdjfaaGreatDoor
open Go.RowKit
set_option linter.unusedVariables false
def Tru2 (w : World) (v : Value) (r : Bool × Bool) : Prop := ∃ g, v = .slice (some ⟨g, 0, none⟩) 2 2 ∧ Blk w g 4 [.bool r.1, .bool r.2]
theorem Tru2.ext {w w' : World} {v : Value} {r : Bool × Bool} (h : Tru2 w v r) (k : Ext w w') : Tru2 w' v r := by
 obtain ⟨g, e, h⟩ := h
 exact ⟨g, e, h.keep k (by simp)⟩
def at2 (r : Bool × Bool) (k : Nat) : Bool := if k = 0 then r.1 else r.2
theorem Tru2.cell {w : World} {v : Value} {r : Bool × Bool} (h : Tru2 w v r) : ∃ g, v = .slice (some ⟨g, 0, none⟩) 2 2 ∧ ∀ k, k < 2 → w.cell? ⟨g, 0 + k, none⟩ = some (.bool (at2 r k)) := by
 obtain ⟨g, e, h⟩ := h
 refine ⟨g, e, fun k hk => h.cell ?_⟩
 rcases (by omega : k = 0 ∨ k = 1) with rfl | rfl <;> rfl
theorem avalue_ok (w : World) (t : Nat) (S : List Sgn) (xs : List Int) (k i : Nat) (x : Int) (h : Axs w t S xs) (hk : k < 2) (hx : xs[k]? = some x) (hi : i < S.length) : Fn Tryz.prog 155 [pt t, .int .i64 (k : Int), .int .i64 (i : Int)] w fun u w' => u = .int .i64 (Cr S x i) ∧ Ext w w' := by
 obtain ⟨sa, sc, lb, lo, lc, hb, _, hr⟩ := h
 obtain ⟨g, rc, c1, c2⟩ := hr k x hx
 have c3 := c2 i hi
 refine AR Tryz.func155 rfl Tryz.ntmps155 (Nat.le_of_ble_eq_true rfl) (by kernel_rfl) ?_
 repeat refine nx rfl ?_
 refine AA (AC (AG rfl ?_))
 repeat refine nx rfl ?_
 (refine AA (AG rfl (AP rfl (AH rfl (AD rfl (AF rfl (Blk.cell (by assumption) (by rfl)) ?_))))) <;> refine AZ rfl (CD rfl rfl (by omega) ?_))
 repeat first | refine nx rfl ?_ | refine nf rfl ?_
 (refine AA (AP rfl (AH rfl (AD rfl (AF rfl (Blk.cell (by assumption) (by rfl)) ?_)))) <;> refine AG rfl (BL rfl rfl rfl (by omega) (AF rfl (by assumption) ?_)) <;> refine AG rfl (BL rfl rfl rfl (by omega) (AF rfl (by assumption) ?_)) <;> refine AC (AG rfl ?_))
 repeat refine nx rfl ?_
 exact AI rfl ⟨rfl, Ext.refl _⟩
theorem each_ok (w : World) (t : Nat) (S : List Sgn) (xs : List Int) (F : FuncId) [hF : AS Tryz.prog F] (v1 v2 : List Value) (r : Bool × Bool) (h : Axs w t S xs) (hfn : ∀ (k : Nat) (W : World), k < 2 → Ext w W → Fn Tryz.prog F (v1 ++ [.int .i64 (k : Int)] ++ v2) W fun u w' => u = .bool (at2 r k) ∧ Ext W w') :
  Fn Tryz.prog 149 [pt t, .func (.func F) v1.toArray v2.toArray] w fun u w' => Tru2 w' u r ∧ Ext w w' ∧ ∀ g, u.ownBlock = some g → w.heap.size ≤ g := by
 obtain ⟨sa, sc, lb, lo, lc, hb, _, _⟩ := h
 refine AR Tryz.func149 rfl Tryz.ntmps149 (Nat.le_of_ble_eq_true rfl) (by kernel_rfl) ?_
 repeat refine nx rfl ?_
 refine AA (AC (AM rfl ?_))
 repeat refine nx rfl ?_
 refine AA (AP rfl (AH rfl (AD rfl (AF rfl (Blk.cell (by assumption) (by rfl)) ?_))))
 refine W_make1 (n := 2) rfl rfl rfl rfl rfl (by omega) (by omega) (fun w1 n1 => ?_)
 refine AC (AM rfl ?_)
 repeat refine nx rfl ?_
 refine AA (AM rfl (AZ rfl (AG rfl ?_)))
 repeat refine nx rfl ?_
 refine A3 (α := Nat) (fun k => [(1, .func (.func F) v1.toArray v2.toArray), (5, .slice (some ⟨w.heap.size, 0, none⟩) 2 2), (13, .int .i64 2), (14, .int .i64 (k : Int))]) (fun k W => k ≤ 2 ∧ Ext w W ∧ Blk W w.heap.size 4 ([Value.bool r.1, .bool r.2].take k ++ List.replicate (2 - k) (.bool false))) (fun k => 2 - k) 0 ⟨rfl, rfl, rfl, rfl, trivial⟩ ⟨by omega, n1.keep, n1.blk⟩ ?_
 rintro k W fr ⟨hk, kW, bW⟩
 repeat refine nx rfl ?_
 by_cases hlt : k < 2
 ·refine AA (At rfl rfl (by omega) ?_)
  repeat refine nx rfl ?_
  refine AA (AG rfl (AC (AG rfl ?_)))
  repeat refine nx rfl ?_
  refine AA (AM rfl (AG rfl (Bq rfl (AG rfl ?_))))
  refine BO (v1 := v1) (v2 := v2) (vs := [.int .i64 (k : Int)]) rfl (hfn k W hlt kW) rfl ?_
  rintro _ w2 ⟨rfl, k2⟩
  have b2 := bW.keep k2 (by simp)
  refine BL (k := k) rfl rfl rfl hlt ?_
  refine Aa (v := .bool (at2 r k)) rfl rfl rfl b2 (by simp; omega) (fun w3 p3 => ?_)
  repeat refine nx rfl ?_
  (refine AA (Av rfl rfl (by first | exact AV (by omega) (by omega) | exact AY (by omega) (by omega) | exact AW (by omega) (by omega)) ?_) <;> refine AG rfl ?_)
  repeat refine nx rfl ?_
  have b3 := p3.blk
  refine ⟨k + 1, ⟨rfl, ⟨rfl, rfl, rfl, ?_, trivial⟩, ⟨by omega, (kW.trans k2).keep p3.keep (by simp), ?_⟩⟩, by omega⟩
  ·show Value.int .i64 ((k : Int) + 1) = _
   rw [Int.natCast_add]; rfl
  ·rcases (by omega : k = 0 ∨ k = 1) with rfl | rfl <;> exact b3
 ·obtain rfl : k = 2 := by omega
  refine AA (Aj rfl rfl (by omega) ?_)
  repeat first | refine nx rfl ?_ | refine nf rfl ?_
  refine AA (AM rfl (AC (AM rfl ?_)))
  repeat refine nx rfl ?_
  exact AI rfl ⟨⟨_, rfl, bW⟩, kW, fun g hg => by have e := Option.some.inj hg; simp only at e; omega⟩
def Trus (w : World) (v : Value) (rs : List (Bool × Bool)) : Prop := ∃ g vs, v = .slice (some ⟨g, 0, none⟩) rs.length rs.length ∧ Blk w g 74 vs ∧ ∀ (k : Nat) (r : Bool × Bool), rs[k]? = some r → ∃ u, vs[k]? = some u ∧ Tru2 w u r
theorem Trus.ext {w w' : World} {v : Value} {rs : List (Bool × Bool)} (h : Trus w v rs) (k : Ext w w') : Trus w' v rs := by
 obtain ⟨g, vs, e, h1, h2⟩ := h
 refine ⟨g, vs, e, h1.keep k (by simp), fun j r hj => ?_⟩
 obtain ⟨u, hu, hr⟩ := h2 j r hj
 exact ⟨u, hu, hr.ext k⟩
theorem Trus.at {w : World} {v : Value} {rs : List (Bool × Bool)} (h : Trus w v rs) : ∃ g, v = .slice (some ⟨g, 0, none⟩) rs.length rs.length ∧ ∀ (k : Nat) (r : Bool × Bool), rs[k]? = some r → ∃ u, w.cell? ⟨g, 0 + k, none⟩ = some (.slice (some ⟨u, 0, none⟩) 2 2) ∧ ∀ i, i < 2 → w.cell? ⟨u, 0 + i, none⟩ = some (.bool (at2 r i)) := by
 obtain ⟨g, vs, e, h1, h2⟩ := h
 refine ⟨g, e, fun k r hk => ?_⟩
 obtain ⟨u, hu, hr⟩ := h2 k r hk
 obtain ⟨b, rfl, hb⟩ := hr.cell
 exact ⟨b, h1.cell (by rw [Nat.zero_add]; exact hu), hb⟩
theorem all_ok (w : World) (v : Value) (rs : List (Bool × Bool)) (i : Nat) (hi : i < 2) (hrl : rs.length ≤ 1000000) (h : Trus w v rs) : Fn Tryz.prog 160 [v, .int .i64 (i : Int), .bool false] w fun u w' => u = .bool (rs.all fun r => !at2 r i) ∧ Ext w w' := by
 obtain ⟨g, rfl, hc⟩ := h.at
 refine AR Tryz.func160 rfl Tryz.ntmps160 (Nat.le_of_ble_eq_true rfl) (by kernel_rfl) ?_
 repeat refine nx rfl ?_
 refine AA (AC (AB rfl ?_))
 repeat refine nx rfl ?_
 refine AA (AM rfl (AZ rfl (AG rfl ?_)))
 repeat refine nx rfl ?_
 refine A3 (α := Nat) (fun k => [(1, .int .i64 (i : Int)), (2, .bool false), (9, .slice (some ⟨g, 0, none⟩) rs.length rs.length), (10, .int .i64 (rs.length : Int)), (11, .int .i64 (k : Int))]) (fun k W => k ≤ rs.length ∧ W = w ∧ ∀ (j : Nat) (r : Bool × Bool), j < k → rs[j]? = some r → (!at2 r i) = true) (fun k => rs.length - k) 0 ⟨rfl, rfl, rfl, rfl, rfl, trivial⟩ ⟨by omega, rfl, fun j r hj => absurd hj (by omega)⟩ ?_
 rintro k W fr ⟨hk, rfl, hb⟩
 repeat refine nx rfl ?_
 by_cases hlt : k < rs.length
 ·obtain ⟨r, hr⟩ : ∃ r, rs[k]? = some r := ⟨_, List.getElem?_eq_getElem hlt⟩
  obtain ⟨u, hu, hui⟩ := hc k r hr
  have hc2 := hui i hi
  refine AA (At rfl rfl (by omega) ?_)
  repeat refine nx rfl ?_
  (refine AA (BL rfl rfl rfl (by omega) (AF rfl (by assumption) ?_)) <;> refine AC (AM rfl ?_))
  repeat refine nx rfl ?_
  (refine AA (AM rfl (AG rfl (BL rfl rfl rfl (by omega) (AF rfl (by assumption) ?_)))) <;> refine AB rfl ?_)
  refine W_bneq rfl rfl ?_
  refine AO ?_
  cases hv : at2 r i with
  | true =>
   repeat refine nx rfl ?_
   refine AA (AC (AB rfl ?_))
   repeat refine nx rfl ?_
   exact AI rfl ⟨congrArg Value.bool (all_stop hr (by simp [hv])).symm, Ext.refl _⟩
  | false =>
   repeat first | refine nx rfl ?_ | refine nf rfl ?_
   (refine AA (Av rfl rfl (by first | exact AV (by omega) (by omega) | exact AY (by omega) (by omega) | exact AW (by omega) (by omega)) ?_) <;> refine AG rfl ?_)
   repeat refine nx rfl ?_
   refine ⟨k + 1, ⟨rfl, ⟨rfl, rfl, rfl, rfl, ?_, trivial⟩, ⟨by omega, rfl, fun j y hj hy => ?_⟩⟩, by omega⟩
   ·show Value.int .i64 ((k : Int) + 1) = _
    rw [Int.natCast_add]; rfl
   ·by_cases hjk : j = k
    ·subst hjk; rw [hr] at hy; cases hy; simp [hv]
    ·exact hb j y (by omega) hy
 ·refine AA (Aj rfl rfl (by omega) ?_)
  repeat first | refine nx rfl ?_ | refine nf rfl ?_
  refine AA (AC (AB rfl ?_))
  repeat refine nx rfl ?_
  exact AI rfl ⟨congrArg Value.bool (all_done fun j y hj hy => hb j y (by omega) hy).symm, Ext.refl _⟩
end Go.Proofs.YtkhhjdjmhbdjfaaGreatDoor
namespace Go.Proofs.YtkhhjdjmhbdjfaaGreatDoor
open Go.RowKit
set_option linter.unusedVariables false
def set2 (s : Bool × Bool) (k : Nat) (v : Bool) : Bool × Bool := if k = 0 then (v, s.2) else (s.1, v)
def unS (l r : Bool × Bool) : Nat → Bool × Bool
 | 0 => (false, false)
 | k + 1 => set2 (unS l r k) (1 - k % 2) (at2 r (1 - k % 2) || (at2 l (1 - k % 2) && (unS l r k).2))
def reS (l r : Bool × Bool) : Nat → Bool × Bool
 | 0 => (true, true)
 | k + 1 => set2 (reS l r k) (1 - k % 2) (at2 r (1 - k % 2) && (at2 l (1 - k % 2) || (reS l r k).2))
theorem until_ok (w : World) (t : Nat) (S : List Sgn) (xs : List Int) (vl vr : Value) (l r : Bool × Bool) (hA : Axs w t S xs) (hl : Tru2 w vl l) (hr : Tru2 w vr r) :
  Fn Tryz.prog 168 [pt t, vl, vr] w fun u w' => Tru2 w' u (unS l r 4) ∧ Ext w w' := by
 obtain ⟨gl, rfl, hcl⟩ := hl.cell
 obtain ⟨gr, rfl, hcr⟩ := hr.cell
 obtain ⟨sa, sc, lb, lo, lc, hb, _, _⟩ := id hA
 refine AR Tryz.func168 rfl Tryz.ntmps168 (Nat.le_of_ble_eq_true rfl) (by kernel_rfl) ?_
 repeat refine nx rfl ?_
 refine AA (AC (AM rfl ?_))
 repeat refine nx rfl ?_
 refine AA (AP rfl (AH rfl (AD rfl (AF rfl (Blk.cell (by assumption) (by rfl)) ?_))))
 refine W_make1 (n := 2) rfl rfl rfl rfl rfl (by omega) (by omega) (fun w1 n1 => ?_)
 refine AC (AM rfl ?_)
 repeat refine nx rfl ?_
 have e1 := n1.keep
 have b1 := hb.keep e1 (by simp)
 obtain ⟨g0, hg0⟩ : ∃ g0, g0 = w.heap.size := ⟨_, rfl⟩
 have bz : Blk w1 g0 4 [.bool (unS l r 0).1, .bool (unS l r 0).2] := by rw [hg0]; exact n1.blk
 rw [← hg0]
 (refine AA (AP rfl (AH rfl (AD rfl (AF rfl (Blk.cell (by assumption) (by rfl)) ?_)))) <;> refine W_mul rfl rfl (by first | exact AV (by omega) (by omega) | exact AY (by omega) (by omega) | exact AW (by omega) (by omega)) ?_ <;> refine AG rfl ?_)
 repeat refine nx rfl ?_
 refine A3 (α := Nat) (fun k => [(0, pt t), (1, .slice (some ⟨gl, 0, none⟩) 2 2), (2, .slice (some ⟨gr, 0, none⟩) 2 2), (7, .slice (some ⟨g0, 0, none⟩) 2 2), (19, .int .i64 4), (20, .int .i64 (k : Int))]) (fun k W => k ≤ 4 ∧ Ext w W ∧ Blk W g0 4 [.bool (unS l r k).1, .bool (unS l r k).2]) (fun k => 4 - k) 0 ⟨rfl, rfl, rfl, rfl, rfl, rfl, trivial⟩ ⟨by omega, e1, bz⟩ ?_
 rintro k W fr ⟨hk, kW, bW⟩
 repeat refine nx rfl ?_
 by_cases hlt : k < 4
 ·refine AA (At rfl rfl (by omega) ?_)
  repeat refine nx rfl ?_
  refine AA (AG rfl (AC (AG rfl ?_)))
  repeat refine nx rfl ?_
  have bt := hb.keep kW (by simp)
  refine Ad (.read 0 (.read 1 (.read 2 (.read 3 (.read 4 (.read 5 (.read 6 (.read 7 (.read 8 (.read 9 (.read 10 (.read 11 (.read 12 .done))))))))))))) Ax (by kernel_rfl) (fun wd kd ed => ⟨Ext wd, ?_, ?_⟩)
  ·exact Ext.refl _
  have s1 : ∀ V, Ext wd V → V.cell? ⟨t, 0 + 4, none⟩ = some (.int .i64 2) := fun V e => (bt.keep (kd.trans e) (by simp)).cell rfl
  (refine D_R rfl rfl (fun W hW => AP rfl Z3) (D_R rfl rfl (fun W hW => AH rfl Z3) (D_R rfl rfl (fun W hW => AD rfl Z3) (D_R rfl rfl (fun W hW => AF rfl (s1 W hW) Z3) ?_))) <;> (apply D_R rfl rfl; (intro W hW; refine Cy rfl rfl (by first | exact AV (by omega) (by omega) | exact AY (by omega) (by omega) | exact AW (by omega) (by omega)) ?_; exact Z3)) <;> refine D_R rfl rfl (fun W hW => AG rfl Z3) (D_R rfl rfl (fun W hW => AP rfl Z3) (D_R rfl rfl (fun W hW => AH rfl Z3) (D_R rfl rfl (fun W hW => AD rfl Z3) (D_R rfl rfl (fun W hW => AF rfl (s1 W hW) Z3) (D_R rfl rfl (fun W hW => W_rem rfl rfl (by omega) (by omega) Z3) ?_))))) <;> (apply D_R rfl rfl; (intro W hW; refine Cy rfl rfl (by first | exact AV (by omega) (by omega) | exact AY (by omega) (by omega) | exact AW (by omega) (by omega)) ?_; exact Z3)) <;> refine D_R rfl rfl (fun W hW => AC (AG rfl Z3)) (Ah ?_))
  repeat refine nx rfl ?_
  have kWd := kW.trans kd
  replace bW := bW.keep kd (by simp)
  replace hA := hA.ext kWd
  obtain ⟨a, ha⟩ : ∃ a : Nat, a = 1 - k % 2 := ⟨_, rfl⟩
  have ha2 : a < 2 := by omega
  have hae : (2 : Int) - 1 - (k : Int) % 2 = (a : Int) := by omega
  have hst : unS l r (k + 1) = set2 (unS l r k) a (at2 r a || (at2 l a && (unS l r k).2)) := by rw [ha]; rfl
  have hr := kWd.cell (hcr a ha2) (by simp)
  have hl := kWd.cell (hcl a ha2) (by simp)
  have hs : wd.cell? ⟨g0, 0 + 1, none⟩ = some (.bool (unS l r k).2) := bW.cell rfl
  have hpl : (if a + 1 < 2 then ((a + 1 : Nat) : Int) else 1) = 1 := by
   rcases (by omega : a = 0 ∨ a = 1) with h | h <;> rw [h] <;> rfl
  have hplc := place_ok wd t S xs (a + 1) hA (by omega)
  rw [hpl, Int.natCast_add] at hplc
  have fin : ∀ (v : Bool) (W1 W2 : World), Ext wd W1 → v = (at2 r a || (at2 l a && (unS l r k).2)) → Put W1 W2 g0 4 ([Value.bool (unS l r k).1, .bool (unS l r k).2].set (0 + a) (.bool v)) → Ext w W2 ∧ Blk W2 g0 4 [.bool (unS l r (k + 1)).1, .bool (unS l r (k + 1)).2] := by
   intro v W1 W2 k1 hv p
   refine ⟨(kWd.trans k1).keep p.keep (by simp; omega), ?_⟩
   have := p.blk
   rw [hst, ← hv]
   rcases (by omega : a = 0 ∨ a = 1) with h | h <;> rw [h] at this ⊢ <;> exact this
  rw [hae]
  cases hrv : at2 r a with
  | true =>
   rw [hrv] at hr
   (refine AA (AM rfl (AG rfl (AM rfl (AG rfl (BL rfl rfl rfl (by omega) (AF rfl (by assumption) ?_)))))) <;> refine AB rfl (AL rfl (AL rfl (AL rfl (AL rfl (AL rfl (AL rfl (AL rfl (AL rfl (AL rfl ?_))))))))))
   refine AL rfl ?_
   refine AL rfl (AL rfl (AL rfl (AK rfl (AB rfl (BL rfl rfl rfl (by omega) ?_)))))
   refine Aa (v := .bool (true)) rfl rfl rfl bW (by simp; omega) (fun W2 p2 => ?_)
   repeat refine nx rfl ?_
   (refine AA (Av rfl rfl (by first | exact AV (by omega) (by omega) | exact AY (by omega) (by omega) | exact AW (by omega) (by omega)) ?_) <;> refine AG rfl ?_)
   repeat refine nx rfl ?_
   obtain ⟨e2, b2⟩ := fin (true) wd W2 (Ext.refl _) (by rw [hrv]; rfl) p2
   refine ⟨k + 1, ⟨rfl, ⟨rfl, rfl, rfl, rfl, rfl, (by show Value.int .i64 ((k : Int) + 1) = _; rw [Int.natCast_add]; rfl), trivial⟩, ⟨by omega, e2, b2⟩⟩, by omega⟩
  | false =>
   rw [hrv] at hr
   cases hlv : at2 l a with
   | false =>
    rw [hlv] at hl
    (refine AA (AM rfl (AG rfl (AM rfl (AG rfl (BL rfl rfl rfl (by omega) (AF rfl (by assumption) ?_)))))) <;> refine AB rfl (AE rfl (AM rfl (AE rfl (AG rfl (AE rfl (BL rfl rfl rfl (by omega) (AE rfl (AF rfl (by assumption) ?_)))))))) <;> refine AE rfl (AB rfl (AL rfl (AL rfl (AL rfl (AL rfl ?_))))))
    refine AL rfl ?_
    refine AL rfl (AL rfl (AE rfl (AJ rfl (AB rfl (AJ rfl (AB rfl (BL rfl rfl rfl (by omega) ?_)))))))
    refine Aa (v := .bool (false)) rfl rfl rfl bW (by simp; omega) (fun W2 p2 => ?_)
    repeat refine nx rfl ?_
    (refine AA (Av rfl rfl (by first | exact AV (by omega) (by omega) | exact AY (by omega) (by omega) | exact AW (by omega) (by omega)) ?_) <;> refine AG rfl ?_)
    repeat refine nx rfl ?_
    obtain ⟨e2, b2⟩ := fin (false) wd W2 (Ext.refl _) (by rw [hrv, hlv]; rfl) p2
    refine ⟨k + 1, ⟨rfl, ⟨rfl, rfl, rfl, rfl, rfl, (by show Value.int .i64 ((k : Int) + 1) = _; rw [Int.natCast_add]; rfl), trivial⟩, ⟨by omega, e2, b2⟩⟩, by omega⟩
   | true =>
    rw [hlv] at hl
    (refine AA (AM rfl (AG rfl (AM rfl (AG rfl (BL rfl rfl rfl (by omega) (AF rfl (by assumption) ?_)))))) <;> refine AB rfl (AE rfl (AM rfl (AE rfl (AG rfl (AE rfl (BL rfl rfl rfl (by omega) (AE rfl (AF rfl (by assumption) ?_)))))))) <;> refine AE rfl (AB rfl (AE rfl (AM rfl (AE rfl (AP rfl (AE rfl (AG rfl (AE rfl (Av rfl rfl (by first | exact AV (by omega) (by omega) | exact AY (by omega) (by omega) | exact AW (by omega) (by omega)) ?_))))))))))
    refine AE rfl (AQ hplc rfl ?_)
    rintro _ W1 ⟨rfl, k1⟩
    have hs1 := k1.cell hs (by simp)
    have bW1 := bW.keep k1 (by simp)
    (refine AE rfl (Aq rfl rfl (by omega) (by omega) (AE rfl (AF rfl (Blk.cell (by assumption) (by rfl)) ?_))) <;> refine AE rfl (AK rfl (AB rfl (AJ rfl (AB rfl (BL rfl rfl rfl (by omega) ?_))))))
    refine Aa (v := .bool ((unS l r k).2)) rfl rfl rfl bW1 (by simp; omega) (fun W2 p2 => ?_)
    repeat refine nx rfl ?_
    (refine AA (Av rfl rfl (by first | exact AV (by omega) (by omega) | exact AY (by omega) (by omega) | exact AW (by omega) (by omega)) ?_) <;> refine AG rfl ?_)
    repeat refine nx rfl ?_
    obtain ⟨e2, b2⟩ := fin ((unS l r k).2) W1 W2 (k1) (by rw [hrv, hlv]; rfl) p2
    refine ⟨k + 1, ⟨rfl, ⟨rfl, rfl, rfl, rfl, rfl, (by show Value.int .i64 ((k : Int) + 1) = _; rw [Int.natCast_add]; rfl), trivial⟩, ⟨by omega, e2, b2⟩⟩, by omega⟩
 ·obtain rfl : k = 4 := by omega
  refine AA (Aj rfl rfl (by omega) ?_)
  repeat first | refine nx rfl ?_ | refine nf rfl ?_
  refine AA (AM rfl (AC (AM rfl ?_)))
  repeat refine nx rfl ?_
  exact AI rfl ⟨⟨_, rfl, bW⟩, kW⟩
theorem always1_ok (w : World) (x : Value) : Fn Tryz.prog 196 [x] w fun u w' => u = .bool true ∧ Ext w w' := by
 refine AR Tryz.func196 rfl Tryz.ntmps196 (Nat.le_of_ble_eq_true rfl) (by kernel_rfl) ?_
 repeat refine nx rfl ?_
 refine AA (AC (AB rfl ?_))
 repeat refine nx rfl ?_
 refine AA (AC (AB rfl ?_))
 repeat refine nx rfl ?_
 exact AI rfl ⟨rfl, Ext.refl _⟩
theorem release_ok (w : World) (t : Nat) (S : List Sgn) (xs : List Int) (vl vr : Value) (l r : Bool × Bool) (hA : Axs w t S xs) (hl : Tru2 w vl l) (hr : Tru2 w vr r) :
  Fn Tryz.prog 170 [pt t, vl, vr] w fun u w' => Tru2 w' u (reS l r 4) ∧ Ext w w' := by
 obtain ⟨gl, rfl, hcl⟩ := hl.cell
 obtain ⟨gr, rfl, hcr⟩ := hr.cell
 obtain ⟨sa, sc, lb, lo, lc, hb, _, _⟩ := id hA
 refine AR Tryz.func170 rfl Tryz.ntmps170 (Nat.le_of_ble_eq_true rfl) (by kernel_rfl) ?_
 repeat refine nx rfl ?_
 refine AA (AC (AM rfl ?_))
 repeat refine nx rfl ?_
 refine AA (AP rfl ?_)
 refine AQ (each_ok w t S xs 196 [] [] (true, true) hA (fun k W hk e => ?_)) rfl ?_
 ·have := always1_ok W (.int .i64 (k : Int))
  rcases (by omega : k = 0 ∨ k = 1) with rfl | rfl <;> exact this
 rintro u w1 ⟨⟨g0, rfl, bz⟩, e1, hg0⟩
 replace hg0 := hg0 g0 rfl
 refine AC (AM rfl ?_)
 repeat refine nx rfl ?_
 have b1 := hb.keep e1 (by simp)
 have z1 := e1.size
 (refine AA (AP rfl (AH rfl (AD rfl (AF rfl (Blk.cell (by assumption) (by rfl)) ?_)))) <;> refine W_mul rfl rfl (by first | exact AV (by omega) (by omega) | exact AY (by omega) (by omega) | exact AW (by omega) (by omega)) ?_ <;> refine AG rfl ?_)
 repeat refine nx rfl ?_
 refine A3 (α := Nat) (fun k => [(0, pt t), (1, .slice (some ⟨gl, 0, none⟩) 2 2), (2, .slice (some ⟨gr, 0, none⟩) 2 2), (7, .slice (some ⟨g0, 0, none⟩) 2 2), (16, .int .i64 4), (17, .int .i64 (k : Int))]) (fun k W => k ≤ 4 ∧ Ext w W ∧ Blk W g0 4 [.bool (reS l r k).1, .bool (reS l r k).2]) (fun k => 4 - k) 0 ⟨rfl, rfl, rfl, rfl, rfl, rfl, trivial⟩ ⟨by omega, e1, bz⟩ ?_
 rintro k W fr ⟨hk, kW, bW⟩
 repeat refine nx rfl ?_
 by_cases hlt : k < 4
 ·refine AA (At rfl rfl (by omega) ?_)
  repeat refine nx rfl ?_
  refine AA (AG rfl (AC (AG rfl ?_)))
  repeat refine nx rfl ?_
  have bt := hb.keep kW (by simp)
  refine Ad (.read 0 (.read 1 (.read 2 (.read 3 (.read 4 (.read 5 (.read 6 (.read 7 (.read 8 (.read 9 (.read 10 (.read 11 (.read 12 .done))))))))))))) Ax (by kernel_rfl) (fun wd kd ed => ⟨Ext wd, ?_, ?_⟩)
  ·exact Ext.refl _
  have s1 : ∀ V, Ext wd V → V.cell? ⟨t, 0 + 4, none⟩ = some (.int .i64 2) := fun V e => (bt.keep (kd.trans e) (by simp)).cell rfl
  (refine D_R rfl rfl (fun W hW => AP rfl Z3) (D_R rfl rfl (fun W hW => AH rfl Z3) (D_R rfl rfl (fun W hW => AD rfl Z3) (D_R rfl rfl (fun W hW => AF rfl (s1 W hW) Z3) ?_))) <;> (apply D_R rfl rfl; (intro W hW; refine Cy rfl rfl (by first | exact AV (by omega) (by omega) | exact AY (by omega) (by omega) | exact AW (by omega) (by omega)) ?_; exact Z3)) <;> refine D_R rfl rfl (fun W hW => AG rfl Z3) (D_R rfl rfl (fun W hW => AP rfl Z3) (D_R rfl rfl (fun W hW => AH rfl Z3) (D_R rfl rfl (fun W hW => AD rfl Z3) (D_R rfl rfl (fun W hW => AF rfl (s1 W hW) Z3) (D_R rfl rfl (fun W hW => W_rem rfl rfl (by omega) (by omega) Z3) ?_))))) <;> (apply D_R rfl rfl; (intro W hW; refine Cy rfl rfl (by first | exact AV (by omega) (by omega) | exact AY (by omega) (by omega) | exact AW (by omega) (by omega)) ?_; exact Z3)) <;> refine D_R rfl rfl (fun W hW => AC (AG rfl Z3)) (Ah ?_))
  repeat refine nx rfl ?_
  have kWd := kW.trans kd
  replace bW := bW.keep kd (by simp)
  replace hA := hA.ext kWd
  obtain ⟨a, ha⟩ : ∃ a : Nat, a = 1 - k % 2 := ⟨_, rfl⟩
  have ha2 : a < 2 := by omega
  have hae : (2 : Int) - 1 - (k : Int) % 2 = (a : Int) := by omega
  have hst : reS l r (k + 1) = set2 (reS l r k) a (at2 r a && (at2 l a || (reS l r k).2)) := by rw [ha]; rfl
  have hr := kWd.cell (hcr a ha2) (by simp)
  have hl := kWd.cell (hcl a ha2) (by simp)
  have hs : wd.cell? ⟨g0, 0 + 1, none⟩ = some (.bool (reS l r k).2) := bW.cell rfl
  have hpl : (if a + 1 < 2 then ((a + 1 : Nat) : Int) else 1) = 1 := by
   rcases (by omega : a = 0 ∨ a = 1) with h | h <;> rw [h] <;> rfl
  have hplc := place_ok wd t S xs (a + 1) hA (by omega)
  rw [hpl, Int.natCast_add] at hplc
  have fin : ∀ (v : Bool) (W1 W2 : World), Ext wd W1 → v = (at2 r a && (at2 l a || (reS l r k).2)) → Put W1 W2 g0 4 ([Value.bool (reS l r k).1, .bool (reS l r k).2].set (0 + a) (.bool v)) → Ext w W2 ∧ Blk W2 g0 4 [.bool (reS l r (k + 1)).1, .bool (reS l r (k + 1)).2] := by
   intro v W1 W2 k1 hv p
   refine ⟨(kWd.trans k1).keep p.keep (by simp; omega), ?_⟩
   have := p.blk
   rw [hst, ← hv]
   rcases (by omega : a = 0 ∨ a = 1) with h | h <;> rw [h] at this ⊢ <;> exact this
  rw [hae]
  cases hrv : at2 r a with
  | false =>
   rw [hrv] at hr
   (refine AA (AM rfl (AG rfl (AM rfl (AG rfl (BL rfl rfl rfl (by omega) (AF rfl (by assumption) ?_)))))) <;> refine AB rfl (AL rfl (AL rfl (AL rfl (AL rfl (AL rfl (AL rfl (AL rfl (AL rfl (AL rfl ?_))))))))))
   refine AL rfl ?_
   refine AL rfl (AL rfl (AL rfl (AJ rfl (AB rfl (BL rfl rfl rfl (by omega) ?_)))))
   refine Aa (v := .bool (false)) rfl rfl rfl bW (by simp; omega) (fun W2 p2 => ?_)
   repeat refine nx rfl ?_
   (refine AA (Av rfl rfl (by first | exact AV (by omega) (by omega) | exact AY (by omega) (by omega) | exact AW (by omega) (by omega)) ?_) <;> refine AG rfl ?_)
   repeat refine nx rfl ?_
   obtain ⟨e2, b2⟩ := fin (false) wd W2 (Ext.refl _) (by rw [hrv]; rfl) p2
   refine ⟨k + 1, ⟨rfl, ⟨rfl, rfl, rfl, rfl, rfl, (by show Value.int .i64 ((k : Int) + 1) = _; rw [Int.natCast_add]; rfl), trivial⟩, ⟨by omega, e2, b2⟩⟩, by omega⟩
  | true =>
   rw [hrv] at hr
   cases hlv : at2 l a with
   | true =>
    rw [hlv] at hl
    (refine AA (AM rfl (AG rfl (AM rfl (AG rfl (BL rfl rfl rfl (by omega) (AF rfl (by assumption) ?_)))))) <;> refine AB rfl (AE rfl (AM rfl (AE rfl (AG rfl (AE rfl (BL rfl rfl rfl (by omega) (AE rfl (AF rfl (by assumption) ?_)))))))) <;> refine AE rfl (AB rfl (AL rfl (AL rfl (AL rfl (AL rfl ?_))))))
    refine AL rfl ?_
    refine AL rfl (AL rfl (AE rfl (AK rfl (AB rfl (AK rfl (AB rfl (BL rfl rfl rfl (by omega) ?_)))))))
    refine Aa (v := .bool (true)) rfl rfl rfl bW (by simp; omega) (fun W2 p2 => ?_)
    repeat refine nx rfl ?_
    (refine AA (Av rfl rfl (by first | exact AV (by omega) (by omega) | exact AY (by omega) (by omega) | exact AW (by omega) (by omega)) ?_) <;> refine AG rfl ?_)
    repeat refine nx rfl ?_
    obtain ⟨e2, b2⟩ := fin (true) wd W2 (Ext.refl _) (by rw [hrv, hlv]; rfl) p2
    refine ⟨k + 1, ⟨rfl, ⟨rfl, rfl, rfl, rfl, rfl, (by show Value.int .i64 ((k : Int) + 1) = _; rw [Int.natCast_add]; rfl), trivial⟩, ⟨by omega, e2, b2⟩⟩, by omega⟩
   | false =>
    rw [hlv] at hl
    (refine AA (AM rfl (AG rfl (AM rfl (AG rfl (BL rfl rfl rfl (by omega) (AF rfl (by assumption) ?_)))))) <;> refine AB rfl (AE rfl (AM rfl (AE rfl (AG rfl (AE rfl (BL rfl rfl rfl (by omega) (AE rfl (AF rfl (by assumption) ?_)))))))) <;> refine AE rfl (AB rfl (AE rfl (AM rfl (AE rfl (AP rfl (AE rfl (AG rfl (AE rfl (Av rfl rfl (by first | exact AV (by omega) (by omega) | exact AY (by omega) (by omega) | exact AW (by omega) (by omega)) ?_))))))))))
    refine AE rfl (AQ hplc rfl ?_)
    rintro _ W1 ⟨rfl, k1⟩
    have hs1 := k1.cell hs (by simp)
    have bW1 := bW.keep k1 (by simp)
    (refine AE rfl (Aq rfl rfl (by omega) (by omega) (AE rfl (AF rfl (Blk.cell (by assumption) (by rfl)) ?_))) <;> refine AE rfl (AJ rfl (AB rfl (AK rfl (AB rfl (BL rfl rfl rfl (by omega) ?_))))))
    refine Aa (v := .bool ((reS l r k).2)) rfl rfl rfl bW1 (by simp; omega) (fun W2 p2 => ?_)
    repeat refine nx rfl ?_
    (refine AA (Av rfl rfl (by first | exact AV (by omega) (by omega) | exact AY (by omega) (by omega) | exact AW (by omega) (by omega)) ?_) <;> refine AG rfl ?_)
    repeat refine nx rfl ?_
    obtain ⟨e2, b2⟩ := fin ((reS l r k).2) W1 W2 (k1) (by rw [hrv, hlv]; rfl) p2
    refine ⟨k + 1, ⟨rfl, ⟨rfl, rfl, rfl, rfl, rfl, (by show Value.int .i64 ((k : Int) + 1) = _; rw [Int.natCast_add]; rfl), trivial⟩, ⟨by omega, e2, b2⟩⟩, by omega⟩
 ·obtain rfl : k = 4 := by omega
  refine AA (Aj rfl rfl (by omega) ?_)
  repeat first | refine nx rfl ?_ | refine nf rfl ?_
  refine AA (AM rfl (AC (AM rfl ?_)))
  repeat refine nx rfl ?_
  exact AI rfl ⟨⟨_, rfl, bW⟩, kW⟩
end Go.Proofs.YtkhhjdjmhbdjfaaGreatDoor
namespace Go.Proofs.YtkhhjdjmhbdjfaaGreatDoor
open Go.RowKit
set_option linter.unusedVariables false
structure Lw (w : World) (c1 c3 t : Nat) (S : List Sgn) (xs : List Int) : Prop where
 b1 : Blk w c1 73 [pt t]
 b3 : Blk w c3 165 [.func (.func 148) #[] #[pt c1]]
 ax : Axs w t S xs
theorem Lw.ext {w w' : World} {c1 c3 t : Nat} {S : List Sgn} {xs : List Int} (h : Lw w c1 c3 t S xs) (k : Ext w w') : Lw w' c1 c3 t S xs := ⟨h.b1.keep k (by simp), h.b3.keep k (by simp), h.ax.ext k⟩
theorem const1_ok (w : World) (c : Nat) (b : Bool) (x : Value) (h : Blk w c 4 [.bool b]) : Fn Tryz.prog 150 [x, pt c] w fun u w' => u = .bool b ∧ Ext w w' := by
 refine AR Tryz.func150 rfl Tryz.ntmps150 (Nat.le_of_ble_eq_true rfl) (by kernel_rfl) ?_
 repeat refine nx rfl ?_
 refine AA (AC (AB rfl ?_))
 repeat refine nx rfl ?_
 (refine AA (AF rfl (Blk.cell (by assumption) (by rfl)) ?_) <;> refine AC (AB rfl ?_))
 repeat refine nx rfl ?_
 exact AI rfl ⟨rfl, Ext.refl _⟩
theorem tconst_ok (w : World) (c1 c3 t : Nat) (S : List Sgn) (xs : List Int) (b : Bool) (h : Lw w c1 c3 t S xs) : Fn Tryz.prog 148 [.bool b, pt c1] w fun u w' => Tru2 w' u (b, b) ∧ Ext w w' := by
 refine AR Tryz.func148 rfl Tryz.ntmps148 (Nat.le_of_ble_eq_true rfl) (by kernel_rfl) ?_
 repeat refine nx rfl ?_
 (refine AA ?_; refine A5 (L := [.bool b]) rfl (fun w1 n1 => ?_))
 refine AC (AM rfl ?_)
 repeat refine nx rfl ?_
 have h1 := h.ext n1.keep
 have c1 := h1.b1.cell (o := 0) rfl
 (refine AA (AF rfl (by assumption) ?_) <;> refine Ae rfl rfl ?_)
 refine AQ (each_ok w1 t S xs 150 [] [pt w.heap.size] (b, b) h1.ax (fun k W hk e => ?_)) rfl ?_
 ·have := const1_ok W w.heap.size b (.int .i64 (k : Int)) (n1.blk.keep e (by simp))
  rcases (by omega : k = 0 ∨ k = 1) with rfl | rfl <;> exact this
 rintro u w2 ⟨hu, e2, _⟩
 refine AC (Be ?_)
 repeat refine nx rfl ?_
 exact AI rfl ⟨hu, n1.keep.trans e2⟩
theorem ltrue_ok (w : World) (c1 c3 t : Nat) (S : List Sgn) (xs : List Int) (pv vv : Value) (h : Lw w c1 c3 t S xs) : Fn Tryz.prog 151 [pv, vv, pt c3] w fun u w' => Tru2 w' u (true, true) ∧ Ext w w' := by
 refine AR Tryz.func151 rfl Tryz.ntmps151 (Nat.le_of_ble_eq_true rfl) (by kernel_rfl) ?_
 repeat refine nx rfl ?_
 refine AA (AC (AM rfl ?_))
 repeat refine nx rfl ?_
 have h3 := h.b3.cell (o := 0) rfl
 refine AA (AF rfl (by assumption) ?_)
 refine BO (v1 := []) (v2 := [pt c1]) (vs := [.bool true]) rfl (tconst_ok w c1 c3 t S xs true h) rfl ?_
 rintro u w2 ⟨hu, e2⟩
 refine AC (Be ?_)
 repeat refine nx rfl ?_
 exact AI rfl ⟨hu, e2⟩
theorem lfalse_ok (w : World) (c1 c3 t : Nat) (S : List Sgn) (xs : List Int) (pv vv : Value) (h : Lw w c1 c3 t S xs) : Fn Tryz.prog 152 [pv, vv, pt c3] w fun u w' => Tru2 w' u (false, false) ∧ Ext w w' := by
 refine AR Tryz.func152 rfl Tryz.ntmps152 (Nat.le_of_ble_eq_true rfl) (by kernel_rfl) ?_
 repeat refine nx rfl ?_
 refine AA (AC (AM rfl ?_))
 repeat refine nx rfl ?_
 have h3 := h.b3.cell (o := 0) rfl
 refine AA (AF rfl (by assumption) ?_)
 refine BO (v1 := []) (v2 := [pt c1]) (vs := [.bool false]) rfl (tconst_ok w c1 c3 t S xs false h) rfl ?_
 rintro u w2 ⟨hu, e2⟩
 refine AC (Be ?_)
 repeat refine nx rfl ?_
 exact AI rfl ⟨hu, e2⟩
theorem lnot1_ok (w : World) (c : Nat) (v : Value) (rs : List (Bool × Bool)) (r : Bool × Bool) (k : Nat) (hk : k < 2) (hb : Blk w c 138 [v]) (hv : Trus w v rs) (hr : rs[0]? = some r) : Fn Tryz.prog 157 [.int .i64 (k : Int), pt c] w fun u w' => u = .bool (!at2 r k) ∧ Ext w w' := by
 obtain ⟨g, rfl, hc⟩ := hv.at
 obtain ⟨u, hu, hui⟩ := hc 0 r hr
 have hc2 := hui k hk
 have hl := (List.getElem?_eq_some_iff.1 hr).1
 refine AR Tryz.func157 rfl Tryz.ntmps157 (Nat.le_of_ble_eq_true rfl) (by kernel_rfl) ?_
 repeat refine nx rfl ?_
 refine AA (AC (AB rfl ?_))
 repeat refine nx rfl ?_
 (refine AA (AF rfl (Blk.cell (by assumption) (by rfl)) ?_) <;> refine BL rfl rfl rfl (by omega) (AF rfl (by assumption) ?_) <;> refine AG rfl (BL rfl rfl rfl (by omega) (AF rfl (by assumption) ?_)) <;> refine Ak rfl (AC (AB rfl ?_)))
 repeat refine nx rfl ?_
 exact AI rfl ⟨rfl, Ext.refl _⟩
theorem lnot_ok (w : World) (c1 c3 t : Nat) (S : List Sgn) (xs : List Int) (pv vv : Value) (rs : List (Bool × Bool)) (r : Bool × Bool) (h : Lw w c1 c3 t S xs) (hv : Trus w vv rs) (hr : rs[0]? = some r) : Fn Tryz.prog 156 [pv, vv, pt c1] w fun u w' => Tru2 w' u (!r.1, !r.2) ∧ Ext w w' := by
 have hv0 := hv
 obtain ⟨g, rfl, hc⟩ := hv.at
 refine AR Tryz.func156 rfl Tryz.ntmps156 (Nat.le_of_ble_eq_true rfl) (by kernel_rfl) ?_
 repeat refine nx rfl ?_
 (refine AA ?_; refine A5 (L := [.slice (some ⟨g, 0, none⟩) rs.length rs.length]) rfl (fun w1 n1 => ?_))
 refine AC (AM rfl ?_)
 repeat refine nx rfl ?_
 have h1 := h.ext n1.keep
 have c1' := h1.b1.cell (o := 0) rfl
 (refine AA (AF rfl (by assumption) ?_) <;> refine Ae rfl rfl ?_)
 refine AQ (each_ok w1 t S xs 157 [] [pt w.heap.size] (!r.1, !r.2) h1.ax (fun k W hk e => ?_)) rfl ?_
 ·have := lnot1_ok W w.heap.size _ rs r k hk (n1.blk.keep e (by simp)) ((hv0.ext n1.keep).ext e) hr
  rcases (by omega : k = 0 ∨ k = 1) with rfl | rfl <;> exact this
 rintro u w2 ⟨hu, e2, _⟩
 refine AC (Be ?_)
 repeat refine nx rfl ?_
 exact AI rfl ⟨hu, n1.keep.trans e2⟩
theorem lor1_ok (w : World) (c : Nat) (v : Value) (rs : List (Bool × Bool)) (k : Nat) (hk : k < 2) (hrl : rs.length ≤ 1000000) (hb : Blk w c 138 [v]) (hv : Trus w v rs) : Fn Tryz.prog 162 [.int .i64 (k : Int), pt c] w fun u w' => u = .bool (!rs.all fun r => !at2 r k) ∧ Ext w w' := by
 have hv0 := hv
 obtain ⟨g, rfl, hc⟩ := hv.at
 refine AR Tryz.func162 rfl Tryz.ntmps162 (Nat.le_of_ble_eq_true rfl) (by kernel_rfl) ?_
 repeat refine nx rfl ?_
 refine AA (AC (AB rfl ?_))
 repeat refine nx rfl ?_
 (refine AA (AF rfl (Blk.cell (by assumption) (by rfl)) ?_) <;> refine AG rfl ?_)
 refine AQ (all_ok w _ rs k hk hrl hv0) rfl ?_
 rintro _ w1 ⟨rfl, k1⟩
 refine Ak rfl (AC (AB rfl ?_))
 repeat refine nx rfl ?_
 exact AI rfl ⟨rfl, k1⟩
def orS (rs : List (Bool × Bool)) : Bool × Bool := (!rs.all fun r => !at2 r 0, !rs.all fun r => !at2 r 1)
theorem lor_ok (w : World) (c1 c3 t : Nat) (S : List Sgn) (xs : List Int) (pv vv : Value) (rs : List (Bool × Bool)) (hrl : rs.length ≤ 1000000) (h : Lw w c1 c3 t S xs) (hv : Trus w vv rs) : Fn Tryz.prog 161 [pv, vv, pt c1] w fun u w' => Tru2 w' u (orS rs) ∧ Ext w w' := by
 have hv0 := hv
 obtain ⟨g, rfl, hc⟩ := hv.at
 refine AR Tryz.func161 rfl Tryz.ntmps161 (Nat.le_of_ble_eq_true rfl) (by kernel_rfl) ?_
 repeat refine nx rfl ?_
 (refine AA ?_; refine A5 (L := [.slice (some ⟨g, 0, none⟩) rs.length rs.length]) rfl (fun w1 n1 => ?_))
 refine AC (AM rfl ?_)
 repeat refine nx rfl ?_
 have h1 := h.ext n1.keep
 have c1' := h1.b1.cell (o := 0) rfl
 (refine AA (AF rfl (by assumption) ?_) <;> refine Ae rfl rfl ?_)
 refine AQ (each_ok w1 t S xs 162 [] [pt w.heap.size] (orS rs) h1.ax (fun k W hk e => ?_)) rfl ?_
 ·have := lor1_ok W w.heap.size _ rs k hk hrl (n1.blk.keep e (by simp)) ((hv0.ext n1.keep).ext e)
  rcases (by omega : k = 0 ∨ k = 1) with rfl | rfl <;> exact this
 rintro u w2 ⟨hu, e2, _⟩
 refine AC (Be ?_)
 repeat refine nx rfl ?_
 exact AI rfl ⟨hu, n1.keep.trans e2⟩
theorem luntil_ok (w : World) (c1 c3 t : Nat) (S : List Sgn) (xs : List Int) (pv vv : Value) (l r : Bool × Bool) (h : Lw w c1 c3 t S xs) (hv : Trus w vv [l, r]) : Fn Tryz.prog 167 [pv, vv, pt c1] w fun u w' => Tru2 w' u (unS l r 4) ∧ Ext w w' := by
 obtain ⟨g, vs, ev, hb, hr⟩ := hv
 replace ev : vv = .slice (some ⟨g, 0, none⟩) 2 2 := ev
 subst ev
 obtain ⟨u0, e0, t0⟩ := hr 0 l rfl
 obtain ⟨u1, e1, t1⟩ := hr 1 r rfl
 obtain ⟨g0, x0, _⟩ := id t0
 obtain ⟨g1, x1, _⟩ := id t1
 subst x0 x1
 have q0 := hb.cell e0
 have q1 := hb.cell e1
 refine AR Tryz.func167 rfl Tryz.ntmps167 (Nat.le_of_ble_eq_true rfl) (by kernel_rfl) ?_
 repeat refine nx rfl ?_
 refine AA (AC (AM rfl ?_))
 repeat refine nx rfl ?_
 refine Ad (.read 0 (.read 1 (.read 2 (.read 3 (.read 4 (.read 5 (.read 6 (.alt 7 (.read 8 .done) .stop)))))))) Ax (by kernel_rfl) (fun wd kd ed => ⟨Ext wd, ?_, ?_⟩)
 ·exact Ext.refl _
 have s0 : ∀ V, Ext wd V → V.cell? ⟨c1, 0, none⟩ = some (pt t) := fun V e => (h.b1.keep (kd.trans e) (by simp)).cell rfl
 have s1 : ∀ V, Ext wd V → V.cell? ⟨g, 0 + 0, none⟩ = some (.slice (some ⟨g0, 0, none⟩) 2 2) := fun V e => (kd.trans e).cell q0 (by simp)
 have s2 : ∀ V, Ext wd V → V.cell? ⟨g, 0 + 1, none⟩ = some (.slice (some ⟨g1, 0, none⟩) 2 2) := fun V e => (kd.trans e).cell q1 (by simp)
 refine D_R rfl rfl (fun W hW => AF rfl (s0 W hW) Z3) (D_R rfl rfl (fun W hW => AM rfl Z3) (D_R rfl rfl (fun W hW => Aq rfl rfl (by omega) (by omega) Z3) (D_R rfl rfl (fun W hW => AF rfl (s1 W hW) Z3) (D_R rfl rfl (fun W hW => AM rfl Z3) (D_R rfl rfl (fun W hW => Aq rfl rfl (by omega) (by omega) Z3) (D_R rfl rfl (fun W hW => AF rfl (s2 W hW) Z3) ?_))))))
 refine D_E rfl ?_
 refine AQ (until_ok wd t S xs _ _ l r (h.ax.ext kd) (t0.ext kd) (t1.ext kd)) rfl ?_
 rintro u w2 ⟨hu, k2⟩
 refine AO ⟨Ext wd, fun _ e => e, k2, ?_⟩
 refine D_R rfl rfl (fun W hW => AC (Be Z3)) (Ah ?_)
 repeat refine nx rfl ?_
 exact AI rfl ⟨hu, kd.trans k2⟩
theorem lrel_ok (w : World) (c1 c3 t : Nat) (S : List Sgn) (xs : List Int) (pv vv : Value) (l r : Bool × Bool) (h : Lw w c1 c3 t S xs) (hv : Trus w vv [l, r]) : Fn Tryz.prog 169 [pv, vv, pt c1] w fun u w' => Tru2 w' u (reS l r 4) ∧ Ext w w' := by
 obtain ⟨g, vs, ev, hb, hr⟩ := hv
 replace ev : vv = .slice (some ⟨g, 0, none⟩) 2 2 := ev
 subst ev
 obtain ⟨u0, e0, t0⟩ := hr 0 l rfl
 obtain ⟨u1, e1, t1⟩ := hr 1 r rfl
 obtain ⟨g0, x0, _⟩ := id t0
 obtain ⟨g1, x1, _⟩ := id t1
 subst x0 x1
 have q0 := hb.cell e0
 have q1 := hb.cell e1
 refine AR Tryz.func169 rfl Tryz.ntmps169 (Nat.le_of_ble_eq_true rfl) (by kernel_rfl) ?_
 repeat refine nx rfl ?_
 refine AA (AC (AM rfl ?_))
 repeat refine nx rfl ?_
 refine Ad (.read 0 (.read 1 (.read 2 (.read 3 (.read 4 (.read 5 (.read 6 (.alt 7 (.read 8 .done) .stop)))))))) Ax (by kernel_rfl) (fun wd kd ed => ⟨Ext wd, ?_, ?_⟩)
 ·exact Ext.refl _
 have s0 : ∀ V, Ext wd V → V.cell? ⟨c1, 0, none⟩ = some (pt t) := fun V e => (h.b1.keep (kd.trans e) (by simp)).cell rfl
 have s1 : ∀ V, Ext wd V → V.cell? ⟨g, 0 + 0, none⟩ = some (.slice (some ⟨g0, 0, none⟩) 2 2) := fun V e => (kd.trans e).cell q0 (by simp)
 have s2 : ∀ V, Ext wd V → V.cell? ⟨g, 0 + 1, none⟩ = some (.slice (some ⟨g1, 0, none⟩) 2 2) := fun V e => (kd.trans e).cell q1 (by simp)
 refine D_R rfl rfl (fun W hW => AF rfl (s0 W hW) Z3) (D_R rfl rfl (fun W hW => AM rfl Z3) (D_R rfl rfl (fun W hW => Aq rfl rfl (by omega) (by omega) Z3) (D_R rfl rfl (fun W hW => AF rfl (s1 W hW) Z3) (D_R rfl rfl (fun W hW => AM rfl Z3) (D_R rfl rfl (fun W hW => Aq rfl rfl (by omega) (by omega) Z3) (D_R rfl rfl (fun W hW => AF rfl (s2 W hW) Z3) ?_))))))
 refine D_E rfl ?_
 refine AQ (release_ok wd t S xs _ _ l r (h.ax.ext kd) (t0.ext kd) (t1.ext kd)) rfl ?_
 rintro u w2 ⟨hu, k2⟩
 refine AO ⟨Ext wd, fun _ e => e, k2, ?_⟩
 refine D_R rfl rfl (fun W hW => AC (Be Z3)) (Ah ?_)
 repeat refine nx rfl ?_
 exact AI rfl ⟨hu, kd.trans k2⟩
theorem lis1_ok (w : World) (c1 ci cf b o t i : Nat) (S : List Sgn) (xs : List Int) (x vl : Int) (k : Nat) (hk : k < 2) (hx : xs[k]? = some x) (hi : i < S.length) (h1 : Blk w c1 73 [pt t]) (hI : Blk w ci 3 [.int .i64 (i : Int)]) (hF : Blk w cf 50 [.pointer (some ⟨b, o, none⟩)]) (hA : Axs w t S xs) (q2 : w.cell? ⟨b, o + 2, none⟩ = some (.int .i64 vl)) :
  Fn Tryz.prog 154 [.int .i64 (k : Int), pt c1, pt ci, pt cf] w fun u w' => u = .bool (decide (Cr S x i = vl)) ∧ Ext w w' := by
 refine AR Tryz.func154 rfl Tryz.ntmps154 (Nat.le_of_ble_eq_true rfl) (by kernel_rfl) ?_
 repeat refine nx rfl ?_
 refine AA (AC (AB rfl ?_))
 repeat refine nx rfl ?_
 refine Ad (.read 0 (.read 1 (.read 2 (.read 4 (.read 5 (.read 6 (.read 7 (.alt 3 (.read 8 (.read 9 .done)) .stop)))))))) Ax (by kernel_rfl) (fun wd kd ed => ⟨Ext wd, ?_, ?_⟩)
 ·exact Ext.refl _
 have s1 : ∀ V, Ext wd V → V.cell? ⟨c1, 0, none⟩ = some (pt t) := fun V e => (h1.keep (kd.trans e) (by simp)).cell rfl
 have s2 : ∀ V, Ext wd V → V.cell? ⟨ci, 0, none⟩ = some (.int .i64 (i : Int)) := fun V e => (hI.keep (kd.trans e) (by simp)).cell rfl
 have s3 : ∀ V, Ext wd V → V.cell? ⟨cf, 0, none⟩ = some (.pointer (some ⟨b, o, none⟩)) := fun V e => (hF.keep (kd.trans e) (by simp)).cell rfl
 have s4 : ∀ V, Ext wd V → V.cell? ⟨b, o + 2, none⟩ = some (.int .i64 vl) := fun V e => (kd.trans e).cell q2 (by simp)
 refine D_R rfl rfl (fun W hW => AF rfl (s1 W hW) Z3) (D_R rfl rfl (fun W hW => AG rfl Z3) (D_R rfl rfl (fun W hW => AF rfl (s2 W hW) Z3) (D_R rfl rfl (fun W hW => AF rfl (s3 W hW) Z3) (D_R rfl rfl (fun W hW => AH rfl Z3) (D_R rfl rfl (fun W hW => AD rfl Z3) (D_R rfl rfl (fun W hW => AF rfl (s4 W hW) Z3) ?_))))))
 refine D_E rfl ?_
 refine AQ (avalue_ok wd t S xs k i x (hA.ext kd) hk hx hi) rfl ?_
 rintro _ w2 ⟨rfl, k2⟩
 refine AO ⟨Ext wd, fun _ e => e, k2, ?_⟩
 by_cases hv : Cr S x i = vl
 ·rw [decide_eq_true hv]
  refine D_eqlT rfl rfl rfl rfl (by omega) (D_R rfl rfl (fun W hW => AC (AB rfl Z3)) (Ah ?_))
  repeat refine nx rfl ?_
  exact AI rfl ⟨rfl, kd.trans k2⟩
 ·rw [decide_eq_false hv]
  refine D_eqlF rfl rfl rfl rfl (by omega) (D_R rfl rfl (fun W hW => AC (AB rfl Z3)) (Ah ?_))
  repeat refine nx rfl ?_
  exact AI rfl ⟨rfl, kd.trans k2⟩
def isS (S : List Sgn) (xs : List Int) (nm : List UInt8) (v : Int) : Bool × Bool := (decide (vlS S (xs.getD 0 0) nm = v), decide (vlS S (xs.getD 1 0) nm = v))
theorem lis_ok (w : World) (c1 c3 t b o : Nat) (S : List Sgn) (xs : List Int) (vv : Value) (nm : List UInt8) (vl : Int) (h : Lw w c1 c3 t S xs) (hxl : xs.length = 2) (hk : knS S nm vl = true) (q1 : w.cell? ⟨b, o + 1, none⟩ = some (An nm)) (q2 : w.cell? ⟨b, o + 2, none⟩ = some (.int .i64 vl)) :
  Fn Tryz.prog 153 [.pointer (some ⟨b, o, none⟩), vv, pt c1] w fun u w' => Tru2 w' u (isS S xs nm vl) ∧ Ext w w' := by
 obtain ⟨i, s, hj, hs, hvs⟩ := kn_find hk
 have hil := (List.getElem?_eq_some_iff.1 hs).1
 have hfm : Cs S nm = (i : Int) := by unfold Cs; rw [hj]
 have hvl : ∀ x, vlS S x nm = Cr S x i := fun x => by unfold vlS; rw [hj]
 refine AR Tryz.func153 rfl Tryz.ntmps153 (Nat.le_of_ble_eq_true rfl) (by kernel_rfl) ?_
 repeat refine nx rfl ?_
 (refine AA ?_; refine A5 (L := [.pointer (some ⟨b, o, none⟩)]) rfl (fun w1 n1 => ?_))
 refine AC (AM rfl ?_)
 repeat refine nx rfl ?_
 have h1 := h.ext n1.keep
 have bf := n1.blk
 have q1' := n1.keep.cell q1 (by simp)
 have q2' := n1.keep.cell q2 (by simp)
 obtain ⟨sa, sc, lb, lo, lc, hb, hS, _⟩ := id h1.ax
 refine Ad (.read 0 (.read 1 (.read 2 (.read 3 (.read 4 (.read 5 (.read 6 (.read 7 (.alt 8 (.alt 9 (.alt 10 .done .stop) .stop) (.alt 9 (.alt 8 (.alt 10 .done .stop) .stop) .stop)))))))))) Ax (by kernel_rfl) (fun wd kd ed => ⟨Ext wd, ?_, ?_⟩)
 ·exact Ext.refl _
 have s0 : ∀ V, Ext wd V → V.cell? ⟨c1, 0, none⟩ = some (pt t) := fun V e => (h1.b1.keep (kd.trans e) (by simp)).cell rfl
 have s1 : ∀ V, Ext wd V → V.cell? ⟨t, 0 + 0, none⟩ = some (.slice sa S.length sc) := fun V e => (hb.keep (kd.trans e) (by simp)).cell rfl
 have s2 : ∀ V, Ext wd V → V.cell? ⟨w.heap.size, 0, none⟩ = some (.pointer (some ⟨b, o, none⟩)) := fun V e => (bf.keep (kd.trans e) (by simp)).cell rfl
 have s3 : ∀ V, Ext wd V → V.cell? ⟨b, o + 1, none⟩ = some (An nm) := fun V e => (kd.trans e).cell q1' (by simp)
 refine D_R rfl rfl (fun W hW => AF rfl (s0 W hW) Z3) (D_R rfl rfl (fun W hW => AH rfl Z3) (D_R rfl rfl (fun W hW => AD rfl Z3) (D_R rfl rfl (fun W hW => AF rfl (s1 W hW) Z3) (D_R rfl rfl (fun W hW => AF rfl (s2 W hW) Z3) (D_R rfl rfl (fun W hW => AH rfl Z3) (D_R rfl rfl (fun W hW => AD rfl Z3) (D_R rfl rfl (fun W hW => AF rfl (s3 W hW) Z3) ?_)))))))
 refine D_A rfl ?_ (D_E rfl ?_)
 ·refine AQ (sigFind_ok wd _ S nm (hS.ext kd)) rfl ?_
  rintro _ wd ⟨rfl, rfl⟩
  rw [hfm]
  refine AO ⟨Ext wd, fun _ e => e, Ext.refl _, ?_⟩
  refine D_E rfl ?_
  refine Ar (fun w3 n3 => ?_)
  refine AO ⟨Ext wd, fun _ e => e, n3.keep, ?_⟩
  refine D_E rfl ?_
  refine Aa (v := .int .i64 (i : Int)) rfl rfl rfl n3.blk (by simp) (fun w4 p4 => ?_)
  refine AO ⟨Ext wd, fun _ h => h, n3.keep.keep p4.keep (by simp), ?_⟩
  refine Ah ?_
  repeat refine nx rfl ?_
  have e4 := (kd.trans n3.keep).keep p4.keep (by have := kd.size; simp; omega)
  have b4 : Blk w4 wd.heap.size 3 [.int .i64 (i : Int)] := p4.blk
  have h4 := h1.ext e4
  have bf4 := bf.keep e4 (by simp)
  have c4 := h4.b1.cell (o := 0) rfl
  (refine AA (AF rfl (by assumption) ?_) <;> refine Ae rfl rfl ?_)
  refine AQ (each_ok w4 t S xs 154 [] [pt c1, pt wd.heap.size, pt w.heap.size] (isS S xs nm vl) h4.ax (fun k W hk e => ?_)) rfl ?_
  ·obtain ⟨x, hx⟩ : ∃ x, xs[k]? = some x := ⟨_, List.getElem?_eq_getElem (by omega)⟩
   have hb : at2 (isS S xs nm vl) k = decide (Cr S x i = vl) := by
    rw [← hvl x]
    rcases (by omega : k = 0 ∨ k = 1) with rfl | rfl <;> simp [at2, isS, List.getD, hx]
   rw [hb]
   exact lis1_ok W c1 wd.heap.size w.heap.size b o t i S xs x vl k hk hx hil (h4.b1.keep e (by simp)) (b4.keep e (by simp)) (bf4.keep e (by simp)) (h4.ax.ext e) ((e4.trans e).cell q2' (by simp))
  rintro u w5 ⟨hu, e5, _⟩
  refine AC (Be ?_)
  repeat refine nx rfl ?_
  exact AI rfl ⟨hu, (n1.keep.trans e4).trans e5⟩
 ·refine Ar (fun w3 n3 => ?_)
  refine AO ⟨Ext wd, fun _ e => e, n3.keep, ?_⟩
  refine D_E rfl ?_
  refine AQ (sigFind_ok w3 _ S nm (hS.ext (kd.trans n3.keep))) rfl ?_
  rintro _ w3 ⟨rfl, rfl⟩
  rw [hfm]
  refine AO ⟨Ext wd, fun _ e => e, n3.keep, ?_⟩
  refine D_E rfl ?_
  refine Aa (v := .int .i64 (i : Int)) rfl rfl rfl n3.blk (by simp) (fun w4 p4 => ?_)
  refine AO ⟨Ext wd, fun _ h => h, n3.keep.keep p4.keep (by simp), ?_⟩
  refine Ah ?_
  repeat refine nx rfl ?_
  have e4 := (kd.trans n3.keep).keep p4.keep (by have := kd.size; simp; omega)
  have b4 : Blk w4 wd.heap.size 3 [.int .i64 (i : Int)] := p4.blk
  have h4 := h1.ext e4
  have bf4 := bf.keep e4 (by simp)
  have c4 := h4.b1.cell (o := 0) rfl
  (refine AA (AF rfl (by assumption) ?_) <;> refine Ae rfl rfl ?_)
  refine AQ (each_ok w4 t S xs 154 [] [pt c1, pt wd.heap.size, pt w.heap.size] (isS S xs nm vl) h4.ax (fun k W hk e => ?_)) rfl ?_
  ·obtain ⟨x, hx⟩ : ∃ x, xs[k]? = some x := ⟨_, List.getElem?_eq_getElem (by omega)⟩
   have hb : at2 (isS S xs nm vl) k = decide (Cr S x i = vl) := by
    rw [← hvl x]
    rcases (by omega : k = 0 ∨ k = 1) with rfl | rfl <;> simp [at2, isS, List.getD, hx]
   rw [hb]
   exact lis1_ok W c1 wd.heap.size w.heap.size b o t i S xs x vl k hk hx hil (h4.b1.keep e (by simp)) (b4.keep e (by simp)) (bf4.keep e (by simp)) (h4.ax.ext e) ((e4.trans e).cell q2' (by simp))
  rintro u w5 ⟨hu, e5, _⟩
  refine AC (Be ?_)
  repeat refine nx rfl ?_
  exact AI rfl ⟨hu, (n1.keep.trans e4).trans e5⟩
end Go.Proofs.YtkhhjdjmhbdjfaaGreatDoor
namespace Go.Proofs.YtkhhjdjmhbdjfaaGreatDoor
open Go.RowKit
set_option linter.unusedVariables false
abbrev mvT (F : FuncId) (l : List Value) : Value := .func (.func F) #[] l.toArray
def lawT (c1 c3 : Nat) : List (Int × Value) := [(1, mvT 151 [pt c3]), (2, mvT 152 [pt c3]), (3, mvT 153 [pt c1]), (4, mvT 156 [pt c1]), (5, mvT 158 [pt c1]), (6, mvT 161 [pt c1]), (7, mvT 163 [pt c1]), (8, mvT 165 [pt c1]), (9, mvT 167 [pt c1]), (10, mvT 169 [pt c1]), (11, mvT 171 [pt c1, pt c3]), (12, mvT 172 [pt c1, pt c3]), (13, mvT 173 [pt c1]), (14, mvT 176 [pt c1]), (15, mvT 178 [pt c1]), (16, mvT 180 [pt c1]), (17, mvT 182 [pt c1]), (18, mvT 184 [pt c1, pt c3]), (19, mvT 185 [pt c1, pt c3])]
instance : VMapT Tryz.prog 136 .nilFunc := vmapT_of Tryz.underlying136 Tryz.underlying3 (by kernel_rfl)
set_option maxHeartbeats 4000000 in
theorem laws_ok (w : World) (t : Nat) (S : List Sgn) (xs : List Int) (h : Axs w t S xs) : Fn Tryz.prog 125 [pt t] w fun u w' => ∃ m c1 c3, u = .map (some m) ∧ Ext w w' ∧ Lw w' c1 c3 t S xs ∧ VMap w' m (lawT c1 c3) := by
 refine AR Tryz.func125 rfl Tryz.ntmps125 (Nat.le_of_ble_eq_true rfl) (by kernel_rfl) ?_
 repeat refine nx rfl ?_
 (refine AA ?_; refine A5 (L := [pt t]) rfl (fun w1 n1 => ?_))
 refine AC (M_map rfl ?_)
 repeat refine nx rfl ?_
 refine AA (Ae rfl rfl ?_)
 refine Ar (fun w2 n2 => ?_)
 refine Aa (v := .func (.func 148) #[] #[pt w.heap.size]) rfl rfl rfl n2.blk (by simp) (fun w3 p3 => ?_)
 repeat refine nx rfl ?_
 have z1 := n1.size
 have z2 := n2.size
 have z3 := p3.size
 have k3 : Ext w1 w3 := n2.keep.keep p3.keep (by simp)
 have hL : Lw w3 w.heap.size w1.heap.size t S xs := ⟨n1.blk.keep k3 (by simp), p3.blk, h.ext (n1.keep.trans k3)⟩
 have e3 : Ext w w3 := n1.keep.trans k3
 obtain ⟨c3, hc3⟩ : ∃ c3, c3 = w1.heap.size := ⟨_, rfl⟩
 rw [← hc3] at hL ⊢
 clear n2 p3 k3
 refine AA ?_
 refine W_makeMapV (fun wx0 yx0 zx0 mx0 => ?_)
 refine Ae rfl rfl ?_
 refine A6 rfl rfl rfl mx0 rfl (fun wx1 kx1 zx1 mx1 => ?_)
 have yx1 := (yx0).keep kx1 (by simp)
 replace zx1 := zx1.trans zx0
 clear mx0 yx0 zx0 kx1
 refine Ae rfl rfl ?_
 refine A6 rfl rfl rfl mx1 rfl (fun wx2 kx2 zx2 mx2 => ?_)
 have yx2 := (yx1).keep kx2 (by simp)
 replace zx2 := zx2.trans zx1
 clear mx1 yx1 zx1 kx2
 refine Ae rfl rfl ?_
 refine A6 rfl rfl rfl mx2 rfl (fun wx3 kx3 zx3 mx3 => ?_)
 have yx3 := (yx2).keep kx3 (by simp)
 replace zx3 := zx3.trans zx2
 clear mx2 yx2 zx2 kx3
 refine Ae rfl rfl ?_
 refine A6 rfl rfl rfl mx3 rfl (fun wx4 kx4 zx4 mx4 => ?_)
 have yx4 := (yx3).keep kx4 (by simp)
 replace zx4 := zx4.trans zx3
 clear mx3 yx3 zx3 kx4
 refine Ae rfl rfl ?_
 refine A6 rfl rfl rfl mx4 rfl (fun wx5 kx5 zx5 mx5 => ?_)
 have yx5 := (yx4).keep kx5 (by simp)
 replace zx5 := zx5.trans zx4
 clear mx4 yx4 zx4 kx5
 refine Ae rfl rfl ?_
 refine A6 rfl rfl rfl mx5 rfl (fun wx6 kx6 zx6 mx6 => ?_)
 have yx6 := (yx5).keep kx6 (by simp)
 replace zx6 := zx6.trans zx5
 clear mx5 yx5 zx5 kx6
 refine Ae rfl rfl ?_
 refine A6 rfl rfl rfl mx6 rfl (fun wx7 kx7 zx7 mx7 => ?_)
 have yx7 := (yx6).keep kx7 (by simp)
 replace zx7 := zx7.trans zx6
 clear mx6 yx6 zx6 kx7
 refine Ae rfl rfl ?_
 refine A6 rfl rfl rfl mx7 rfl (fun wx8 kx8 zx8 mx8 => ?_)
 have yx8 := (yx7).keep kx8 (by simp)
 replace zx8 := zx8.trans zx7
 clear mx7 yx7 zx7 kx8
 refine Ae rfl rfl ?_
 refine A6 rfl rfl rfl mx8 rfl (fun wx9 kx9 zx9 mx9 => ?_)
 have yx9 := (yx8).keep kx9 (by simp)
 replace zx9 := zx9.trans zx8
 clear mx8 yx8 zx8 kx9
 refine Ae rfl rfl ?_
 refine A6 rfl rfl rfl mx9 rfl (fun wx10 kx10 zx10 mx10 => ?_)
 have yx10 := (yx9).keep kx10 (by simp)
 replace zx10 := zx10.trans zx9
 clear mx9 yx9 zx9 kx10
 refine Ae rfl rfl ?_
 refine A6 rfl rfl rfl mx10 rfl (fun wx11 kx11 zx11 mx11 => ?_)
 have yx11 := (yx10).keep kx11 (by simp)
 replace zx11 := zx11.trans zx10
 clear mx10 yx10 zx10 kx11
 refine Ae rfl rfl ?_
 refine A6 rfl rfl rfl mx11 rfl (fun wx12 kx12 zx12 mx12 => ?_)
 have yx12 := (yx11).keep kx12 (by simp)
 replace zx12 := zx12.trans zx11
 clear mx11 yx11 zx11 kx12
 refine Ae rfl rfl ?_
 refine A6 rfl rfl rfl mx12 rfl (fun wx13 kx13 zx13 mx13 => ?_)
 have yx13 := (yx12).keep kx13 (by simp)
 replace zx13 := zx13.trans zx12
 clear mx12 yx12 zx12 kx13
 refine Ae rfl rfl ?_
 refine A6 rfl rfl rfl mx13 rfl (fun wx14 kx14 zx14 mx14 => ?_)
 have yx14 := (yx13).keep kx14 (by simp)
 replace zx14 := zx14.trans zx13
 clear mx13 yx13 zx13 kx14
 refine Ae rfl rfl ?_
 refine A6 rfl rfl rfl mx14 rfl (fun wx15 kx15 zx15 mx15 => ?_)
 have yx15 := (yx14).keep kx15 (by simp)
 replace zx15 := zx15.trans zx14
 clear mx14 yx14 zx14 kx15
 refine Ae rfl rfl ?_
 refine A6 rfl rfl rfl mx15 rfl (fun wx16 kx16 zx16 mx16 => ?_)
 have yx16 := (yx15).keep kx16 (by simp)
 replace zx16 := zx16.trans zx15
 clear mx15 yx15 zx15 kx16
 refine Ae rfl rfl ?_
 refine A6 rfl rfl rfl mx16 rfl (fun wx17 kx17 zx17 mx17 => ?_)
 have yx17 := (yx16).keep kx17 (by simp)
 replace zx17 := zx17.trans zx16
 clear mx16 yx16 zx16 kx17
 refine Ae rfl rfl ?_
 refine A6 rfl rfl rfl mx17 rfl (fun wx18 kx18 zx18 mx18 => ?_)
 have yx18 := (yx17).keep kx18 (by simp)
 replace zx18 := zx18.trans zx17
 clear mx17 yx17 zx17 kx18
 refine Ae rfl rfl ?_
 refine A6 rfl rfl rfl mx18 rfl (fun wx19 kx19 zx19 mx19 => ?_)
 have yx19 := (yx18).keep kx19 (by simp)
 replace zx19 := zx19.trans zx18
 clear mx18 yx18 zx18 kx19
 refine M_map rfl (AC (M_map rfl ?_))
 repeat refine nx rfl ?_
 have kk := yx19
 exact AI rfl ⟨_, _, _, rfl, e3.trans kk, hL.ext kk, mx19⟩
end Go.Proofs.YtkhhjdjmhbdjfaaGreatDoor
namespace Go.Proofs.YtkhhjdjmhbdjfaaGreatDoor
open Go.RowKit
set_option linter.unusedVariables false
def rowO (S : List Sgn) (xs : List Int) (op : Int) (nm : List UInt8) (v : Int) (rs : List (Bool × Bool)) : Bool × Bool :=
 if op = 1 then (true, true) else if op = 2 then (false, false) else if op = 3 then isS S xs nm v
 else if op = 4 then (!(rs.getD 0 (false, false)).1, !(rs.getD 0 (false, false)).2) else if op = 6 then orS rs
 else if op = 9 then unS (rs.getD 0 (false, false)) (rs.getD 1 (false, false)) 4 else reS (rs.getD 0 (false, false)) (rs.getD 1 (false, false)) 4
mutual
def rowM (S : List Sgn) (xs : List Int) : Fml → Bool × Bool
 | .mk op nm v _ args => rowO S xs op nm v (rowML S xs args)
def rowML (S : List Sgn) (xs : List Int) : List Fml → List (Bool × Bool)
 | [] => []
 | f :: l => rowM S xs f :: rowML S xs l
end
theorem rowML_eq (S : List Sgn) (xs : List Int) : ∀ l, rowML S xs l = l.map (rowM S xs)
 | [] => rfl
 | f :: l => by rw [rowML, rowML_eq S xs l]; rfl
theorem law_at (w : World) (c1 c3 t b o : Nat) (S : List Sgn) (xs : List Int) (op : Int) (nm : List UInt8) (v : Int) (rs : List (Bool × Bool)) (h : Lw w c1 c3 t S xs) (hxl : xs.length = 2) (hrl : rs.length ≤ 1000000)
  (hop : op = 1 ∨ op = 2 ∨ (op = 3 ∧ knS S nm v = true) ∨ (op = 4 ∧ rs.length = 1) ∨ op = 6 ∨ ((op = 9 ∨ op = 10) ∧ rs.length = 2)) (q1 : w.cell? ⟨b, o + 1, none⟩ = some (An nm)) (q2 : w.cell? ⟨b, o + 2, none⟩ = some (.int .i64 v)) :
  ∃ (F : FuncId) (_ : AS Tryz.prog F) (caps : List Value), (lawT c1 c3).lookup op = some (mvT F caps) ∧ ∀ W vv, Ext w W → Trus W vv rs → Fn Tryz.prog F ([.pointer (some ⟨b, o, none⟩), vv] ++ caps) W fun u w' => Tru2 w' u (rowO S xs op nm v rs) ∧ Ext W w' := by
 rcases hop with rfl | rfl | ⟨rfl, hk⟩ | ⟨rfl, h1⟩ | rfl | ⟨rfl | rfl, h2⟩
 ·exact ⟨_, inferInstance, [pt c3], rfl, fun W vv e hv => ltrue_ok W c1 c3 t S xs _ vv (h.ext e)⟩
 ·exact ⟨_, inferInstance, [pt c3], rfl, fun W vv e hv => lfalse_ok W c1 c3 t S xs _ vv (h.ext e)⟩
 ·exact ⟨_, inferInstance, [pt c1], rfl, fun W vv e hv => lis_ok W c1 c3 t b o S xs vv nm v (h.ext e) hxl hk (e.cell q1 (by simp)) (e.cell q2 (by simp))⟩
 ·obtain ⟨r, rfl⟩ : ∃ r, rs = [r] := by
   match rs, h1 with
   | [r], _ => exact ⟨r, rfl⟩
  exact ⟨_, inferInstance, [pt c1], rfl, fun W vv e hv => lnot_ok W c1 c3 t S xs _ vv [r] r (h.ext e) hv rfl⟩
 ·exact ⟨_, inferInstance, [pt c1], rfl, fun W vv e hv => lor_ok W c1 c3 t S xs _ vv rs hrl (h.ext e) hv⟩
 ·obtain ⟨l, r, rfl⟩ : ∃ l r, rs = [l, r] := by
   match rs, h2 with
   | [l, r], _ => exact ⟨l, r, rfl⟩
  exact ⟨_, inferInstance, [pt c1], rfl, fun W vv e hv => luntil_ok W c1 c3 t S xs _ vv l r (h.ext e) hv⟩
 ·obtain ⟨l, r, rfl⟩ : ∃ l r, rs = [l, r] := by
   match rs, h2 with
   | [l, r], _ => exact ⟨l, r, rfl⟩
  exact ⟨_, inferInstance, [pt c1], rfl, fun W vv e hv => lrel_ok W c1 c3 t S xs _ vv l r (h.ext e) hv⟩
theorem row1_ok (w0 : World) (c1 c3 c5 c6 t m : Nat) (S : List Sgn) (xs : List Int) (hL : Lw w0 c1 c3 t S xs) (hxl : xs.length = 2) (hm : VMap w0 m (lawT c1 c3)) (h5 : Blk w0 c5 136 [.map (some m)]) (h6 : Blk w0 c6 101 [.func (.func 126) #[] #[pt c6, pt c5]]) :
  ∀ (n : Nat) (w : World) (b o : Nat) (f : Fml), dpF f ≤ n → szF f ≤ 1000 → Ext w0 w → PF As w b o f → okT (knS S) f = true → Fn Tryz.prog 126 [.pointer (some ⟨b, o, none⟩), pt c6, pt c5] w fun u w' => Tru2 w' u (rowM S xs f) ∧ Ext w w' := by
 intro n
 induction n with
 | zero => intro w b o f hn; rw [Bd] at hn; omega
 | succ n ih =>
 intro w b o f hn hz e0 hf hk
 rw [Bd] at hn
 rw [BW] at hz
 obtain ⟨aa, cc, hla, q0, q1, q2, q3, q4, qa⟩ := hf.all
 obtain ⟨op, nm, v, bd, args⟩ := f
 obtain ⟨hop, hka⟩ := okT_parts hk
 have hlen := CQ args
 simp only [Fml.op, Fml.name, Fml.val, Fml.args] at *
 rw [rowM, rowML_eq]
 obtain ⟨rs, hrs⟩ : ∃ rs, rs = args.map (rowM S xs) := ⟨_, rfl⟩
 have hrl : rs.length = args.length := by rw [hrs, List.length_map]
 rw [← hrs]
 refine AR Tryz.func126 rfl Tryz.ntmps126 (Nat.le_of_ble_eq_true rfl) (by kernel_rfl) ?_
 repeat refine nx rfl ?_
 refine AA (AC (AM rfl ?_))
 repeat refine nx rfl ?_
 (refine AA (AP rfl (AH rfl (AD rfl (AF rfl (by assumption) ?_)))) <;> refine AZ rfl ?_)
 refine W_make1 (n := args.length) rfl rfl rfl rfl rfl (by omega) (by omega) (fun w1 n1 => ?_)
 refine AC (AM rfl ?_)
 repeat refine nx rfl ?_
 have z1 := n1.size
 have q41 := n1.keep.cell q4 (by simp)
 (refine AA (AP rfl (AH rfl (AD rfl (AF rfl (by assumption) ?_)))) <;> refine AZ rfl (AG rfl ?_))
 repeat refine nx rfl ?_
 have hlt0 := hf.lt
 obtain ⟨g, hg⟩ : ∃ g, g = w.heap.size := ⟨_, rfl⟩
 have bg := n1.blk
 rw [← hg] at bg ⊢
 refine A3 (α := Nat × List Value) (fun | (k, _) => [(0, .pointer (some ⟨b, o, none⟩)), (1, pt c6), (2, pt c5), (5, .slice (some ⟨g, 0, none⟩) args.length args.length), (17, .int .i64 (args.length : Int)), (18, .int .i64 (k : Int))])
  (fun | (k, vs), W => k ≤ args.length ∧ Ext w W ∧ vs.length = k ∧ Blk W g 74 (vs ++ List.replicate (args.length - k) (.slice none 0 0)) ∧ ∀ (j : Nat) (r : Bool × Bool), j < k → rs[j]? = some r → ∃ u, vs[j]? = some u ∧ Tru2 W u r ∧ u.ownBlock ≠ some g) (fun | (k, _) => args.length - k) (0, []) ⟨rfl, rfl, rfl, rfl, rfl, rfl, trivial⟩ ⟨by omega, n1.keep, rfl, bg, fun j r hj => absurd hj (by omega)⟩ ?_
 rintro ⟨k, vs⟩ W fr ⟨hkl, kW, hvl, bW, hW⟩
 have q4W := kW.cell q4 (by simp)
 repeat refine nx rfl ?_
 by_cases hlt : k < args.length
 ·refine AA (At rfl rfl (by omega) ?_)
  repeat refine nx rfl ?_
  refine AA (AG rfl (AC (AG rfl ?_)))
  repeat refine nx rfl ?_
  obtain ⟨y, hy⟩ : ∃ y, args[k]? = some y := ⟨_, List.getElem?_eq_getElem hlt⟩
  have hmy := List.mem_of_getElem? hy
  have hdy := Bp hmy
  have hzy := BY hmy
  obtain ⟨b', o', rfl, hfy⟩ := qa k y hy
  have hgb : b ≠ g := by have := World.block_lt_of_cell? w _ q4; simp only at this; omega
  have hg6 : c6 ≠ g := by have := h6.lt; have := e0.size; omega
  refine Ad (.read 0 (.read 1 (.read 2 (.read 3 (.read 4 (.read 5 (.read 6 (.read 7 (.read 8 (.alt 9 (.read 10 (.alt 11 .done .stop)) .stop)))))))))) Ax (by kernel_rfl) (fun wd kd ed => ⟨Keep [g] wd, ?_, ?_⟩)
  ·exact Keep.refl _ _
  have s1 : ∀ V, Keep [g] wd V → V.cell? ⟨c6, 0, none⟩ = some (.func (.func 126) #[] #[pt c6, pt c5]) := fun V e => ((h6.keep ((e0.trans kW).trans kd) (by simp)).keep e (by simp [hg6])).cell rfl
  have s2 : ∀ V, Keep [g] wd V → V.cell? ⟨b, o + 4, none⟩ = some (.slice (some ⟨b', o', none⟩) args.length cc) := fun V e => e.cell (kd.cell q4W (by simp)) (by simp [hgb])
  refine D_R rfl rfl (fun W hW => AM rfl Z3) (D_R rfl rfl (fun W hW => AG rfl Z3) (D_R rfl rfl (fun W hW => AF rfl (s1 W hW) Z3) (D_R rfl rfl (fun W hW => AP rfl Z3) (D_R rfl rfl (fun W hW => AH rfl Z3) (D_R rfl rfl (fun W hW => AD rfl Z3) (D_R rfl rfl (fun W hW => AF rfl (s2 W hW) Z3) (D_R rfl rfl (fun W hW => AG rfl Z3) (D_R rfl rfl (fun W hW => Au rfl rfl rfl (by omega) Z3) ?_))))))))
  refine D_E rfl ?_
  refine BO (v1 := []) (v2 := [pt c6, pt c5]) (vs := [.pointer (some ⟨b', o' + k * 5, none⟩)]) rfl (ih wd b' (o' + k * 5) y (by omega) (by omega) ((e0.trans kW).trans kd) (hfy.keep (kW.trans kd) (fun _ _ => by simp)) (hka y hmy)) rfl ?_
  rintro u W1 ⟨hu, k1⟩
  obtain ⟨gu, rfl, bu⟩ := hu
  refine AO ⟨Keep [g] wd, fun _ e => e, k1.any, ?_⟩
  ((apply D_R rfl rfl; (intro W hW; refine BL rfl rfl rfl (by omega) ?_; exact AO ⟨rfl, rfl, rfl⟩)))
  refine D_E rfl ?_
  have k01 := kd.trans k1
  have b1 := bW.keep k01 (by simp)
  have hgu : gu ≠ g := fun e => by subst e; have := b1.symm.trans bu; simp at this
  refine Aa (v := .slice (some ⟨gu, 0, none⟩) 2 2) rfl rfl rfl b1 (by simp; omega) (fun W2 p2 => ?_)
  refine AO ⟨Keep [g] wd, fun _ e => e, k1.any.trans p2.keep (fun x h _ => h), ?_⟩
  refine Ah ?_
  repeat refine nx rfl ?_
  (refine AA (Av rfl rfl (by first | exact AV (by omega) (by omega) | exact AY (by omega) (by omega) | exact AW (by omega) (by omega)) ?_) <;> refine AG rfl ?_)
  repeat refine nx rfl ?_
  have b2 := p2.blk
  rw [Nat.zero_add, set_fill _ _ _ _ _ hvl hlt] at b2
  have hrk : rs[k]? = some (rowM S xs y) := by rw [hrs, List.getElem?_map, hy]; rfl
  refine ⟨(k + 1, vs ++ [.slice (some ⟨gu, 0, none⟩) 2 2]), ⟨rfl, ⟨rfl, rfl, rfl, rfl, rfl, ?_, trivial⟩, ⟨by omega, (kW.trans k01).keep p2.keep (by simp; omega), by simp [hvl], b2, fun j r hj hr => ?_⟩⟩, by simp only; omega⟩
  ·show Value.int .i64 ((k : Int) + 1) = _
   rw [Int.natCast_add]; rfl
  ·by_cases hjk : j < k
   ·obtain ⟨u, hu, ⟨gj, rfl, bj⟩, hng⟩ := hW j r hjk hr
    have hgj : gj ≠ g := fun e => hng (congrArg some e)
    exact ⟨_, by rw [List.getElem?_append_left (by omega)]; exact hu, ⟨gj, rfl, (bj.keep k01 (by simp)).keep p2.keep (by simp [hgj])⟩, hng⟩
   ·obtain rfl : j = k := by omega
    rw [hrk] at hr
    cases hr
    exact ⟨_, by rw [List.getElem?_append_right (by omega), hvl]; simp, ⟨gu, rfl, bu.keep p2.keep (by simp [hgu])⟩, fun e => hgu (Option.some.inj e)⟩
 ·obtain rfl : k = args.length := by omega
  rw [Nat.sub_self, List.replicate_zero, List.append_nil] at bW
  refine AA (Aj rfl rfl (by omega) ?_)
  repeat first | refine nx rfl ?_ | refine nf rfl ?_
  have hT : Trus W (.slice (some ⟨g, 0, none⟩) args.length args.length) rs := ⟨g, vs, by rw [hrl], bW, fun j r hr => by
   obtain ⟨u, hu, ht, _⟩ := hW j r (by rw [← hrl]; exact (List.getElem?_eq_some_iff.1 hr).1) hr
   exact ⟨u, hu, ht⟩⟩
  have hLW := hL.ext (e0.trans kW)
  rw [← hrl] at hop
  obtain ⟨F, hF, caps, hlook, hcall⟩ := law_at W c1 c3 t b o S xs op nm v rs hLW hxl (by omega) hop (kW.cell q1 (by simp)) (kW.cell q2 (by simp))
  refine Ad (.read 0 (.read 1 (.read 2 (.read 3 (.read 4 (.read 5 (.read 6 (.read 7 (.alt 8 (.read 9 .done) .stop))))))))) Ax (by kernel_rfl) (fun wd kd ed => ⟨Ext wd, ?_, ?_⟩)
  ·exact Ext.refl _
  have e1 := e0.trans kW
  have s1 : ∀ V, Ext wd V → V.cell? ⟨c5, 0, none⟩ = some (.map (some m)) := fun V e => (h5.keep (e1.trans (kd.trans e)) (by simp)).cell rfl
  have s2 : ∀ V, Ext wd V → V.cell? ⟨b, o + 0, none⟩ = some (.int .i64 op) := fun V e => (kW.trans (kd.trans e)).cell q0 (by simp)
  refine D_R rfl rfl (fun W hW => AF rfl (s1 W hW) Z3) (D_R rfl rfl (fun W hW => AP rfl Z3) (D_R rfl rfl (fun W hW => AH rfl Z3) (D_R rfl rfl (fun W hW => AD rfl Z3) (D_R rfl rfl (fun W hW => AF rfl (s2 W hW) Z3) ?_))))
  refine D_R rfl rfl (fun V hV => by refine W_lookupV rfl rfl (hm.keep (e1.trans (kd.trans hV)) (by simp)) hlook ?_; exact AO ⟨rfl, rfl, rfl⟩) ?_
  refine D_R rfl rfl (fun W hW => AP rfl Z3) (D_R rfl rfl (fun W hW => AM rfl Z3) ?_)
  refine D_E rfl ?_
  refine BO (v1 := []) (v2 := caps) (vs := [.pointer (some ⟨b, o, none⟩), .slice (some ⟨g, 0, none⟩) args.length args.length]) rfl (hcall wd _ kd (hT.ext kd)) rfl ?_
  rintro u w4 ⟨hu, k4⟩
  refine AO ⟨Ext wd, fun _ e => e, k4, ?_⟩
  refine D_R rfl rfl (fun W hW => AC (Be Z3)) (Ah ?_)
  repeat refine nx rfl ?_
  exact AI rfl ⟨hu, (kW.trans kd).trans k4⟩
theorem row_ok (w : World) (t : Nat) (S : List Sgn) (xs : List Int) (b o : Nat) (f : Fml) (hA : Axs w t S xs) (hxl : xs.length = 2) (hz : szF f ≤ 1000) (hf : PF As w b o f) (hk : okT (knS S) f = true) : Fn Tryz.prog 94 [pt t, .pointer (some ⟨b, o, none⟩)] w fun u w' => Tru2 w' u (rowM S xs f) ∧ Ext w w' := by
 refine AR Tryz.func94 rfl Tryz.ntmps94 (Nat.le_of_ble_eq_true rfl) (by kernel_rfl) ?_
 repeat refine nx rfl ?_
 refine AA (AC (AM rfl ?_))
 repeat refine nx rfl ?_
 refine AA (AP rfl ?_)
 refine AQ (laws_ok w t S xs hA) rfl ?_
 rintro _ w1 ⟨m, c1, c3, rfl, k1, hL, hm⟩
 refine Ar (fun w2 n2 => ?_)
 refine Aa (v := .map (some m)) rfl rfl rfl n2.blk (by simp) (fun w3 p3 => ?_)
 repeat refine nx rfl ?_
 have k13 : Ext w1 w3 := n2.keep.keep p3.keep (by simp)
 have b5 : Blk w3 w1.heap.size 136 [.map (some m)] := p3.blk
 have z3 := k13.size
 have z2 := n2.size
 have z33 := p3.size
 (refine AA ?_; refine Ar (fun w4 n4 => ?_))
 repeat refine nx rfl ?_
 refine AA (Ae rfl rfl ?_)
 refine Aa (v := .func (.func 126) #[] #[pt w3.heap.size, pt w1.heap.size]) rfl rfl rfl n4.blk (by simp) (fun w5 p5 => ?_)
 repeat refine nx rfl ?_
 have k35 : Ext w3 w5 := n4.keep.keep p5.keep (by simp)
 have b55 := b5.keep k35 (by simp)
 have b65 : Blk w5 w3.heap.size 101 [.func (.func 126) #[] #[pt w3.heap.size, pt w1.heap.size]] := p5.blk
 have k15 := k13.trans k35
 have e5 := k1.trans k15
 (refine AA (AF rfl (Blk.cell (by assumption) (by rfl)) ?_) <;> refine AP rfl ?_)
 refine BO (v1 := []) (v2 := [pt w3.heap.size, pt w1.heap.size]) (vs := [.pointer (some ⟨b, o, none⟩)]) rfl (row1_ok w5 c1 c3 w1.heap.size w3.heap.size t m S xs (hL.ext k15) hxl (hm.keep k15 (by simp)) b55 b65 (dpF f) w5 b o f (Nat.le_refl _) hz (Ext.refl _) (hf.keep e5 (fun _ _ => by simp)) hk) rfl ?_
 rintro u w6 ⟨hu, k6⟩
 refine AC (Be ?_)
 repeat refine nx rfl ?_
 exact AI rfl ⟨hu, e5.trans k6⟩
end Go.Proofs.YtkhhjdjmhbdjfaaGreatDoor
