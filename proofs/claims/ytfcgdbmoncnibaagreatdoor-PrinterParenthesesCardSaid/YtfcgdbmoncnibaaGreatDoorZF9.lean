/- The printer: the table of styles, whatever the order in which it is filled. The printer: the table of styles, filled in any order. The printer: what panics, numbers, names. The printer: what a node must be, its sign. Conditions: none. -/
import Derived.Test.YtfcgdbmoncnibaaGreatDoorZF8
import Derived.Test.YtfcgdbmoncnibaaGreatDoorShl

namespace Go.Proofs.YtfcgdbmoncnibaaGreatDoor
open Go.RowKit
set_option linter.unusedVariables false
variable {mk : Prop} [MK mk]
def CB (s : Sty) : List Value := [AM s.sign, .int .i64 (s.level : Int), .int .i64 (s.first : Int), .int .i64 (s.next : Int), .int .i64 (s.least : Int), .int .i64 (s.most : Int), .int .i64 (s.val : Int), .int .i64 (s.bound : Int), .int .i64 (s.usual : Int)]
def Bf (s : Sty) : Value := .agg (CB s).toArray
theorem styC_one (s : Sty) : oneC (CB s) := by
 intro u hu
 simp only [CB, List.mem_cons, List.not_mem_nil, or_false] at hu
 rcases hu with rfl | rfl | rfl | rfl | rfl | rfl | rfl | rfl | rfl <;> rfl
def pfx : Sty := ⟨[], 4, 4, 0, 1, 1, 0, 0, 0⟩
def ifx : Sty := ⟨[], 3, 4, 3, 2, 2, 0, 0, 0⟩
def styK (k : Nat) : Sty := ((styL.map (·.2))[k - 1]?).getD pfx
def Ap (k : Nat) : Value := Bf (styK k)
def fn1 : Value := .func (.func 119) #[] #[]
def fn2 : Value := .func (.func 120) #[] #[]
def fn3 : Value := .func (.func 121) #[] #[]
def sty0 : List Value := [AM [], .int .i64 0, .int .i64 0, .int .i64 0, .int .i64 0, .int .i64 0, .int .i64 0, .int .i64 0, .int .i64 0]
instance : VMapT Tryz.prog 122 (.agg sty0.toArray) := vmapT_of Tryz.underlying122 Tryz.underlying3 (by kernel_rfl)
theorem DH (w : World) (s : Sty) (g : List UInt8) : Fn Tryz.prog 119 [Bf s, AM g] w fun v w' => v = Bf { s with sign := g } ∧ Ext w w' := by
 refine Ad Tryz.func119 rfl Tryz.ntmps119 (Nat.le_of_ble_eq_true rfl) (by kernel_rfl) ?_
 repeat refine nx rfl ?_
 (refine AA ?_; refine Bs (L := CB s) rfl (fun w1 n1 => ?_))
 refine Aw (fun w2 n2 => ?_)
 have b1 := n1.blk.keep n2.keep (by simp)
 have b2 : Blk w2 w1.heap.size 129 sty0 := n2.blk
 have z1 := n1.size
 repeat refine nx rfl ?_
 refine AA (AY rfl (AD rfl ?_))
 refine Ak rfl rfl rfl b1 (by simp [CB]) (fun w3 p3 => ?_)
 have b3 : Blk w3 w.heap.size 129 (CB { s with sign := g }) := p3.blk
 have b2' := b2.keep p3.keep (by simp; omega)
 repeat refine nx rfl ?_
 refine AA (AW rfl (by assumption) (by rfl) ?_)
 refine Aa (cs := CB { s with sign := g }) rfl rfl rfl (styC_one _) b2' (by simp [sty0, CB]) (fun w4 p4 => ?_)
 have b4 : Blk w4 w1.heap.size 129 (CB { s with sign := g }) := p4.blk
 repeat refine nx rfl ?_
 exact A6 rfl rfl rfl b4.cells ⟨rfl, ((n1.keep.trans n2.keep).keep p3.keep (by simp)).keep p4.keep (by simp; omega)⟩
theorem bounded_ok (w : World) (s : Sty) (g : List UInt8) : Fn Tryz.prog 121 [Bf s, AM g] w fun v w' => v = Bf { s with sign := g, bound := 9999 } ∧ Ext w w' := by
 refine Ad Tryz.func121 rfl Tryz.ntmps121 (Nat.le_of_ble_eq_true rfl) (by kernel_rfl) ?_
 repeat refine nx rfl ?_
 (refine AA ?_; refine Bs (L := CB s) rfl (fun w1 n1 => ?_))
 refine Aw (fun w2 n2 => ?_)
 have b1 := n1.blk.keep n2.keep (by simp)
 have b2 : Blk w2 w1.heap.size 129 sty0 := n2.blk
 have z1 := n1.size
 repeat refine nx rfl ?_
 refine AA (AY rfl (AD rfl ?_))
 refine Ak rfl rfl rfl b1 (by simp [CB]) (fun w3 p3 => ?_)
 have b3 : Blk w3 w.heap.size 129 (CB { s with sign := g }) := p3.blk
 refine AD rfl ?_
 refine Ak rfl rfl rfl b3 (by simp [CB]) (fun w4 p4 => ?_)
 have b4 : Blk w4 w.heap.size 129 (CB { s with sign := g, bound := 9999 }) := p4.blk
 have b2' := (b2.keep p3.keep (by simp; omega)).keep p4.keep (by simp; omega)
 repeat refine nx rfl ?_
 refine AA (AW rfl (by assumption) (by rfl) ?_)
 refine Aa (cs := CB { s with sign := g, bound := 9999 }) rfl rfl rfl (styC_one _) b2' (by simp [sty0, CB]) (fun w5 p5 => ?_)
 have b5 : Blk w5 w1.heap.size 129 (CB { s with sign := g, bound := 9999 }) := p5.blk
 repeat refine nx rfl ?_
 exact A6 rfl rfl rfl b5.cells ⟨rfl, (((n1.keep.trans n2.keep).keep p3.keep (by simp)).keep p4.keep (by simp)).keep p5.keep (by simp; omega)⟩
theorem valued_ok (w : World) (s : Sty) (g : List UInt8) (m u : Nat) : Fn Tryz.prog 120 [Bf s, AM g, .int .i64 (m : Int), .int .i64 (u : Int)] w fun v w' => v = Bf { s with sign := g, val := m, usual := u } ∧ Ext w w' := by
 refine Ad Tryz.func120 rfl Tryz.ntmps120 (Nat.le_of_ble_eq_true rfl) (by kernel_rfl) ?_
 repeat refine nx rfl ?_
 (refine AA ?_; refine Bs (L := CB s) rfl (fun w1 n1 => ?_))
 refine Aw (fun w2 n2 => ?_)
 have b1 := n1.blk.keep n2.keep (by simp)
 have b2 : Blk w2 w1.heap.size 129 sty0 := n2.blk
 have z1 := n1.size
 repeat refine nx rfl ?_
 refine AA (AY rfl (AH rfl (AH rfl (AD rfl ?_))))
 refine Ak rfl rfl rfl b1 (by simp [CB]) (fun w3 p3 => ?_)
 have b3 : Blk w3 w.heap.size 129 (CB { s with sign := g }) := p3.blk
 refine AD rfl ?_
 refine Ak rfl rfl rfl b3 (by simp [CB]) (fun w4 p4 => ?_)
 have b4 : Blk w4 w.heap.size 129 (CB { s with sign := g, val := m }) := p4.blk
 refine AD rfl ?_
 refine Ak rfl rfl rfl b4 (by simp [CB]) (fun w5 p5 => ?_)
 have b5 : Blk w5 w.heap.size 129 (CB { s with sign := g, val := m, usual := u }) := p5.blk
 have b2' := ((b2.keep p3.keep (by simp; omega)).keep p4.keep (by simp; omega)).keep p5.keep (by simp; omega)
 repeat refine nx rfl ?_
 refine AA (AW rfl (by assumption) (by rfl) ?_)
 refine Aa (cs := CB { s with sign := g, val := m, usual := u }) rfl rfl rfl (styC_one _) b2' (by simp [sty0, CB]) (fun w6 p6 => ?_)
 have b6 : Blk w6 w1.heap.size 129 (CB { s with sign := g, val := m, usual := u }) := p6.blk
 repeat refine nx rfl ?_
 exact A6 rfl rfl rfl b6.cells ⟨rfl, ((((n1.keep.trans n2.keep).keep p3.keep (by simp)).keep p4.keep (by simp)).keep p5.keep (by simp)).keep p6.keep (by simp; omega)⟩
def valT : List (Nat × Nat × Value) := [(1, 9, Ap 1), (3, 10, Ap 2), (5, 11, Ap 3), (7, 12, fn1), (8, 13, Bf pfx), (9, 14, Ap 4), (11, 15, Ap 5), (13, 16, Ap 6), (15, 17, Ap 7), (17, 18, fn1), (18, 19, Bf pfx), (19, 20, Ap 8), (21, 21, fn1), (22, 22, Bf ifx), (23, 23, Ap 9), (25, 24, fn1), (26, 25, Bf ifx), (27, 26, Ap 10), (29, 27, fn1), (30, 28, Bf pfx), (31, 29, Ap 11), (33, 30, fn1), (34, 31, Bf pfx), (35, 32, Ap 12), (37, 33, fn3), (38, 34, Bf pfx), (39, 35, Ap 13), (41, 36, fn3), (42, 37, Bf pfx), (43, 38, Ap 14), (45, 39, fn2), (46, 40, Bf pfx), (47, 41, Ap 15), (49, 42, fn2), (50, 43, Bf ifx), (51, 44, Ap 16), (53, 45, fn2), (54, 46, Bf ifx), (55, 47, Ap 17), (57, 48, fn1), (58, 49, Bf pfx), (59, 50, Ap 18), (61, 51, fn1), (62, 52, Bf pfx), (63, 53, Ap 19)]
def insT : List (Nat × Int × Value) := [(2, 1, Ap 1), (4, 2, Ap 2), (6, 3, Ap 3), (10, 4, Ap 4), (12, 5, Ap 5), (14, 6, Ap 6), (16, 7, Ap 7), (20, 8, Ap 8), (24, 9, Ap 9), (28, 10, Ap 10), (32, 11, Ap 11), (36, 12, Ap 12), (40, 13, Ap 13), (44, 14, Ap 14), (48, 15, Ap 15), (52, 16, Ap 16), (56, 17, Ap 17), (60, 18, Ap 18), (64, 19, Ap 19)]
def vOps : List Nat := valT.map (·.1)
def vSlots : List Nat := valT.map (·.2.1)
def iOps : List Nat := insT.map (·.1)
theorem v_ops : ∀ p ∈ valT, p.1 < 67 ∧ p.1 ≠ 0 ∧ p.1 ≠ 65 ∧ p.1 ≠ 66 ∧ p.1 ∉ iOps := by
 have h : (vOps.all fun i => Nat.blt i 67 && i != 0 && i != 65 && i != 66 && !iOps.contains i) = true := by kernel_rfl
 intro p hp
 have := List.all_eq_true.1 h p.1 (List.mem_map.2 ⟨p, hp, rfl⟩)
 simpa [Nat.blt_eq, and_assoc] using this
theorem v_slots : ∀ p ∈ valT, 8 < p.2.1 ∧ p.2.1 < 54 := by
 have h : (vSlots.all fun i => Nat.blt 8 i && Nat.blt i 54) = true := by kernel_rfl
 intro p hp
 have := List.all_eq_true.1 h p.2.1 (List.mem_map.2 ⟨p, hp, rfl⟩)
 simpa [Nat.blt_eq] using this
theorem i_ops : ∀ p ∈ insT, p.1 < 67 ∧ p.1 ≠ 0 ∧ p.1 ≠ 65 ∧ p.1 ≠ 66 ∧ p.1 ∉ vOps := by
 have h : (iOps.all fun i => Nat.blt i 67 && i != 0 && i != 65 && i != 66 && !vOps.contains i) = true := by kernel_rfl
 intro p hp
 have := List.all_eq_true.1 h p.1 (List.mem_map.2 ⟨p, hp, rfl⟩)
 simpa [Nat.blt_eq, and_assoc] using this
theorem nodup_of {l : List Nat} (h : (l.zipIdx.all fun x => l.zipIdx.all fun y => Nat.beq x.2 y.2 || !Nat.beq x.1 y.1) = true) {i j : Nat} {a : Nat} (hi : l[i]? = some a) (hj : l[j]? = some a) : i = j := by
 have h1 := List.all_eq_true.1 h (a, i) (List.mem_zipIdx_iff_getElem?.2 (by simpa using hi))
 have h2 := List.all_eq_true.1 h1 (a, j) (List.mem_zipIdx_iff_getElem?.2 (by simpa using hj))
 simpa using h2
theorem uniq_of {α : Type} {l : List α} {g : α → Nat} (h : (((l.map g).zipIdx).all fun x => (l.map g).zipIdx.all fun y => Nat.beq x.2 y.2 || !Nat.beq x.1 y.1) = true) {p q : α} (hp : p ∈ l) (hq : q ∈ l) (e : g p = g q) : p = q := by
 obtain ⟨i, hi⟩ := List.getElem?_of_mem hp
 obtain ⟨j, hj⟩ := List.getElem?_of_mem hq
 have := nodup_of h (i := i) (j := j) (a := g p) (by rw [List.getElem?_map, hi]; rfl) (by rw [List.getElem?_map, hj, e]; rfl)
 subst this
 rw [hi] at hj
 exact Option.some.inj hj
theorem v_uop {p q : Nat × Nat × Value} (hp : p ∈ valT) (hq : q ∈ valT) (e : p.1 = q.1) : p = q := uniq_of (g := (·.1)) (by kernel_rfl) hp hq e
theorem v_uslot {p q : Nat × Nat × Value} (hp : p ∈ valT) (hq : q ∈ valT) (e : p.2.1 = q.2.1) : p = q := uniq_of (g := (·.2.1)) (by kernel_rfl) hp hq e
theorem i_uop {p q : Nat × Int × Value} (hp : p ∈ insT) (hq : q ∈ insT) (e : p.1 = q.1) : p = q := uniq_of (g := (·.1)) (by kernel_rfl) hp hq e
theorem i_ukey {p q : Nat × Int × Value} (hp : p ∈ insT) (hq : q ∈ insT) (e : p.2.1 = q.2.1) : p = q := uniq_of (g := fun x => x.2.1.toNat) (by kernel_rfl) hp hq (congrArg Int.toNat e)
structure StyInv (b1 b2 : Nat) (wd : World) (ds0 : DS) (L : Nat → Bool) (f : Fr) (ds : DS) (w : World) : Prop where
 ds : ds = ds0
 ext : Ext wd w
 p1 : f 1 = .pointer (some ⟨b1, 0, none⟩)
 p2 : f 2 = .pointer (some ⟨b2, 0, none⟩)
 p3 : f 3 = fn1
 p4 : f 4 = fn2
 p5 : f 5 = fn3
 vals : ∀ p ∈ valT, L p.1 = true → f p.2.1 = p.2.2
 ord : ∀ p ∈ insT, L p.1 = true → L 0 = true
 map : L 0 = true → ∃ r M, f 8 = .map (some r) ∧ wd.heap.size ≤ r ∧ VMap w r M ∧ ∀ k v, (k, v) ∈ M ↔ ∃ p ∈ insT, L p.1 = true ∧ k = p.2.1 ∧ v = p.2.2
 ord65 : L 65 = true → L 0 = true
 l65 : L 65 = true → f 54 = f 8
 l66 : L 66 = true → f 0 = f 8 ∧ L 65 = true
theorem upd_at (f : Fr) (d : Nat) (v : Value) : upd f d v d = v := by simp [upd]
theorem BV {f : Fr} {d j : Nat} {v : Value} (h : j ≠ d) : upd f d v j = f j := by
 have : Nat.beq j d = false := by rw [Bool.eq_false_iff, ne_eq, Nat.beq_eq]; exact h
 simp [upd, this]
section
variable {b1 b2 : Nat} {wd w w' : World} {ds0 ds : DS} {L : Nat → Bool} {f : Fr}
theorem Ca {i j : Nat} (h : j ≠ i) : (j == i || L j) = L j := by simp [h]
theorem or_at (i : Nat) : (i == i || L i) = true := by simp
theorem Aj {p : Nat × Nat × Value} (h : StyInv b1 b2 wd ds0 L f ds w) (hp : p ∈ valT) (k : Ext w w') : StyInv b1 b2 wd ds0 (fun j => j == p.1 || L j) (upd f p.2.1 p.2.2) ds w' := by
 obtain ⟨o1, o2, o3, o4, o5⟩ := v_ops p hp
 obtain ⟨s1, s2⟩ := v_slots p hp
 have hins : ∀ q ∈ insT, q.1 ≠ p.1 := fun q hq e => o5 (List.mem_map.2 ⟨q, hq, e⟩)
 refine ⟨h.ds, h.ext.trans k, by rw [BV (by omega)]; exact h.p1, by rw [BV (by omega)]; exact h.p2, by rw [BV (by omega)]; exact h.p3, by rw [BV (by omega)]; exact h.p4, by rw [BV (by omega)]; exact h.p5, ?_, ?_, ?_, ?_, ?_, ?_⟩
 ·intro q hq hL
  by_cases e : q.1 = p.1
  ·rw [v_uop hq hp e, upd_at]
  ·rw [BV (fun e2 => e (by rw [v_uslot hq hp e2]))]
   exact h.vals q hq (by rw [Ca e] at hL; exact hL)
 ·intro q hq hL
  rw [Ca (hins q hq)] at hL
  show (0 == p.1 || L 0) = true
  rw [Ca (Ne.symm o2)]; exact h.ord q hq hL
 ·intro hL
  rw [Ca (Ne.symm o2)] at hL
  obtain ⟨r, M, e1, e2, e3, e4⟩ := h.map hL
  refine ⟨r, M, by rw [BV (by omega)]; exact e1, e2, e3.keep k (by simp), fun a v => ?_⟩
  rw [e4]
  constructor
  ·rintro ⟨q, hq, h1, h2⟩; exact ⟨q, hq, by rw [Ca (hins q hq)]; exact h1, h2⟩
  ·rintro ⟨q, hq, h1, h2⟩; rw [Ca (hins q hq)] at h1; exact ⟨q, hq, h1, h2⟩
 ·intro hL
  rw [Ca (Ne.symm o3)] at hL
  show (0 == p.1 || L 0) = true
  rw [Ca (Ne.symm o2)]; exact h.ord65 hL
 ·intro hL
  rw [Ca (Ne.symm o3)] at hL
  rw [BV (by omega), BV (by omega)]; exact h.l65 hL
 ·intro hL
  rw [Ca (Ne.symm o4)] at hL
  rw [BV (by omega), BV (by omega), Ca (Ne.symm o3)]; exact h.l66 hL
theorem styInv_make (h : StyInv b1 b2 wd ds0 L f ds w) (k : Ext w w') (m : VMap w' w.heap.size []) (h0 : L 0 = false) : StyInv b1 b2 wd ds0 (fun j => j == 0 || L j) (upd f 8 (.map (some w.heap.size))) ds w' := by
 have hno : ∀ q ∈ insT, L q.1 = false := fun q hq => by
  cases hL : L q.1 with
  | false => rfl
  | true => rw [h.ord q hq hL] at h0; cases h0
 refine ⟨h.ds, h.ext.trans k, by rw [BV (by omega)]; exact h.p1, by rw [BV (by omega)]; exact h.p2, by rw [BV (by omega)]; exact h.p3, by rw [BV (by omega)]; exact h.p4, by rw [BV (by omega)]; exact h.p5, ?_, ?_, ?_, fun _ => or_at 0, ?_, ?_⟩
 ·intro q hq hL
  obtain ⟨o1, o2, _⟩ := v_ops q hq
  obtain ⟨s1, s2⟩ := v_slots q hq
  rw [BV (by omega)]
  exact h.vals q hq (by rw [Ca o2] at hL; exact hL)
 ·intro q hq hL; exact or_at 0
 ·intro hL
  refine ⟨w.heap.size, [], upd_at _ _ _, h.ext.size, m, fun a v => ⟨fun h => (by cases h), ?_⟩⟩
  rintro ⟨q, hq, h1, h2⟩
  obtain ⟨o1, o2, _⟩ := i_ops q hq
  rw [Ca o2, hno q hq] at h1; cases h1
 ·intro hL
  rw [Ca (by omega)] at hL
  rw [h.ord65 hL] at h0; cases h0
 ·intro hL
  rw [Ca (by omega)] at hL
  rw [h.ord65 (h.l66 hL).2] at h0; cases h0
theorem StyInv.none {q : Nat × Int × Value} {M : List (Int × Value)} (h : StyInv b1 b2 wd ds0 L f ds w) (hq : q ∈ insT) (hL : L q.1 = false) (hm : ∀ k v, (k, v) ∈ M ↔ ∃ p ∈ insT, L p.1 = true ∧ k = p.2.1 ∧ v = p.2.2) : M.lookup q.2.1 = none := by
 refine vlookup_none fun p hp e => ?_
 obtain ⟨x, hx, h1, h2, _⟩ := (hm p.1 p.2).1 hp
 rw [i_ukey hx hq (by rw [← h2, e]), hL] at h1
 cases h1
theorem BO {q : Nat × Int × Value} {r : Nat} {M : List (Int × Value)} (h : StyInv b1 b2 wd ds0 L f ds w) (hq : q ∈ insT) (hr : f 8 = .map (some r)) (hlr : wd.heap.size ≤ r) (hm : ∀ k v, (k, v) ∈ M ↔ ∃ p ∈ insT, L p.1 = true ∧ k = p.2.1 ∧ v = p.2.2)
  (k : Keep [r] w w') (m : VMap w' r (M ++ [(q.2.1, q.2.2)])) (h0 : L 0 = true) : StyInv b1 b2 wd ds0 (fun j => j == q.1 || L j) f ds w' := by
 obtain ⟨o1, o2, o3, o4, o5⟩ := i_ops q hq
 have hv : ∀ p ∈ valT, p.1 ≠ q.1 := fun p hp e => o5 (List.mem_map.2 ⟨p, hp, e⟩)
 have hz : (0 == q.1 || L 0) = true := by rw [h0]; simp
 refine ⟨h.ds, h.ext.keep k (by simpa using hlr), h.p1, h.p2, h.p3, h.p4, h.p5, ?_, fun _ _ _ => hz, ?_, fun _ => hz, ?_, ?_⟩
 ·intro p hp hL
  rw [Ca (hv p hp)] at hL
  exact h.vals p hp hL
 ·intro _
  refine ⟨r, _, hr, hlr, m, fun a v => ?_⟩
  rw [List.mem_append, hm]
  constructor
  ·rintro (⟨p, hp, h1, h2, h3⟩ | h1)
   ·exact ⟨p, hp, by rw [h1]; simp, h2, h3⟩
   ·simp only [List.mem_singleton, Prod.mk.injEq] at h1
    exact ⟨q, hq, or_at _, h1.1, h1.2⟩
  ·rintro ⟨p, hp, h1, h2, h3⟩
   by_cases e : p.1 = q.1
   ·have := i_uop hp hq e
    subst this
    right; simp [h2, h3]
   ·rw [Ca e] at h1
    exact .inl ⟨p, hp, h1, h2, h3⟩
 ·intro hL
  rw [Ca (Ne.symm o3)] at hL
  exact h.l65 hL
 ·intro hL
  rw [Ca (Ne.symm o4)] at hL
  rw [Ca (Ne.symm o3)]
  exact h.l66 hL
theorem styInv_65 (h : StyInv b1 b2 wd ds0 L f ds w) (h0 : L 0 = true) : StyInv b1 b2 wd ds0 (fun j => j == 65 || L j) (upd f 54 (f 8)) ds w := by
 refine ⟨h.ds, h.ext, by rw [BV (by omega)]; exact h.p1, by rw [BV (by omega)]; exact h.p2, by rw [BV (by omega)]; exact h.p3, by rw [BV (by omega)]; exact h.p4, by rw [BV (by omega)]; exact h.p5, ?_, ?_, ?_, ?_, ?_, ?_⟩
 ·intro q hq hL
  obtain ⟨o1, o2, o3, _⟩ := v_ops q hq
  obtain ⟨s1, s2⟩ := v_slots q hq
  rw [BV (by omega)]
  exact h.vals q hq (by rw [Ca o3] at hL; exact hL)
 ·intro q hq hL; rw [h0]; rfl
 ·intro _
  obtain ⟨r, M, e1, e2, e3, e4⟩ := h.map h0
  refine ⟨r, M, by rw [BV (by omega)]; exact e1, e2, e3, fun a v => ?_⟩
  rw [e4]
  constructor
  ·rintro ⟨q, hq, h1, h2⟩; exact ⟨q, hq, by rw [h1]; simp, h2⟩
  ·rintro ⟨q, hq, h1, h2⟩
   obtain ⟨_, _, o3, _⟩ := i_ops q hq
   rw [Ca o3] at h1; exact ⟨q, hq, h1, h2⟩
 ·intro _; rw [h0]; rfl
 ·intro _; rw [upd_at, BV (by omega)]
 ·intro hL
  rw [Ca (by omega)] at hL
  rw [BV (by omega), BV (by omega)]
  exact ⟨(h.l66 hL).1, or_at 65⟩
theorem styInv_66 (h : StyInv b1 b2 wd ds0 L f ds w) (h65 : L 65 = true) : StyInv b1 b2 wd ds0 (fun j => j == 66 || L j) (upd f 0 (f 54)) ds w := by
 have h0 := h.ord65 h65
 refine ⟨h.ds, h.ext, by rw [BV (by omega)]; exact h.p1, by rw [BV (by omega)]; exact h.p2, by rw [BV (by omega)]; exact h.p3, by rw [BV (by omega)]; exact h.p4, by rw [BV (by omega)]; exact h.p5, ?_, ?_, ?_, ?_, ?_, ?_⟩
 ·intro q hq hL
  obtain ⟨o1, o2, o3, o4, _⟩ := v_ops q hq
  obtain ⟨s1, s2⟩ := v_slots q hq
  rw [BV (by omega)]
  exact h.vals q hq (by rw [Ca o4] at hL; exact hL)
 ·intro q hq hL; rw [h0]; rfl
 ·intro _
  obtain ⟨r, M, e1, e2, e3, e4⟩ := h.map h0
  refine ⟨r, M, by rw [BV (by omega)]; exact e1, e2, e3, fun a v => ?_⟩
  rw [e4]
  constructor
  ·rintro ⟨q, hq, h1, h2⟩; exact ⟨q, hq, by rw [h1]; simp, h2⟩
  ·rintro ⟨q, hq, h1, h2⟩
   obtain ⟨_, _, _, o4, _⟩ := i_ops q hq
   rw [Ca o4] at h1; exact ⟨q, hq, h1, h2⟩
 ·intro _; rw [h0]; rfl
 ·intro _; rw [BV (by omega), BV (by omega)]; exact h.l65 h65
 ·intro hL
  rw [upd_at, BV (by omega), h.l65 h65, h65]
  exact ⟨rfl, by simp⟩
end
end Go.Proofs.YtfcgdbmoncnibaaGreatDoor
namespace Go.Proofs.YtfcgdbmoncnibaaGreatDoor
open Go.RowKit
set_option linter.unusedVariables false
variable {mk : Prop} [MK mk]
section
attribute [local semireducible] WC AU Bv BQ Bx Cr C5 Bp
variable {P : Program} {all : Array Oper} {Z : Fr → DS → List PanicEntry → World → Prop} {K : Fr → DS → World → Prop} {rest : List Oper} {f : Fr} {ds : DS} {w : World} {d : Nat} {ty : TypeId} {pos : String} {af : Array Edge}
theorem CX {x : Operand} {v : Value} (hx : ev f x = v) (h : AU P all Z K rest (upd f d v) ds w) : AU P all Z K (⟨some d, .move x, ty, pos, af, none⟩ :: rest) f ds w := by
 subst hx; exact Ax h
theorem CQ {x : Operand} {l : List Operand} {v : Value} {vs : List Value} (h : ev f x = v) (h' : evL f l = vs) : evL f (x :: l) = v :: vs := by
 subst h; subst h'; rfl
end
theorem Ae {o : Oper} {L : Nat → Bool} {j : Nat} (h : (o.after.toList.any fun e => Nat.beq e.on j && Region.binds .any e) = true) (hall : ∀ e ∈ o.after.toList, Region.binds .any e = true → L e.on = true) : L j = true := by
 obtain ⟨e, he, h2⟩ := List.any_eq_true.1 h
 simp only [Bool.and_eq_true] at h2
 have h3 : e.on = j := Nat.eq_of_beq_eq_true h2.1
 rw [← h3]; exact hall e he h2.2
theorem ins_sty : ∀ p ∈ insT, (BB p.2.1).map Bf = some p.2.2 := by
 intro p hp
 simp only [insT, List.mem_cons, List.not_mem_nil, or_false] at hp
 rcases hp with rfl | rfl | rfl | rfl | rfl | rfl | rfl | rfl | rfl | rfl | rfl | rfl | rfl | rfl | rfl | rfl | rfl | rfl | rfl <;> rfl
theorem sty_ins {op : Int} {s : Sty} (h : BB op = some s) : ∃ p ∈ insT, p.2.1 = op := by
 rcases op_cases h with rfl | rfl | rfl | rfl | rfl | rfl | rfl | rfl | rfl | rfl | rfl | rfl | rfl | rfl | rfl | rfl | rfl | rfl | rfl
 ·exact ⟨(2, 1, Ap 1), by simp [insT], rfl⟩
 ·exact ⟨(4, 2, Ap 2), by simp [insT], rfl⟩
 ·exact ⟨(6, 3, Ap 3), by simp [insT], rfl⟩
 ·exact ⟨(10, 4, Ap 4), by simp [insT], rfl⟩
 ·exact ⟨(12, 5, Ap 5), by simp [insT], rfl⟩
 ·exact ⟨(14, 6, Ap 6), by simp [insT], rfl⟩
 ·exact ⟨(16, 7, Ap 7), by simp [insT], rfl⟩
 ·exact ⟨(20, 8, Ap 8), by simp [insT], rfl⟩
 ·exact ⟨(24, 9, Ap 9), by simp [insT], rfl⟩
 ·exact ⟨(28, 10, Ap 10), by simp [insT], rfl⟩
 ·exact ⟨(32, 11, Ap 11), by simp [insT], rfl⟩
 ·exact ⟨(36, 12, Ap 12), by simp [insT], rfl⟩
 ·exact ⟨(40, 13, Ap 13), by simp [insT], rfl⟩
 ·exact ⟨(44, 14, Ap 14), by simp [insT], rfl⟩
 ·exact ⟨(48, 15, Ap 15), by simp [insT], rfl⟩
 ·exact ⟨(52, 16, Ap 16), by simp [insT], rfl⟩
 ·exact ⟨(56, 17, Ap 17), by simp [insT], rfl⟩
 ·exact ⟨(60, 18, Ap 18), by simp [insT], rfl⟩
 ·exact ⟨(64, 19, Ap 19), by simp [insT], rfl⟩
def StyM (w : World) (r : Nat) : Prop := ∃ M, VMap w r M ∧ ∀ op, M.lookup op = (BB op).map Bf
theorem StyM.keep {X : List Nat} {w w' : World} {r : Nat} (h : StyM w r) (k : Keep X w w') (hr : r ∉ X) : StyM w' r := by
 obtain ⟨M, h1, h2⟩ := h
 exact ⟨M, h1.keep k hr, h2⟩
set_option maxHeartbeats 6400000 in
set_option maxRecDepth 20000 in
theorem styles_ok (w : World) : Fn Tryz.prog 74 [] w fun v w' => ∃ r, v = .map (some r) ∧ Ext w w' ∧ w.heap.size ≤ r ∧ StyM w' r := by
 refine Ad Tryz.func74 rfl Tryz.ntmps74 (Nat.le_of_ble_eq_true rfl) (by kernel_rfl) ?_
 repeat refine nx rfl ?_
 refine AA (AB (M_map rfl ?_))
 repeat refine nx rfl ?_
 refine AA (Ac (by rfl) (by rfl) ?_)
 refine BE (cs := CB pfx) rfl rfl (by rfl) (styC_one _) (fun w1 n1 => AI ?_)
 repeat refine nx rfl ?_
 refine AA (Ac (by rfl) (by rfl) ?_)
 refine BE (cs := CB ifx) rfl rfl (by rfl) (styC_one _) (fun w2 n2 => AI ?_)
 repeat refine nx rfl ?_
 refine AA (AB (Cl rfl ?_))
 repeat refine nx rfl ?_
 refine AA (AB (Cl rfl ?_))
 repeat refine nx rfl ?_
 refine AA (AB (Cl rfl ?_))
 repeat refine nx rfl ?_
 have k2 : Ext w w2 := n1.keep.trans n2.keep
 have B1 : Blk w2 w.heap.size 129 (CB pfx) := n1.blk.keep n2.keep (by simp)
 have B2 : Blk w2 w1.heap.size 129 (CB ifx) := n2.blk
 refine C_inv (StyInv w.heap.size w1.heap.size w2 []) BA (by kernel_rfl) ?_ ?_ ?_
 ·intro w3 k3 e3
  refine ⟨rfl, k3, rfl, rfl, rfl, rfl, rfl, fun p hp hL => ?_, fun p hp hL => ?_, fun hL => (by cases hL), fun hL => (by cases hL), fun hL => (by cases hL), fun hL => (by cases hL)⟩
  ·have := (v_ops p hp).1
   have hb : Nat.blt p.1 67 = true := by rw [Nat.blt_eq]; exact this
   have hL : (!Nat.blt p.1 67) = true := hL
   rw [hb] at hL; cases hL
  ·have := (i_ops p hp).1
   have hb : Nat.blt p.1 67 = true := by rw [Nat.blt_eq]; exact this
   have hL : (!Nat.blt p.1 67) = true := hL
   rw [hb] at hL; cases hL
 ·intro L f ds w i o hI ho hL haft
  have hB1 : Blk w2 _ 129 (CB pfx) := B1
  have hB2 : Blk w2 _ 129 (CB ifx) := B2
  have hlt : i < 67 := (List.getElem?_eq_some_iff.1 ho).1
  match i, hlt, ho, hL, haft with
  | 0, _, ho, hL, haft =>
   obtain rfl := Option.some.inj ho
   refine W_makeMapV (fun w1 k1 z1 m1 => AI ?_)
   exact styInv_make hI k1 m1 hL
  | 1, _, ho, hL, haft =>
   obtain rfl := Option.some.inj ho
   refine Ac (vs := _) (out := CB (styK 1)) rfl (by kernel_rfl) (AI ?_)
   exact Aj (p := (1, 9, Ap 1)) hI (by simp [valT]) (Ext.refl _)
  | 2, _, ho, hL, haft =>
   obtain rfl := Option.some.inj ho
   have h0 : L 0 = true := Ae (j := 0) (by kernel_rfl) haft
   have h1 : L 1 = true := Ae (j := 1) (by kernel_rfl) haft
   obtain ⟨r, M, hr, hlr, hM, hm⟩ := hI.map h0
   refine Bc (x := 1) (y := Ap 1) hr rfl (hI.vals (1, 9, Ap 1) (by simp [valT]) h1) hM (hI.none (q := (2, 1, Ap 1)) (by simp [insT]) hL hm) (fun w1 k1 z1 m1 => AI ?_)
   exact BO (q := (2, 1, Ap 1)) hI (by simp [insT]) hr hlr hm k1 m1 h0
  | 3, _, ho, hL, haft =>
   obtain rfl := Option.some.inj ho
   refine Ac (vs := _) (out := CB (styK 2)) rfl (by kernel_rfl) (AI ?_)
   exact Aj (p := (3, 10, Ap 2)) hI (by simp [valT]) (Ext.refl _)
  | 4, _, ho, hL, haft =>
   obtain rfl := Option.some.inj ho
   have h0 : L 0 = true := Ae (j := 0) (by kernel_rfl) haft
   have h1 : L 3 = true := Ae (j := 3) (by kernel_rfl) haft
   obtain ⟨r, M, hr, hlr, hM, hm⟩ := hI.map h0
   refine Bc (x := 2) (y := Ap 2) hr rfl (hI.vals (3, 10, Ap 2) (by simp [valT]) h1) hM (hI.none (q := (4, 2, Ap 2)) (by simp [insT]) hL hm) (fun w1 k1 z1 m1 => AI ?_)
   exact BO (q := (4, 2, Ap 2)) hI (by simp [insT]) hr hlr hm k1 m1 h0
  | 5, _, ho, hL, haft =>
   obtain rfl := Option.some.inj ho
   refine Ac (vs := _) (out := CB (styK 3)) rfl (by kernel_rfl) (AI ?_)
   exact Aj (p := (5, 11, Ap 3)) hI (by simp [valT]) (Ext.refl _)
  | 6, _, ho, hL, haft =>
   obtain rfl := Option.some.inj ho
   have h0 : L 0 = true := Ae (j := 0) (by kernel_rfl) haft
   have h1 : L 5 = true := Ae (j := 5) (by kernel_rfl) haft
   obtain ⟨r, M, hr, hlr, hM, hm⟩ := hI.map h0
   refine Bc (x := 3) (y := Ap 3) hr rfl (hI.vals (5, 11, Ap 3) (by simp [valT]) h1) hM (hI.none (q := (6, 3, Ap 3)) (by simp [insT]) hL hm) (fun w1 k1 z1 m1 => AI ?_)
   exact BO (q := (6, 3, Ap 3)) hI (by simp [insT]) hr hlr hm k1 m1 h0
  | 7, _, ho, hL, haft =>
   obtain rfl := Option.some.inj ho
   refine CX (v := fn1) hI.p3 (AI ?_)
   exact Aj (p := (7, 12, fn1)) hI (by simp [valT]) (Ext.refl _)
  | 8, _, ho, hL, haft =>
   obtain rfl := Option.some.inj ho
   refine AW hI.p1 (hB1.keep hI.ext (by simp)) rfl (AI ?_)
   exact Aj (p := (8, 13, Bf pfx)) hI (by simp [valT]) (Ext.refl _)
  | 9, _, ho, hL, haft =>
   obtain rfl := Option.some.inj ho
   have h1 : L 7 = true := Ae (j := 7) (by kernel_rfl) haft
   have h2 : L 8 = true := Ae (j := 8) (by kernel_rfl) haft
   refine Bz (v1 := []) (v2 := []) (vs := [Bf pfx, AM [33]]) (hI.vals (7, 12, fn1) (by simp [valT]) h1) (DH w pfx _) (CQ (hI.vals (8, 13, Bf pfx) (by simp [valT]) h2) rfl) ?_
   rintro _ w1 ⟨rfl, k1⟩
   refine AI ?_
   exact Aj (p := (9, 14, Ap 4)) hI (by simp [valT]) k1
  | 10, _, ho, hL, haft =>
   obtain rfl := Option.some.inj ho
   have h0 : L 0 = true := Ae (j := 0) (by kernel_rfl) haft
   have h1 : L 9 = true := Ae (j := 9) (by kernel_rfl) haft
   obtain ⟨r, M, hr, hlr, hM, hm⟩ := hI.map h0
   refine Bc (x := 4) (y := Ap 4) hr rfl (hI.vals (9, 14, Ap 4) (by simp [valT]) h1) hM (hI.none (q := (10, 4, Ap 4)) (by simp [insT]) hL hm) (fun w1 k1 z1 m1 => AI ?_)
   exact BO (q := (10, 4, Ap 4)) hI (by simp [insT]) hr hlr hm k1 m1 h0
  | 11, _, ho, hL, haft =>
   obtain rfl := Option.some.inj ho
   refine Ac (vs := _) (out := CB (styK 5)) rfl (by kernel_rfl) (AI ?_)
   exact Aj (p := (11, 15, Ap 5)) hI (by simp [valT]) (Ext.refl _)
  | 12, _, ho, hL, haft =>
   obtain rfl := Option.some.inj ho
   have h0 : L 0 = true := Ae (j := 0) (by kernel_rfl) haft
   have h1 : L 11 = true := Ae (j := 11) (by kernel_rfl) haft
   obtain ⟨r, M, hr, hlr, hM, hm⟩ := hI.map h0
   refine Bc (x := 5) (y := Ap 5) hr rfl (hI.vals (11, 15, Ap 5) (by simp [valT]) h1) hM (hI.none (q := (12, 5, Ap 5)) (by simp [insT]) hL hm) (fun w1 k1 z1 m1 => AI ?_)
   exact BO (q := (12, 5, Ap 5)) hI (by simp [insT]) hr hlr hm k1 m1 h0
  | 13, _, ho, hL, haft =>
   obtain rfl := Option.some.inj ho
   refine Ac (vs := _) (out := CB (styK 6)) rfl (by kernel_rfl) (AI ?_)
   exact Aj (p := (13, 16, Ap 6)) hI (by simp [valT]) (Ext.refl _)
  | 14, _, ho, hL, haft =>
   obtain rfl := Option.some.inj ho
   have h0 : L 0 = true := Ae (j := 0) (by kernel_rfl) haft
   have h1 : L 13 = true := Ae (j := 13) (by kernel_rfl) haft
   obtain ⟨r, M, hr, hlr, hM, hm⟩ := hI.map h0
   refine Bc (x := 6) (y := Ap 6) hr rfl (hI.vals (13, 16, Ap 6) (by simp [valT]) h1) hM (hI.none (q := (14, 6, Ap 6)) (by simp [insT]) hL hm) (fun w1 k1 z1 m1 => AI ?_)
   exact BO (q := (14, 6, Ap 6)) hI (by simp [insT]) hr hlr hm k1 m1 h0
  | 15, _, ho, hL, haft =>
   obtain rfl := Option.some.inj ho
   refine Ac (vs := _) (out := CB (styK 7)) rfl (by kernel_rfl) (AI ?_)
   exact Aj (p := (15, 17, Ap 7)) hI (by simp [valT]) (Ext.refl _)
  | 16, _, ho, hL, haft =>
   obtain rfl := Option.some.inj ho
   have h0 : L 0 = true := Ae (j := 0) (by kernel_rfl) haft
   have h1 : L 15 = true := Ae (j := 15) (by kernel_rfl) haft
   obtain ⟨r, M, hr, hlr, hM, hm⟩ := hI.map h0
   refine Bc (x := 7) (y := Ap 7) hr rfl (hI.vals (15, 17, Ap 7) (by simp [valT]) h1) hM (hI.none (q := (16, 7, Ap 7)) (by simp [insT]) hL hm) (fun w1 k1 z1 m1 => AI ?_)
   exact BO (q := (16, 7, Ap 7)) hI (by simp [insT]) hr hlr hm k1 m1 h0
  | 17, _, ho, hL, haft =>
   obtain rfl := Option.some.inj ho
   refine CX (v := fn1) hI.p3 (AI ?_)
   exact Aj (p := (17, 18, fn1)) hI (by simp [valT]) (Ext.refl _)
  | 18, _, ho, hL, haft =>
   obtain rfl := Option.some.inj ho
   refine AW hI.p1 (hB1.keep hI.ext (by simp)) rfl (AI ?_)
   exact Aj (p := (18, 19, Bf pfx)) hI (by simp [valT]) (Ext.refl _)
  | 19, _, ho, hL, haft =>
   obtain rfl := Option.some.inj ho
   have h1 : L 17 = true := Ae (j := 17) (by kernel_rfl) haft
   have h2 : L 18 = true := Ae (j := 18) (by kernel_rfl) haft
   refine Bz (v1 := []) (v2 := []) (vs := [Bf pfx, AM [88, 32]]) (hI.vals (17, 18, fn1) (by simp [valT]) h1) (DH w pfx _) (CQ (hI.vals (18, 19, Bf pfx) (by simp [valT]) h2) rfl) ?_
   rintro _ w1 ⟨rfl, k1⟩
   refine AI ?_
   exact Aj (p := (19, 20, Ap 8)) hI (by simp [valT]) k1
  | 20, _, ho, hL, haft =>
   obtain rfl := Option.some.inj ho
   have h0 : L 0 = true := Ae (j := 0) (by kernel_rfl) haft
   have h1 : L 19 = true := Ae (j := 19) (by kernel_rfl) haft
   obtain ⟨r, M, hr, hlr, hM, hm⟩ := hI.map h0
   refine Bc (x := 8) (y := Ap 8) hr rfl (hI.vals (19, 20, Ap 8) (by simp [valT]) h1) hM (hI.none (q := (20, 8, Ap 8)) (by simp [insT]) hL hm) (fun w1 k1 z1 m1 => AI ?_)
   exact BO (q := (20, 8, Ap 8)) hI (by simp [insT]) hr hlr hm k1 m1 h0
  | 21, _, ho, hL, haft =>
   obtain rfl := Option.some.inj ho
   refine CX (v := fn1) hI.p3 (AI ?_)
   exact Aj (p := (21, 21, fn1)) hI (by simp [valT]) (Ext.refl _)
  | 22, _, ho, hL, haft =>
   obtain rfl := Option.some.inj ho
   refine AW hI.p2 (hB2.keep hI.ext (by simp)) rfl (AI ?_)
   exact Aj (p := (22, 22, Bf ifx)) hI (by simp [valT]) (Ext.refl _)
  | 23, _, ho, hL, haft =>
   obtain rfl := Option.some.inj ho
   have h1 : L 21 = true := Ae (j := 21) (by kernel_rfl) haft
   have h2 : L 22 = true := Ae (j := 22) (by kernel_rfl) haft
   refine Bz (v1 := []) (v2 := []) (vs := [Bf ifx, AM [32, 85, 32]]) (hI.vals (21, 21, fn1) (by simp [valT]) h1) (DH w ifx _) (CQ (hI.vals (22, 22, Bf ifx) (by simp [valT]) h2) rfl) ?_
   rintro _ w1 ⟨rfl, k1⟩
   refine AI ?_
   exact Aj (p := (23, 23, Ap 9)) hI (by simp [valT]) k1
  | 24, _, ho, hL, haft =>
   obtain rfl := Option.some.inj ho
   have h0 : L 0 = true := Ae (j := 0) (by kernel_rfl) haft
   have h1 : L 23 = true := Ae (j := 23) (by kernel_rfl) haft
   obtain ⟨r, M, hr, hlr, hM, hm⟩ := hI.map h0
   refine Bc (x := 9) (y := Ap 9) hr rfl (hI.vals (23, 23, Ap 9) (by simp [valT]) h1) hM (hI.none (q := (24, 9, Ap 9)) (by simp [insT]) hL hm) (fun w1 k1 z1 m1 => AI ?_)
   exact BO (q := (24, 9, Ap 9)) hI (by simp [insT]) hr hlr hm k1 m1 h0
  | 25, _, ho, hL, haft =>
   obtain rfl := Option.some.inj ho
   refine CX (v := fn1) hI.p3 (AI ?_)
   exact Aj (p := (25, 24, fn1)) hI (by simp [valT]) (Ext.refl _)
  | 26, _, ho, hL, haft =>
   obtain rfl := Option.some.inj ho
   refine AW hI.p2 (hB2.keep hI.ext (by simp)) rfl (AI ?_)
   exact Aj (p := (26, 25, Bf ifx)) hI (by simp [valT]) (Ext.refl _)
  | 27, _, ho, hL, haft =>
   obtain rfl := Option.some.inj ho
   have h1 : L 25 = true := Ae (j := 25) (by kernel_rfl) haft
   have h2 : L 26 = true := Ae (j := 26) (by kernel_rfl) haft
   refine Bz (v1 := []) (v2 := []) (vs := [Bf ifx, AM [32, 82, 32]]) (hI.vals (25, 24, fn1) (by simp [valT]) h1) (DH w ifx _) (CQ (hI.vals (26, 25, Bf ifx) (by simp [valT]) h2) rfl) ?_
   rintro _ w1 ⟨rfl, k1⟩
   refine AI ?_
   exact Aj (p := (27, 26, Ap 10)) hI (by simp [valT]) k1
  | 28, _, ho, hL, haft =>
   obtain rfl := Option.some.inj ho
   have h0 : L 0 = true := Ae (j := 0) (by kernel_rfl) haft
   have h1 : L 27 = true := Ae (j := 27) (by kernel_rfl) haft
   obtain ⟨r, M, hr, hlr, hM, hm⟩ := hI.map h0
   refine Bc (x := 10) (y := Ap 10) hr rfl (hI.vals (27, 26, Ap 10) (by simp [valT]) h1) hM (hI.none (q := (28, 10, Ap 10)) (by simp [insT]) hL hm) (fun w1 k1 z1 m1 => AI ?_)
   exact BO (q := (28, 10, Ap 10)) hI (by simp [insT]) hr hlr hm k1 m1 h0
  | 29, _, ho, hL, haft =>
   obtain rfl := Option.some.inj ho
   refine CX (v := fn1) hI.p3 (AI ?_)
   exact Aj (p := (29, 27, fn1)) hI (by simp [valT]) (Ext.refl _)
  | 30, _, ho, hL, haft =>
   obtain rfl := Option.some.inj ho
   refine AW hI.p1 (hB1.keep hI.ext (by simp)) rfl (AI ?_)
   exact Aj (p := (30, 28, Bf pfx)) hI (by simp [valT]) (Ext.refl _)
  | 31, _, ho, hL, haft =>
   obtain rfl := Option.some.inj ho
   have h1 : L 29 = true := Ae (j := 29) (by kernel_rfl) haft
   have h2 : L 30 = true := Ae (j := 30) (by kernel_rfl) haft
   refine Bz (v1 := []) (v2 := []) (vs := [Bf pfx, AM [70, 32]]) (hI.vals (29, 27, fn1) (by simp [valT]) h1) (DH w pfx _) (CQ (hI.vals (30, 28, Bf pfx) (by simp [valT]) h2) rfl) ?_
   rintro _ w1 ⟨rfl, k1⟩
   refine AI ?_
   exact Aj (p := (31, 29, Ap 11)) hI (by simp [valT]) k1
  | 32, _, ho, hL, haft =>
   obtain rfl := Option.some.inj ho
   have h0 : L 0 = true := Ae (j := 0) (by kernel_rfl) haft
   have h1 : L 31 = true := Ae (j := 31) (by kernel_rfl) haft
   obtain ⟨r, M, hr, hlr, hM, hm⟩ := hI.map h0
   refine Bc (x := 11) (y := Ap 11) hr rfl (hI.vals (31, 29, Ap 11) (by simp [valT]) h1) hM (hI.none (q := (32, 11, Ap 11)) (by simp [insT]) hL hm) (fun w1 k1 z1 m1 => AI ?_)
   exact BO (q := (32, 11, Ap 11)) hI (by simp [insT]) hr hlr hm k1 m1 h0
  | 33, _, ho, hL, haft =>
   obtain rfl := Option.some.inj ho
   refine CX (v := fn1) hI.p3 (AI ?_)
   exact Aj (p := (33, 30, fn1)) hI (by simp [valT]) (Ext.refl _)
  | 34, _, ho, hL, haft =>
   obtain rfl := Option.some.inj ho
   refine AW hI.p1 (hB1.keep hI.ext (by simp)) rfl (AI ?_)
   exact Aj (p := (34, 31, Bf pfx)) hI (by simp [valT]) (Ext.refl _)
  | 35, _, ho, hL, haft =>
   obtain rfl := Option.some.inj ho
   have h1 : L 33 = true := Ae (j := 33) (by kernel_rfl) haft
   have h2 : L 34 = true := Ae (j := 34) (by kernel_rfl) haft
   refine Bz (v1 := []) (v2 := []) (vs := [Bf pfx, AM [71, 32]]) (hI.vals (33, 30, fn1) (by simp [valT]) h1) (DH w pfx _) (CQ (hI.vals (34, 31, Bf pfx) (by simp [valT]) h2) rfl) ?_
   rintro _ w1 ⟨rfl, k1⟩
   refine AI ?_
   exact Aj (p := (35, 32, Ap 12)) hI (by simp [valT]) k1
  | 36, _, ho, hL, haft =>
   obtain rfl := Option.some.inj ho
   have h0 : L 0 = true := Ae (j := 0) (by kernel_rfl) haft
   have h1 : L 35 = true := Ae (j := 35) (by kernel_rfl) haft
   obtain ⟨r, M, hr, hlr, hM, hm⟩ := hI.map h0
   refine Bc (x := 12) (y := Ap 12) hr rfl (hI.vals (35, 32, Ap 12) (by simp [valT]) h1) hM (hI.none (q := (36, 12, Ap 12)) (by simp [insT]) hL hm) (fun w1 k1 z1 m1 => AI ?_)
   exact BO (q := (36, 12, Ap 12)) hI (by simp [insT]) hr hlr hm k1 m1 h0
  | 37, _, ho, hL, haft =>
   obtain rfl := Option.some.inj ho
   refine CX (v := fn3) hI.p5 (AI ?_)
   exact Aj (p := (37, 33, fn3)) hI (by simp [valT]) (Ext.refl _)
  | 38, _, ho, hL, haft =>
   obtain rfl := Option.some.inj ho
   refine AW hI.p1 (hB1.keep hI.ext (by simp)) rfl (AI ?_)
   exact Aj (p := (38, 34, Bf pfx)) hI (by simp [valT]) (Ext.refl _)
  | 39, _, ho, hL, haft =>
   obtain rfl := Option.some.inj ho
   have h1 : L 37 = true := Ae (j := 37) (by kernel_rfl) haft
   have h2 : L 38 = true := Ae (j := 38) (by kernel_rfl) haft
   refine Bz (v1 := []) (v2 := []) (vs := [Bf pfx, AM [70, 91]]) (hI.vals (37, 33, fn3) (by simp [valT]) h1) (bounded_ok w pfx _) (CQ (hI.vals (38, 34, Bf pfx) (by simp [valT]) h2) rfl) ?_
   rintro _ w1 ⟨rfl, k1⟩
   refine AI ?_
   exact Aj (p := (39, 35, Ap 13)) hI (by simp [valT]) k1
  | 40, _, ho, hL, haft =>
   obtain rfl := Option.some.inj ho
   have h0 : L 0 = true := Ae (j := 0) (by kernel_rfl) haft
   have h1 : L 39 = true := Ae (j := 39) (by kernel_rfl) haft
   obtain ⟨r, M, hr, hlr, hM, hm⟩ := hI.map h0
   refine Bc (x := 13) (y := Ap 13) hr rfl (hI.vals (39, 35, Ap 13) (by simp [valT]) h1) hM (hI.none (q := (40, 13, Ap 13)) (by simp [insT]) hL hm) (fun w1 k1 z1 m1 => AI ?_)
   exact BO (q := (40, 13, Ap 13)) hI (by simp [insT]) hr hlr hm k1 m1 h0
  | 41, _, ho, hL, haft =>
   obtain rfl := Option.some.inj ho
   refine CX (v := fn3) hI.p5 (AI ?_)
   exact Aj (p := (41, 36, fn3)) hI (by simp [valT]) (Ext.refl _)
  | 42, _, ho, hL, haft =>
   obtain rfl := Option.some.inj ho
   refine AW hI.p1 (hB1.keep hI.ext (by simp)) rfl (AI ?_)
   exact Aj (p := (42, 37, Bf pfx)) hI (by simp [valT]) (Ext.refl _)
  | 43, _, ho, hL, haft =>
   obtain rfl := Option.some.inj ho
   have h1 : L 41 = true := Ae (j := 41) (by kernel_rfl) haft
   have h2 : L 42 = true := Ae (j := 42) (by kernel_rfl) haft
   refine Bz (v1 := []) (v2 := []) (vs := [Bf pfx, AM [71, 91]]) (hI.vals (41, 36, fn3) (by simp [valT]) h1) (bounded_ok w pfx _) (CQ (hI.vals (42, 37, Bf pfx) (by simp [valT]) h2) rfl) ?_
   rintro _ w1 ⟨rfl, k1⟩
   refine AI ?_
   exact Aj (p := (43, 38, Ap 14)) hI (by simp [valT]) k1
  | 44, _, ho, hL, haft =>
   obtain rfl := Option.some.inj ho
   have h0 : L 0 = true := Ae (j := 0) (by kernel_rfl) haft
   have h1 : L 43 = true := Ae (j := 43) (by kernel_rfl) haft
   obtain ⟨r, M, hr, hlr, hM, hm⟩ := hI.map h0
   refine Bc (x := 14) (y := Ap 14) hr rfl (hI.vals (43, 38, Ap 14) (by simp [valT]) h1) hM (hI.none (q := (44, 14, Ap 14)) (by simp [insT]) hL hm) (fun w1 k1 z1 m1 => AI ?_)
   exact BO (q := (44, 14, Ap 14)) hI (by simp [insT]) hr hlr hm k1 m1 h0
  | 45, _, ho, hL, haft =>
   obtain rfl := Option.some.inj ho
   refine CX (v := fn2) hI.p4 (AI ?_)
   exact Aj (p := (45, 39, fn2)) hI (by simp [valT]) (Ext.refl _)
  | 46, _, ho, hL, haft =>
   obtain rfl := Option.some.inj ho
   refine AW hI.p1 (hB1.keep hI.ext (by simp)) rfl (AI ?_)
   exact Aj (p := (46, 40, Bf pfx)) hI (by simp [valT]) (Ext.refl _)
  | 47, _, ho, hL, haft =>
   obtain rfl := Option.some.inj ho
   have h1 : L 45 = true := Ae (j := 45) (by kernel_rfl) haft
   have h2 : L 46 = true := Ae (j := 46) (by kernel_rfl) haft
   refine Bz (v1 := []) (v2 := []) (vs := [Bf pfx, AM [89, 32], .int .i64 1, .int .i64 0]) (hI.vals (45, 39, fn2) (by simp [valT]) h1) (valued_ok w pfx _ 1 0) (CQ (hI.vals (46, 40, Bf pfx) (by simp [valT]) h2) rfl) ?_
   rintro _ w1 ⟨rfl, k1⟩
   refine AI ?_
   exact Aj (p := (47, 41, Ap 15)) hI (by simp [valT]) k1
  | 48, _, ho, hL, haft =>
   obtain rfl := Option.some.inj ho
   have h0 : L 0 = true := Ae (j := 0) (by kernel_rfl) haft
   have h1 : L 47 = true := Ae (j := 47) (by kernel_rfl) haft
   obtain ⟨r, M, hr, hlr, hM, hm⟩ := hI.map h0
   refine Bc (x := 15) (y := Ap 15) hr rfl (hI.vals (47, 41, Ap 15) (by simp [valT]) h1) hM (hI.none (q := (48, 15, Ap 15)) (by simp [insT]) hL hm) (fun w1 k1 z1 m1 => AI ?_)
   exact BO (q := (48, 15, Ap 15)) hI (by simp [insT]) hr hlr hm k1 m1 h0
  | 49, _, ho, hL, haft =>
   obtain rfl := Option.some.inj ho
   refine CX (v := fn2) hI.p4 (AI ?_)
   exact Aj (p := (49, 42, fn2)) hI (by simp [valT]) (Ext.refl _)
  | 50, _, ho, hL, haft =>
   obtain rfl := Option.some.inj ho
   refine AW hI.p2 (hB2.keep hI.ext (by simp)) rfl (AI ?_)
   exact Aj (p := (50, 43, Bf ifx)) hI (by simp [valT]) (Ext.refl _)
  | 51, _, ho, hL, haft =>
   obtain rfl := Option.some.inj ho
   have h1 : L 49 = true := Ae (j := 49) (by kernel_rfl) haft
   have h2 : L 50 = true := Ae (j := 50) (by kernel_rfl) haft
   refine Bz (v1 := []) (v2 := []) (vs := [Bf ifx, AM [32, 83], .int .i64 9999, .int .i64 0]) (hI.vals (49, 42, fn2) (by simp [valT]) h1) (valued_ok w ifx _ 9999 0) (CQ (hI.vals (50, 43, Bf ifx) (by simp [valT]) h2) rfl) ?_
   rintro _ w1 ⟨rfl, k1⟩
   refine AI ?_
   exact Aj (p := (51, 44, Ap 16)) hI (by simp [valT]) k1
  | 52, _, ho, hL, haft =>
   obtain rfl := Option.some.inj ho
   have h0 : L 0 = true := Ae (j := 0) (by kernel_rfl) haft
   have h1 : L 51 = true := Ae (j := 51) (by kernel_rfl) haft
   obtain ⟨r, M, hr, hlr, hM, hm⟩ := hI.map h0
   refine Bc (x := 16) (y := Ap 16) hr rfl (hI.vals (51, 44, Ap 16) (by simp [valT]) h1) hM (hI.none (q := (52, 16, Ap 16)) (by simp [insT]) hL hm) (fun w1 k1 z1 m1 => AI ?_)
   exact BO (q := (52, 16, Ap 16)) hI (by simp [insT]) hr hlr hm k1 m1 h0
  | 53, _, ho, hL, haft =>
   obtain rfl := Option.some.inj ho
   refine CX (v := fn2) hI.p4 (AI ?_)
   exact Aj (p := (53, 45, fn2)) hI (by simp [valT]) (Ext.refl _)
  | 54, _, ho, hL, haft =>
   obtain rfl := Option.some.inj ho
   refine AW hI.p2 (hB2.keep hI.ext (by simp)) rfl (AI ?_)
   exact Aj (p := (54, 46, Bf ifx)) hI (by simp [valT]) (Ext.refl _)
  | 55, _, ho, hL, haft =>
   obtain rfl := Option.some.inj ho
   have h1 : L 53 = true := Ae (j := 53) (by kernel_rfl) haft
   have h2 : L 54 = true := Ae (j := 54) (by kernel_rfl) haft
   refine Bz (v1 := []) (v2 := []) (vs := [Bf ifx, AM [32, 84], .int .i64 9999, .int .i64 1]) (hI.vals (53, 45, fn2) (by simp [valT]) h1) (valued_ok w ifx _ 9999 1) (CQ (hI.vals (54, 46, Bf ifx) (by simp [valT]) h2) rfl) ?_
   rintro _ w1 ⟨rfl, k1⟩
   refine AI ?_
   exact Aj (p := (55, 47, Ap 17)) hI (by simp [valT]) k1
  | 56, _, ho, hL, haft =>
   obtain rfl := Option.some.inj ho
   have h0 : L 0 = true := Ae (j := 0) (by kernel_rfl) haft
   have h1 : L 55 = true := Ae (j := 55) (by kernel_rfl) haft
   obtain ⟨r, M, hr, hlr, hM, hm⟩ := hI.map h0
   refine Bc (x := 17) (y := Ap 17) hr rfl (hI.vals (55, 47, Ap 17) (by simp [valT]) h1) hM (hI.none (q := (56, 17, Ap 17)) (by simp [insT]) hL hm) (fun w1 k1 z1 m1 => AI ?_)
   exact BO (q := (56, 17, Ap 17)) hI (by simp [insT]) hr hlr hm k1 m1 h0
  | 57, _, ho, hL, haft =>
   obtain rfl := Option.some.inj ho
   refine CX (v := fn1) hI.p3 (AI ?_)
   exact Aj (p := (57, 48, fn1)) hI (by simp [valT]) (Ext.refl _)
  | 58, _, ho, hL, haft =>
   obtain rfl := Option.some.inj ho
   refine AW hI.p1 (hB1.keep hI.ext (by simp)) rfl (AI ?_)
   exact Aj (p := (58, 49, Bf pfx)) hI (by simp [valT]) (Ext.refl _)
  | 59, _, ho, hL, haft =>
   obtain rfl := Option.some.inj ho
   have h1 : L 57 = true := Ae (j := 57) (by kernel_rfl) haft
   have h2 : L 58 = true := Ae (j := 58) (by kernel_rfl) haft
   refine Bz (v1 := []) (v2 := []) (vs := [Bf pfx, AM [79, 32]]) (hI.vals (57, 48, fn1) (by simp [valT]) h1) (DH w pfx _) (CQ (hI.vals (58, 49, Bf pfx) (by simp [valT]) h2) rfl) ?_
   rintro _ w1 ⟨rfl, k1⟩
   refine AI ?_
   exact Aj (p := (59, 50, Ap 18)) hI (by simp [valT]) k1
  | 60, _, ho, hL, haft =>
   obtain rfl := Option.some.inj ho
   have h0 : L 0 = true := Ae (j := 0) (by kernel_rfl) haft
   have h1 : L 59 = true := Ae (j := 59) (by kernel_rfl) haft
   obtain ⟨r, M, hr, hlr, hM, hm⟩ := hI.map h0
   refine Bc (x := 18) (y := Ap 18) hr rfl (hI.vals (59, 50, Ap 18) (by simp [valT]) h1) hM (hI.none (q := (60, 18, Ap 18)) (by simp [insT]) hL hm) (fun w1 k1 z1 m1 => AI ?_)
   exact BO (q := (60, 18, Ap 18)) hI (by simp [insT]) hr hlr hm k1 m1 h0
  | 61, _, ho, hL, haft =>
   obtain rfl := Option.some.inj ho
   refine CX (v := fn1) hI.p3 (AI ?_)
   exact Aj (p := (61, 51, fn1)) hI (by simp [valT]) (Ext.refl _)
  | 62, _, ho, hL, haft =>
   obtain rfl := Option.some.inj ho
   refine AW hI.p1 (hB1.keep hI.ext (by simp)) rfl (AI ?_)
   exact Aj (p := (62, 52, Bf pfx)) hI (by simp [valT]) (Ext.refl _)
  | 63, _, ho, hL, haft =>
   obtain rfl := Option.some.inj ho
   have h1 : L 61 = true := Ae (j := 61) (by kernel_rfl) haft
   have h2 : L 62 = true := Ae (j := 62) (by kernel_rfl) haft
   refine Bz (v1 := []) (v2 := []) (vs := [Bf pfx, AM [72, 32]]) (hI.vals (61, 51, fn1) (by simp [valT]) h1) (DH w pfx _) (CQ (hI.vals (62, 52, Bf pfx) (by simp [valT]) h2) rfl) ?_
   rintro _ w1 ⟨rfl, k1⟩
   refine AI ?_
   exact Aj (p := (63, 53, Ap 19)) hI (by simp [valT]) k1
  | 64, _, ho, hL, haft =>
   obtain rfl := Option.some.inj ho
   have h0 : L 0 = true := Ae (j := 0) (by kernel_rfl) haft
   have h1 : L 63 = true := Ae (j := 63) (by kernel_rfl) haft
   obtain ⟨r, M, hr, hlr, hM, hm⟩ := hI.map h0
   refine Bc (x := 19) (y := Ap 19) hr rfl (hI.vals (63, 53, Ap 19) (by simp [valT]) h1) hM (hI.none (q := (64, 19, Ap 19)) (by simp [insT]) hL hm) (fun w1 k1 z1 m1 => AI ?_)
   exact BO (q := (64, 19, Ap 19)) hI (by simp [insT]) hr hlr hm k1 m1 h0
  | 65, _, ho, hL, haft =>
   obtain rfl := Option.some.inj ho
   have h0 : L 0 = true := Ae (j := 0) (by kernel_rfl) haft
   refine CX (v := f 8) rfl (AI ?_)
   exact styInv_65 hI h0
  | 66, _, ho, hL, haft =>
   obtain rfl := Option.some.inj ho
   have h0 : L 65 = true := Ae (j := 65) (by kernel_rfl) haft
   refine AB ?_
   refine CX (v := f 54) rfl (AI ?_)
   exact styInv_66 hI h0
 ·intro L f ds w hI hall
  obtain ⟨h54, _⟩ := hI.l66 (hall 66 (by decide))
  obtain ⟨r, M, e1, e2, e3, e4⟩ := hI.map (hall 0 (by decide))
  repeat refine nx rfl ?_
  obtain rfl := hI.ds
  refine AP rfl ⟨r, by rw [h54, e1], k2.trans hI.ext, Nat.le_trans k2.size e2, M, e3, fun op => ?_⟩
  cases hs : BB op with
  | none =>
   refine vlookup_none fun p hp e => ?_
   obtain ⟨q, hq, _, h2, _⟩ := (e4 p.1 p.2).1 hp
   have := ins_sty q hq
   rw [← h2, e, hs] at this
   cases this
  | some s =>
   obtain ⟨q, hq, hk⟩ := sty_ins hs
   have hv := ins_sty q hq
   rw [hk, hs] at hv
   have hv : Bf s = q.2.2 := Option.some.inj hv
   have hm : (op, Bf s) ∈ M := (e4 _ _).2 ⟨q, hq, hall _ (i_ops q hq).1, hk.symm, hv⟩
   exact vlookup_at (nodup_vint e3) hm
end Go.Proofs.YtfcgdbmoncnibaaGreatDoor
namespace Go.Proofs.YtfcgdbmoncnibaaGreatDoor
open Go.RowKit
set_option linter.unusedVariables false
structure GP (w : World) : Prop where
 gk : GK w
 pow : Lib.TabIs Tryz.prog w "internal/strconv.uint64pow10" .u64 Lib.pow10Tab
theorem pow_block {w : World} (h : Lib.TabIs Tryz.prog w "internal/strconv.uint64pow10" .u64 Lib.pow10Tab) : ∃ g, Tryz.prog.globalNamed "internal/strconv.uint64pow10" = some g ∧ g < 10 ∧ g < w.heap.size := by
 have hg : Tryz.prog.globalNamed "internal/strconv.uint64pow10" = some 7 := by kernel_rfl
 refine ⟨_, hg, by decide, ?_⟩
 unfold Lib.TabIs World.var? at h
 rw [hg] at h
 simp only [Option.bind_some] at h
 split at h
 ·rename_i heq; exact (Array.getElem?_eq_some_iff.1 heq).1
 ·cases h
theorem GP.keep {X : List Nat} {w w' : World} (h : GP w) (k : Keep X w w') (hX : ∀ x ∈ X, 10 ≤ x) : GP w' := by
 refine ⟨h.gk.keep k hX, ?_⟩
 obtain ⟨g, hg, h1, h2⟩ := pow_block h.pow
 have hp := h.pow
 unfold Lib.TabIs World.var? at hp ⊢
 rw [hg] at hp ⊢
 simp only [Option.bind_some] at hp ⊢
 rw [k.block g h2 (fun hx => by have := hX _ hx; omega)]
 exact hp
theorem GP.ext {w w' : World} (h : GP w) (k : Ext w w') : GP w' := h.keep k fun x hx => by cases hx
theorem ext_grow {w : World} {k : Nat} {os : Array Obj} : Ext w (Go.Sort.grow (w.drewN k) os) := by
 refine ⟨rfl, rfl, rfl, by simp [Go.Sort.grow, World.drewN], fun b hb _ => ?_, fun h => h.elim⟩
 simp only [Go.Sort.grow, World.drewN]
 rw [Array.getElem?_append_left hb]
theorem itoa_digs {n : Int} (h : 0 ≤ n) : Lib.itoa n = DJ n := by
 unfold Lib.itoa DJ
 rw [if_neg (by omega)]
 have : ∀ (m k : Nat), k ≤ m → Lib.decDigits k = digs k := by
  intro m
  induction m with
  | zero =>
   intro k hk
   rw [Lib.decDigits, dif_pos (by omega), CL (by omega)]
  | succ m ih =>
   intro k hk
   by_cases h1 : k < 10
   ·rw [Lib.decDigits, dif_pos h1, CL h1]
   ·rw [Lib.decDigits, dif_neg h1, digs_big (by omega), ih (k / 10) (by omega)]
 exact this _ _ (Nat.le_refl _)
theorem itoa_ok (w : World) (n : Int) (h0 : 0 ≤ n) (h1 : n ≤ 9999) (hG : GP w) : Fn Tryz.prog 154 [.int .i64 n] w fun v w' => v = AM (DJ n) ∧ Ext w w' := by
 refine Calls.mono (Tryz.strconv_Itoa n (by omega) (by omega) w hG.pow) ?_
 rintro e w' ⟨rfl, k, os, rfl⟩
 rw [itoa_digs h0]
 exact ⟨rfl, ext_grow⟩
def unp : List PanicEntry := [{ v := .iface 186 (.agg #[]), recovered := false }]
theorem Bt (w : World) (b : Bool) : FnP Tryz.prog 76 [.bool b] w (fun v w' => v = .tuple #[] ∧ b = true ∧ w' = w) (fun ch w' => ch = unp ∧ b = false ∧ w' = w) := by
 refine Aq Tryz.func76 rfl Tryz.ntmps76 (Nat.le_of_ble_eq_true rfl) (by kernel_rfl) ?_
 repeat refine nx rfl ?_
 refine AA (AC rfl (BL rfl (AI ?_)))
 cases b with
 | true =>
  repeat first | refine nx rfl ?_ | refine nf rfl ?_
  exact Az rfl ⟨rfl, rfl, rfl⟩
 | false =>
  repeat refine nx rfl ?_
  (refine AA (Ac (by rfl) (by rfl) ?_) <;> refine Cv (Cz rfl ?_))
  repeat refine nx rfl ?_
  exact AV ⟨rfl, rfl, rfl⟩
theorem wname_ok (w : World) (s : List UInt8) (hG : GK w) : FnP Tryz.prog 83 [AM s] w (fun v w' => v = AM s ∧ BS s = true ∧ w' = w) (fun ch w' => ch = unp ∧ BS s = false ∧ w' = w) := by
 refine Aq Tryz.func83 rfl Tryz.ntmps83 (Nat.le_of_ble_eq_true rfl) (by kernel_rfl) ?_
 repeat refine nx rfl ?_
 refine AA (AB (AY rfl ?_))
 repeat refine nx rfl ?_
 refine AA (AY rfl ?_)
 refine AS (sigName_ok s w hG) rfl ?_
 rintro v w1 ⟨rfl, rfl⟩
 refine AX (Bt w1 (BS s)) rfl ?_ ?_
 rotate_left
 ·rintro ch w2 ⟨rfl, hb, rfl⟩
  repeat refine nx rfl ?_
  exact AV ⟨rfl, hb, rfl⟩
 rintro v w2 ⟨rfl, hb, rfl⟩
 repeat refine nx rfl ?_
 refine AA (AY rfl (AB (AY rfl ?_)))
 repeat refine nx rfl ?_
 exact AP rfl ⟨rfl, hb, rfl⟩
def numB (n : Int) : Bool := decide (0 ≤ n) && decide (n ≤ 9999)
theorem wnumber_ok (w : World) (n : Int) (hG : GP w) : FnP Tryz.prog 127 [.int .i64 n] w (fun v w' => v = AM (DJ n) ∧ numB n = true ∧ Ext w w') (fun ch w' => ch = unp ∧ numB n = false ∧ w' = w) := by
 refine Aq Tryz.func127 rfl Tryz.ntmps127 (Nat.le_of_ble_eq_true rfl) (by kernel_rfl) ?_
 repeat refine nx rfl ?_
 refine AA (AB (AY rfl ?_))
 repeat refine nx rfl ?_
 by_cases h0 : 0 ≤ n
 ·by_cases h1 : n ≤ 9999
  ·refine AA (AH rfl (W_geqT rfl rfl (by omega) (AC rfl (AE rfl (AH rfl (AE rfl (W_leqT rfl rfl (by omega) (AO rfl (AC rfl ?_)))))))))
   refine AX (Bt w true) rfl ?_ ?_
   rotate_left
   ·rintro ch w2 ⟨_, hb, _⟩; cases hb
   rintro v w2 ⟨rfl, hb, rfl⟩
   repeat refine nx rfl ?_
   refine AA (AH rfl ?_)
   refine AS (itoa_ok w2 n h0 h1 hG) rfl ?_
   rintro v w3 ⟨rfl, k3⟩
   refine AB (AY rfl ?_)
   repeat refine nx rfl ?_
   exact AP rfl ⟨rfl, by simp [numB, h0, h1], k3⟩
  ·refine AA (AH rfl (W_geqT rfl rfl (by omega) (AC rfl (AE rfl (AH rfl (AE rfl (W_leqF rfl rfl (by omega) (AO rfl (AC rfl ?_)))))))))
   refine AX (Bt w false) rfl ?_ ?_
   ·rintro v w2 ⟨_, hb, _⟩; cases hb
   rintro ch w2 ⟨rfl, hb, rfl⟩
   repeat refine nx rfl ?_
   exact AV ⟨rfl, by simp [numB, h1], rfl⟩
 ·refine AA (AH rfl (W_geqF rfl rfl (by omega) (AC rfl (AJ rfl (AJ rfl (AQ rfl (AC rfl ?_)))))))
  refine AX (Bt w false) rfl ?_ ?_
  ·rintro v w2 ⟨_, hb, _⟩; cases hb
  rintro ch w2 ⟨rfl, hb, rfl⟩
  repeat refine nx rfl ?_
  exact AV ⟨rfl, by simp [numB, h0], rfl⟩
end Go.Proofs.YtfcgdbmoncnibaaGreatDoor
namespace Go.Proofs.YtfcgdbmoncnibaaGreatDoor
open Go.RowKit
set_option linter.unusedVariables false
def nodeC (s : Sty) (f : Fml) : Bool := decide (s.least ≤ f.args.length ∧ f.args.length ≤ s.most) && decide (0 ≤ f.val ∧ f.val ≤ (s.val : Int)) && decide (0 ≤ f.bound ∧ f.bound ≤ (s.bound : Int)) && (decide (f.op = 3) || f.name.isEmpty)
theorem check_ok (w : World) (s : Sty) (b o : Nat) (f : Fml) (a : Option Addr) (c : Nat) (hcl : Cells w b o (fcC f (.slice a f.args.length c))) : FnP Tryz.prog 123 [Bf s, .pointer (some ⟨b, o, none⟩)] w
  (fun v w' => v = .tuple #[] ∧ Ext w w' ∧ nodeC s f = true) (fun ch w' => ch = unp ∧ Ext w w' ∧ nodeC s f = false) := by
 refine Aq Tryz.func123 rfl Tryz.ntmps123 (Nat.le_of_ble_eq_true rfl) (by kernel_rfl) ?_
 repeat refine nx rfl ?_
 (refine AA ?_; refine Bs (L := CB s) rfl (fun w1 n1 => AI ?_))
 have b1 := n1.blk
 have k1 := n1.keep
 repeat refine nx rfl ?_
 by_cases q1 : s.least ≤ f.args.length
 case neg =>
  refine Bw (.read 0 (.read 1 (.read 2 (.read 3 (.read 4 (.read 5 (.read 6 (.read 7 (.read 8 (.read 9 (.read 10 (.read 11 (.read 12 (.read 13 (.read 14 (.read 15 (.read 16 (.read 17 (.alt 18 .done .stop))))))))))))))))))) BA (by kernel_rfl) (by repeat (first | exact BP | refine BD ?_)) (fun wd kd ed => ⟨Ext wd, ?_, ?_⟩)
  ·exact Ext.refl _
  have bd := b1.keep kd (by simp)
  have fa : ∀ W, Ext wd W → W.cell? ⟨b, o + 4, none⟩ = some (.slice a f.args.length c) := fun W e => ((k1.trans kd).trans e).cell (hcl 4 _ rfl) (by simp)
  have fb : ∀ W, Ext wd W → W.cell? ⟨b, o + 2, none⟩ = some (.int .i64 f.val) := fun W e => ((k1.trans kd).trans e).cell (hcl 2 _ rfl) (by simp)
  have fc : ∀ W, Ext wd W → W.cell? ⟨b, o + 3, none⟩ = some (.int .i64 f.bound) := fun W e => ((k1.trans kd).trans e).cell (hcl 3 _ rfl) (by simp)
  have g4 : ∀ W, Ext wd W → W.cell? ⟨w.heap.size, 0 + 4, none⟩ = some (.int .i64 (s.least : Int)) := fun W e => (bd.keep e (by simp)).cell rfl
  have g5 : ∀ W, Ext wd W → W.cell? ⟨w.heap.size, 0 + 5, none⟩ = some (.int .i64 (s.most : Int)) := fun W e => (bd.keep e (by simp)).cell rfl
  have g6 : ∀ W, Ext wd W → W.cell? ⟨w.heap.size, 0 + 6, none⟩ = some (.int .i64 (s.val : Int)) := fun W e => (bd.keep e (by simp)).cell rfl
  have g7 : ∀ W, Ext wd W → W.cell? ⟨w.heap.size, 0 + 7, none⟩ = some (.int .i64 (s.bound : Int)) := fun W e => (bd.keep e (by simp)).cell rfl
  refine D_R rfl rfl (fun W hW => AK rfl Z3) (D_R rfl rfl (fun W hW => AF rfl Z3) (D_R rfl rfl (fun W hW => AD rfl Z3) (D_R rfl rfl (fun W hW => AG rfl (fa W hW) Z3) (D_R rfl rfl (fun W hW => As rfl Z3) (D_R rfl rfl (fun W hW => AD rfl Z3) (D_R rfl rfl (fun W hW => AG rfl (g4 W hW) Z3) (D_geqF rfl rfl rfl rfl (by omega) (D_R rfl rfl (fun W hW => AC rfl Z3) (Ao rfl rfl rfl rfl (Ao rfl rfl rfl rfl (Ao rfl rfl rfl rfl (Ao rfl rfl rfl rfl (Ao rfl rfl rfl rfl (Ao rfl rfl rfl rfl (Ao rfl rfl rfl rfl (Ao rfl rfl rfl rfl (D_R rfl rfl (fun W hW => AQ rfl (AC rfl Z3)) ?_)))))))))))))))))
  refine D_E rfl ?_
  refine AX (Bt wd false) rfl ?_ ?_
  ·rintro v w2 ⟨_, hb, _⟩; cases hb
  rintro ch w2 ⟨rfl, hb, rfl⟩
  repeat refine nx rfl ?_
  exact AV ⟨rfl, k1.trans kd, by simp [nodeC, q1]⟩
 by_cases q2 : f.args.length ≤ s.most
 case neg =>
  refine Bw (.read 0 (.read 1 (.read 2 (.read 3 (.read 4 (.read 5 (.read 6 (.read 7 (.read 8 (.read 9 (.read 10 (.read 11 (.read 12 (.read 13 (.read 14 (.read 15 (.read 16 (.read 17 (.alt 18 .done .stop))))))))))))))))))) BA (by kernel_rfl) (by repeat (first | exact BP | refine BD ?_)) (fun wd kd ed => ⟨Ext wd, ?_, ?_⟩)
  ·exact Ext.refl _
  have bd := b1.keep kd (by simp)
  have fa : ∀ W, Ext wd W → W.cell? ⟨b, o + 4, none⟩ = some (.slice a f.args.length c) := fun W e => ((k1.trans kd).trans e).cell (hcl 4 _ rfl) (by simp)
  have fb : ∀ W, Ext wd W → W.cell? ⟨b, o + 2, none⟩ = some (.int .i64 f.val) := fun W e => ((k1.trans kd).trans e).cell (hcl 2 _ rfl) (by simp)
  have fc : ∀ W, Ext wd W → W.cell? ⟨b, o + 3, none⟩ = some (.int .i64 f.bound) := fun W e => ((k1.trans kd).trans e).cell (hcl 3 _ rfl) (by simp)
  have g4 : ∀ W, Ext wd W → W.cell? ⟨w.heap.size, 0 + 4, none⟩ = some (.int .i64 (s.least : Int)) := fun W e => (bd.keep e (by simp)).cell rfl
  have g5 : ∀ W, Ext wd W → W.cell? ⟨w.heap.size, 0 + 5, none⟩ = some (.int .i64 (s.most : Int)) := fun W e => (bd.keep e (by simp)).cell rfl
  have g6 : ∀ W, Ext wd W → W.cell? ⟨w.heap.size, 0 + 6, none⟩ = some (.int .i64 (s.val : Int)) := fun W e => (bd.keep e (by simp)).cell rfl
  have g7 : ∀ W, Ext wd W → W.cell? ⟨w.heap.size, 0 + 7, none⟩ = some (.int .i64 (s.bound : Int)) := fun W e => (bd.keep e (by simp)).cell rfl
  refine D_R rfl rfl (fun W hW => AK rfl Z3) (D_R rfl rfl (fun W hW => AF rfl Z3) (D_R rfl rfl (fun W hW => AD rfl Z3) (D_R rfl rfl (fun W hW => AG rfl (fa W hW) Z3) (D_R rfl rfl (fun W hW => As rfl Z3) (D_R rfl rfl (fun W hW => AD rfl Z3) (D_R rfl rfl (fun W hW => AG rfl (g4 W hW) Z3) (D_geqT rfl rfl rfl rfl (by omega) (D_R rfl rfl (fun W hW => AC rfl Z3) (D_R rfl rfl (fun W hW => AE rfl (AK rfl Z3)) (D_R rfl rfl (fun W hW => AE rfl (AF rfl Z3)) (D_R rfl rfl (fun W hW => AE rfl (AD rfl Z3)) (D_R rfl rfl (fun W hW => AE rfl (AG rfl (fa W hW) Z3)) (D_R rfl rfl (fun W hW => AE rfl (As rfl Z3)) (D_R rfl rfl (fun W hW => AE rfl (AD rfl Z3)) (D_R rfl rfl (fun W hW => AE rfl (AG rfl (g5 W hW) Z3)) (D_leqF rfl rfl rfl rfl (by omega) (D_R rfl rfl (fun W hW => AO rfl (AC rfl Z3)) ?_)))))))))))))))))
  refine D_E rfl ?_
  refine AX (Bt wd false) rfl ?_ ?_
  ·rintro v w2 ⟨_, hb, _⟩; cases hb
  rintro ch w2 ⟨rfl, hb, rfl⟩
  repeat refine nx rfl ?_
  exact AV ⟨rfl, k1.trans kd, by simp [nodeC, q2]⟩
 refine Bw (.read 0 (.read 1 (.read 2 (.read 3 (.read 4 (.read 5 (.read 6 (.read 7 (.read 8 (.read 9 (.read 10 (.read 11 (.read 12 (.read 13 (.read 14 (.read 15 (.read 16 (.read 17 (.alt 18 .done .stop))))))))))))))))))) BA (by kernel_rfl) (by repeat (first | exact BP | refine BD ?_)) (fun wd kd ed => ⟨Ext wd, ?_, ?_⟩)
 ·exact Ext.refl _
 have bd := b1.keep kd (by simp)
 have fa : ∀ W, Ext wd W → W.cell? ⟨b, o + 4, none⟩ = some (.slice a f.args.length c) := fun W e => ((k1.trans kd).trans e).cell (hcl 4 _ rfl) (by simp)
 have fb : ∀ W, Ext wd W → W.cell? ⟨b, o + 2, none⟩ = some (.int .i64 f.val) := fun W e => ((k1.trans kd).trans e).cell (hcl 2 _ rfl) (by simp)
 have fc : ∀ W, Ext wd W → W.cell? ⟨b, o + 3, none⟩ = some (.int .i64 f.bound) := fun W e => ((k1.trans kd).trans e).cell (hcl 3 _ rfl) (by simp)
 have g4 : ∀ W, Ext wd W → W.cell? ⟨w.heap.size, 0 + 4, none⟩ = some (.int .i64 (s.least : Int)) := fun W e => (bd.keep e (by simp)).cell rfl
 have g5 : ∀ W, Ext wd W → W.cell? ⟨w.heap.size, 0 + 5, none⟩ = some (.int .i64 (s.most : Int)) := fun W e => (bd.keep e (by simp)).cell rfl
 have g6 : ∀ W, Ext wd W → W.cell? ⟨w.heap.size, 0 + 6, none⟩ = some (.int .i64 (s.val : Int)) := fun W e => (bd.keep e (by simp)).cell rfl
 have g7 : ∀ W, Ext wd W → W.cell? ⟨w.heap.size, 0 + 7, none⟩ = some (.int .i64 (s.bound : Int)) := fun W e => (bd.keep e (by simp)).cell rfl
 refine D_R rfl rfl (fun W hW => AK rfl Z3) (D_R rfl rfl (fun W hW => AF rfl Z3) (D_R rfl rfl (fun W hW => AD rfl Z3) (D_R rfl rfl (fun W hW => AG rfl (fa W hW) Z3) (D_R rfl rfl (fun W hW => As rfl Z3) (D_R rfl rfl (fun W hW => AD rfl Z3) (D_R rfl rfl (fun W hW => AG rfl (g4 W hW) Z3) (D_geqT rfl rfl rfl rfl (by omega) (D_R rfl rfl (fun W hW => AC rfl Z3) (D_R rfl rfl (fun W hW => AE rfl (AK rfl Z3)) (D_R rfl rfl (fun W hW => AE rfl (AF rfl Z3)) (D_R rfl rfl (fun W hW => AE rfl (AD rfl Z3)) (D_R rfl rfl (fun W hW => AE rfl (AG rfl (fa W hW) Z3)) (D_R rfl rfl (fun W hW => AE rfl (As rfl Z3)) (D_R rfl rfl (fun W hW => AE rfl (AD rfl Z3)) (D_R rfl rfl (fun W hW => AE rfl (AG rfl (g5 W hW) Z3)) (D_leqT rfl rfl rfl rfl (by omega) (D_R rfl rfl (fun W hW => AO rfl (AC rfl Z3)) ?_)))))))))))))))))
 refine D_E rfl ?_
 refine AX (Bt wd true) rfl ?_ ?_
 rotate_left
 ·rintro ch w2 ⟨_, hb, _⟩; cases hb
 rintro v w2 ⟨rfl, hb, rfl⟩
 refine AI ⟨Ext w2, fun _ e => e, Ext.refl _, ?_⟩
 refine Ay ?_
 repeat refine nx rfl ?_
 replace k1 := k1.trans kd
 clear fa fb fc g4 g5 g6 g7 kd ed b1
 have b1 := bd
 clear bd
 by_cases q3 : 0 ≤ f.val
 case neg =>
  refine Bw (.read 0 (.read 1 (.read 2 (.read 3 (.read 4 (.read 5 (.read 6 (.read 7 (.read 8 (.read 9 (.read 10 (.read 11 (.read 12 (.read 13 (.alt 14 .done .stop))))))))))))))) BA (by kernel_rfl) (by repeat (first | exact BP | refine BD ?_)) (fun wd kd ed => ⟨Ext wd, ?_, ?_⟩)
  ·exact Ext.refl _
  have bd := b1.keep kd (by simp)
  have fa : ∀ W, Ext wd W → W.cell? ⟨b, o + 4, none⟩ = some (.slice a f.args.length c) := fun W e => ((k1.trans kd).trans e).cell (hcl 4 _ rfl) (by simp)
  have fb : ∀ W, Ext wd W → W.cell? ⟨b, o + 2, none⟩ = some (.int .i64 f.val) := fun W e => ((k1.trans kd).trans e).cell (hcl 2 _ rfl) (by simp)
  have fc : ∀ W, Ext wd W → W.cell? ⟨b, o + 3, none⟩ = some (.int .i64 f.bound) := fun W e => ((k1.trans kd).trans e).cell (hcl 3 _ rfl) (by simp)
  have g4 : ∀ W, Ext wd W → W.cell? ⟨w.heap.size, 0 + 4, none⟩ = some (.int .i64 (s.least : Int)) := fun W e => (bd.keep e (by simp)).cell rfl
  have g5 : ∀ W, Ext wd W → W.cell? ⟨w.heap.size, 0 + 5, none⟩ = some (.int .i64 (s.most : Int)) := fun W e => (bd.keep e (by simp)).cell rfl
  have g6 : ∀ W, Ext wd W → W.cell? ⟨w.heap.size, 0 + 6, none⟩ = some (.int .i64 (s.val : Int)) := fun W e => (bd.keep e (by simp)).cell rfl
  have g7 : ∀ W, Ext wd W → W.cell? ⟨w.heap.size, 0 + 7, none⟩ = some (.int .i64 (s.bound : Int)) := fun W e => (bd.keep e (by simp)).cell rfl
  refine D_R rfl rfl (fun W hW => AK rfl Z3) (D_R rfl rfl (fun W hW => AF rfl Z3) (D_R rfl rfl (fun W hW => AD rfl Z3) (D_R rfl rfl (fun W hW => AG rfl (fb W hW) Z3) (D_geqF rfl rfl rfl rfl (by omega) (D_R rfl rfl (fun W hW => AC rfl Z3) (Ao rfl rfl rfl rfl (Ao rfl rfl rfl rfl (Ao rfl rfl rfl rfl (Ao rfl rfl rfl rfl (Ao rfl rfl rfl rfl (Ao rfl rfl rfl rfl (Ao rfl rfl rfl rfl (D_R rfl rfl (fun W hW => AQ rfl (AC rfl Z3)) ?_)))))))))))))
  refine D_E rfl ?_
  refine AX (Bt wd false) rfl ?_ ?_
  ·rintro v w2 ⟨_, hb, _⟩; cases hb
  rintro ch w2 ⟨rfl, hb, rfl⟩
  repeat refine nx rfl ?_
  exact AV ⟨rfl, k1.trans kd, by simp [nodeC, q3]⟩
 by_cases q4 : f.val ≤ (s.val : Int)
 case neg =>
  refine Bw (.read 0 (.read 1 (.read 2 (.read 3 (.read 4 (.read 5 (.read 6 (.read 7 (.read 8 (.read 9 (.read 10 (.read 11 (.read 12 (.read 13 (.alt 14 .done .stop))))))))))))))) BA (by kernel_rfl) (by repeat (first | exact BP | refine BD ?_)) (fun wd kd ed => ⟨Ext wd, ?_, ?_⟩)
  ·exact Ext.refl _
  have bd := b1.keep kd (by simp)
  have fa : ∀ W, Ext wd W → W.cell? ⟨b, o + 4, none⟩ = some (.slice a f.args.length c) := fun W e => ((k1.trans kd).trans e).cell (hcl 4 _ rfl) (by simp)
  have fb : ∀ W, Ext wd W → W.cell? ⟨b, o + 2, none⟩ = some (.int .i64 f.val) := fun W e => ((k1.trans kd).trans e).cell (hcl 2 _ rfl) (by simp)
  have fc : ∀ W, Ext wd W → W.cell? ⟨b, o + 3, none⟩ = some (.int .i64 f.bound) := fun W e => ((k1.trans kd).trans e).cell (hcl 3 _ rfl) (by simp)
  have g4 : ∀ W, Ext wd W → W.cell? ⟨w.heap.size, 0 + 4, none⟩ = some (.int .i64 (s.least : Int)) := fun W e => (bd.keep e (by simp)).cell rfl
  have g5 : ∀ W, Ext wd W → W.cell? ⟨w.heap.size, 0 + 5, none⟩ = some (.int .i64 (s.most : Int)) := fun W e => (bd.keep e (by simp)).cell rfl
  have g6 : ∀ W, Ext wd W → W.cell? ⟨w.heap.size, 0 + 6, none⟩ = some (.int .i64 (s.val : Int)) := fun W e => (bd.keep e (by simp)).cell rfl
  have g7 : ∀ W, Ext wd W → W.cell? ⟨w.heap.size, 0 + 7, none⟩ = some (.int .i64 (s.bound : Int)) := fun W e => (bd.keep e (by simp)).cell rfl
  refine D_R rfl rfl (fun W hW => AK rfl Z3) (D_R rfl rfl (fun W hW => AF rfl Z3) (D_R rfl rfl (fun W hW => AD rfl Z3) (D_R rfl rfl (fun W hW => AG rfl (fb W hW) Z3) (D_geqT rfl rfl rfl rfl (by omega) (D_R rfl rfl (fun W hW => AC rfl Z3) (D_R rfl rfl (fun W hW => AE rfl (AK rfl Z3)) (D_R rfl rfl (fun W hW => AE rfl (AF rfl Z3)) (D_R rfl rfl (fun W hW => AE rfl (AD rfl Z3)) (D_R rfl rfl (fun W hW => AE rfl (AG rfl (fb W hW) Z3)) (D_R rfl rfl (fun W hW => AE rfl (AD rfl Z3)) (D_R rfl rfl (fun W hW => AE rfl (AG rfl (g6 W hW) Z3)) (D_leqF rfl rfl rfl rfl (by omega) (D_R rfl rfl (fun W hW => AO rfl (AC rfl Z3)) ?_)))))))))))))
  refine D_E rfl ?_
  refine AX (Bt wd false) rfl ?_ ?_
  ·rintro v w2 ⟨_, hb, _⟩; cases hb
  rintro ch w2 ⟨rfl, hb, rfl⟩
  repeat refine nx rfl ?_
  exact AV ⟨rfl, k1.trans kd, by simp [nodeC, q4]⟩
 refine Bw (.read 0 (.read 1 (.read 2 (.read 3 (.read 4 (.read 5 (.read 6 (.read 7 (.read 8 (.read 9 (.read 10 (.read 11 (.read 12 (.read 13 (.alt 14 .done .stop))))))))))))))) BA (by kernel_rfl) (by repeat (first | exact BP | refine BD ?_)) (fun wd kd ed => ⟨Ext wd, ?_, ?_⟩)
 ·exact Ext.refl _
 have bd := b1.keep kd (by simp)
 have fa : ∀ W, Ext wd W → W.cell? ⟨b, o + 4, none⟩ = some (.slice a f.args.length c) := fun W e => ((k1.trans kd).trans e).cell (hcl 4 _ rfl) (by simp)
 have fb : ∀ W, Ext wd W → W.cell? ⟨b, o + 2, none⟩ = some (.int .i64 f.val) := fun W e => ((k1.trans kd).trans e).cell (hcl 2 _ rfl) (by simp)
 have fc : ∀ W, Ext wd W → W.cell? ⟨b, o + 3, none⟩ = some (.int .i64 f.bound) := fun W e => ((k1.trans kd).trans e).cell (hcl 3 _ rfl) (by simp)
 have g4 : ∀ W, Ext wd W → W.cell? ⟨w.heap.size, 0 + 4, none⟩ = some (.int .i64 (s.least : Int)) := fun W e => (bd.keep e (by simp)).cell rfl
 have g5 : ∀ W, Ext wd W → W.cell? ⟨w.heap.size, 0 + 5, none⟩ = some (.int .i64 (s.most : Int)) := fun W e => (bd.keep e (by simp)).cell rfl
 have g6 : ∀ W, Ext wd W → W.cell? ⟨w.heap.size, 0 + 6, none⟩ = some (.int .i64 (s.val : Int)) := fun W e => (bd.keep e (by simp)).cell rfl
 have g7 : ∀ W, Ext wd W → W.cell? ⟨w.heap.size, 0 + 7, none⟩ = some (.int .i64 (s.bound : Int)) := fun W e => (bd.keep e (by simp)).cell rfl
 refine D_R rfl rfl (fun W hW => AK rfl Z3) (D_R rfl rfl (fun W hW => AF rfl Z3) (D_R rfl rfl (fun W hW => AD rfl Z3) (D_R rfl rfl (fun W hW => AG rfl (fb W hW) Z3) (D_geqT rfl rfl rfl rfl (by omega) (D_R rfl rfl (fun W hW => AC rfl Z3) (D_R rfl rfl (fun W hW => AE rfl (AK rfl Z3)) (D_R rfl rfl (fun W hW => AE rfl (AF rfl Z3)) (D_R rfl rfl (fun W hW => AE rfl (AD rfl Z3)) (D_R rfl rfl (fun W hW => AE rfl (AG rfl (fb W hW) Z3)) (D_R rfl rfl (fun W hW => AE rfl (AD rfl Z3)) (D_R rfl rfl (fun W hW => AE rfl (AG rfl (g6 W hW) Z3)) (D_leqT rfl rfl rfl rfl (by omega) (D_R rfl rfl (fun W hW => AO rfl (AC rfl Z3)) ?_)))))))))))))
 refine D_E rfl ?_
 refine AX (Bt wd true) rfl ?_ ?_
 rotate_left
 ·rintro ch w2 ⟨_, hb, _⟩; cases hb
 rintro v w2 ⟨rfl, hb, rfl⟩
 refine AI ⟨Ext w2, fun _ e => e, Ext.refl _, ?_⟩
 refine Ay ?_
 repeat refine nx rfl ?_
 replace k1 := k1.trans kd
 clear fa fb fc g4 g5 g6 g7 kd ed b1
 have b1 := bd
 clear bd
 by_cases q5 : 0 ≤ f.bound
 case neg =>
  refine Bw (.read 0 (.read 1 (.read 2 (.read 3 (.read 4 (.read 5 (.read 6 (.read 7 (.read 8 (.read 9 (.read 10 (.read 11 (.read 12 (.read 13 (.alt 14 .done .stop))))))))))))))) BA (by kernel_rfl) (by repeat (first | exact BP | refine BD ?_)) (fun wd kd ed => ⟨Ext wd, ?_, ?_⟩)
  ·exact Ext.refl _
  have bd := b1.keep kd (by simp)
  have fa : ∀ W, Ext wd W → W.cell? ⟨b, o + 4, none⟩ = some (.slice a f.args.length c) := fun W e => ((k1.trans kd).trans e).cell (hcl 4 _ rfl) (by simp)
  have fb : ∀ W, Ext wd W → W.cell? ⟨b, o + 2, none⟩ = some (.int .i64 f.val) := fun W e => ((k1.trans kd).trans e).cell (hcl 2 _ rfl) (by simp)
  have fc : ∀ W, Ext wd W → W.cell? ⟨b, o + 3, none⟩ = some (.int .i64 f.bound) := fun W e => ((k1.trans kd).trans e).cell (hcl 3 _ rfl) (by simp)
  have g4 : ∀ W, Ext wd W → W.cell? ⟨w.heap.size, 0 + 4, none⟩ = some (.int .i64 (s.least : Int)) := fun W e => (bd.keep e (by simp)).cell rfl
  have g5 : ∀ W, Ext wd W → W.cell? ⟨w.heap.size, 0 + 5, none⟩ = some (.int .i64 (s.most : Int)) := fun W e => (bd.keep e (by simp)).cell rfl
  have g6 : ∀ W, Ext wd W → W.cell? ⟨w.heap.size, 0 + 6, none⟩ = some (.int .i64 (s.val : Int)) := fun W e => (bd.keep e (by simp)).cell rfl
  have g7 : ∀ W, Ext wd W → W.cell? ⟨w.heap.size, 0 + 7, none⟩ = some (.int .i64 (s.bound : Int)) := fun W e => (bd.keep e (by simp)).cell rfl
  refine D_R rfl rfl (fun W hW => AK rfl Z3) (D_R rfl rfl (fun W hW => AF rfl Z3) (D_R rfl rfl (fun W hW => AD rfl Z3) (D_R rfl rfl (fun W hW => AG rfl (fc W hW) Z3) (D_geqF rfl rfl rfl rfl (by omega) (D_R rfl rfl (fun W hW => AC rfl Z3) (Ao rfl rfl rfl rfl (Ao rfl rfl rfl rfl (Ao rfl rfl rfl rfl (Ao rfl rfl rfl rfl (Ao rfl rfl rfl rfl (Ao rfl rfl rfl rfl (Ao rfl rfl rfl rfl (D_R rfl rfl (fun W hW => AQ rfl (AC rfl Z3)) ?_)))))))))))))
  refine D_E rfl ?_
  refine AX (Bt wd false) rfl ?_ ?_
  ·rintro v w2 ⟨_, hb, _⟩; cases hb
  rintro ch w2 ⟨rfl, hb, rfl⟩
  repeat refine nx rfl ?_
  exact AV ⟨rfl, k1.trans kd, by simp [nodeC, q5]⟩
 by_cases q6 : f.bound ≤ (s.bound : Int)
 case neg =>
  refine Bw (.read 0 (.read 1 (.read 2 (.read 3 (.read 4 (.read 5 (.read 6 (.read 7 (.read 8 (.read 9 (.read 10 (.read 11 (.read 12 (.read 13 (.alt 14 .done .stop))))))))))))))) BA (by kernel_rfl) (by repeat (first | exact BP | refine BD ?_)) (fun wd kd ed => ⟨Ext wd, ?_, ?_⟩)
  ·exact Ext.refl _
  have bd := b1.keep kd (by simp)
  have fa : ∀ W, Ext wd W → W.cell? ⟨b, o + 4, none⟩ = some (.slice a f.args.length c) := fun W e => ((k1.trans kd).trans e).cell (hcl 4 _ rfl) (by simp)
  have fb : ∀ W, Ext wd W → W.cell? ⟨b, o + 2, none⟩ = some (.int .i64 f.val) := fun W e => ((k1.trans kd).trans e).cell (hcl 2 _ rfl) (by simp)
  have fc : ∀ W, Ext wd W → W.cell? ⟨b, o + 3, none⟩ = some (.int .i64 f.bound) := fun W e => ((k1.trans kd).trans e).cell (hcl 3 _ rfl) (by simp)
  have g4 : ∀ W, Ext wd W → W.cell? ⟨w.heap.size, 0 + 4, none⟩ = some (.int .i64 (s.least : Int)) := fun W e => (bd.keep e (by simp)).cell rfl
  have g5 : ∀ W, Ext wd W → W.cell? ⟨w.heap.size, 0 + 5, none⟩ = some (.int .i64 (s.most : Int)) := fun W e => (bd.keep e (by simp)).cell rfl
  have g6 : ∀ W, Ext wd W → W.cell? ⟨w.heap.size, 0 + 6, none⟩ = some (.int .i64 (s.val : Int)) := fun W e => (bd.keep e (by simp)).cell rfl
  have g7 : ∀ W, Ext wd W → W.cell? ⟨w.heap.size, 0 + 7, none⟩ = some (.int .i64 (s.bound : Int)) := fun W e => (bd.keep e (by simp)).cell rfl
  refine D_R rfl rfl (fun W hW => AK rfl Z3) (D_R rfl rfl (fun W hW => AF rfl Z3) (D_R rfl rfl (fun W hW => AD rfl Z3) (D_R rfl rfl (fun W hW => AG rfl (fc W hW) Z3) (D_geqT rfl rfl rfl rfl (by omega) (D_R rfl rfl (fun W hW => AC rfl Z3) (D_R rfl rfl (fun W hW => AE rfl (AK rfl Z3)) (D_R rfl rfl (fun W hW => AE rfl (AF rfl Z3)) (D_R rfl rfl (fun W hW => AE rfl (AD rfl Z3)) (D_R rfl rfl (fun W hW => AE rfl (AG rfl (fc W hW) Z3)) (D_R rfl rfl (fun W hW => AE rfl (AD rfl Z3)) (D_R rfl rfl (fun W hW => AE rfl (AG rfl (g7 W hW) Z3)) (D_leqF rfl rfl rfl rfl (by omega) (D_R rfl rfl (fun W hW => AO rfl (AC rfl Z3)) ?_)))))))))))))
  refine D_E rfl ?_
  refine AX (Bt wd false) rfl ?_ ?_
  ·rintro v w2 ⟨_, hb, _⟩; cases hb
  rintro ch w2 ⟨rfl, hb, rfl⟩
  repeat refine nx rfl ?_
  exact AV ⟨rfl, k1.trans kd, by simp [nodeC, q6]⟩
 refine Bw (.read 0 (.read 1 (.read 2 (.read 3 (.read 4 (.read 5 (.read 6 (.read 7 (.read 8 (.read 9 (.read 10 (.read 11 (.read 12 (.read 13 (.alt 14 .done .stop))))))))))))))) BA (by kernel_rfl) (by repeat (first | exact BP | refine BD ?_)) (fun wd kd ed => ⟨Ext wd, ?_, ?_⟩)
 ·exact Ext.refl _
 have bd := b1.keep kd (by simp)
 have fa : ∀ W, Ext wd W → W.cell? ⟨b, o + 4, none⟩ = some (.slice a f.args.length c) := fun W e => ((k1.trans kd).trans e).cell (hcl 4 _ rfl) (by simp)
 have fb : ∀ W, Ext wd W → W.cell? ⟨b, o + 2, none⟩ = some (.int .i64 f.val) := fun W e => ((k1.trans kd).trans e).cell (hcl 2 _ rfl) (by simp)
 have fc : ∀ W, Ext wd W → W.cell? ⟨b, o + 3, none⟩ = some (.int .i64 f.bound) := fun W e => ((k1.trans kd).trans e).cell (hcl 3 _ rfl) (by simp)
 have g4 : ∀ W, Ext wd W → W.cell? ⟨w.heap.size, 0 + 4, none⟩ = some (.int .i64 (s.least : Int)) := fun W e => (bd.keep e (by simp)).cell rfl
 have g5 : ∀ W, Ext wd W → W.cell? ⟨w.heap.size, 0 + 5, none⟩ = some (.int .i64 (s.most : Int)) := fun W e => (bd.keep e (by simp)).cell rfl
 have g6 : ∀ W, Ext wd W → W.cell? ⟨w.heap.size, 0 + 6, none⟩ = some (.int .i64 (s.val : Int)) := fun W e => (bd.keep e (by simp)).cell rfl
 have g7 : ∀ W, Ext wd W → W.cell? ⟨w.heap.size, 0 + 7, none⟩ = some (.int .i64 (s.bound : Int)) := fun W e => (bd.keep e (by simp)).cell rfl
 refine D_R rfl rfl (fun W hW => AK rfl Z3) (D_R rfl rfl (fun W hW => AF rfl Z3) (D_R rfl rfl (fun W hW => AD rfl Z3) (D_R rfl rfl (fun W hW => AG rfl (fc W hW) Z3) (D_geqT rfl rfl rfl rfl (by omega) (D_R rfl rfl (fun W hW => AC rfl Z3) (D_R rfl rfl (fun W hW => AE rfl (AK rfl Z3)) (D_R rfl rfl (fun W hW => AE rfl (AF rfl Z3)) (D_R rfl rfl (fun W hW => AE rfl (AD rfl Z3)) (D_R rfl rfl (fun W hW => AE rfl (AG rfl (fc W hW) Z3)) (D_R rfl rfl (fun W hW => AE rfl (AD rfl Z3)) (D_R rfl rfl (fun W hW => AE rfl (AG rfl (g7 W hW) Z3)) (D_leqT rfl rfl rfl rfl (by omega) (D_R rfl rfl (fun W hW => AO rfl (AC rfl Z3)) ?_)))))))))))))
 refine D_E rfl ?_
 refine AX (Bt wd true) rfl ?_ ?_
 rotate_left
 ·rintro ch w2 ⟨_, hb, _⟩; cases hb
 rintro v w2 ⟨rfl, hb, rfl⟩
 refine AI ⟨Ext w2, fun _ e => e, Ext.refl _, ?_⟩
 refine Ay ?_
 repeat refine nx rfl ?_
 replace k1 := k1.trans kd
 clear fa fb fc g4 g5 g6 g7 kd ed b1
 have b1 := bd
 clear bd
 have fo := k1.cell (hcl 0 _ rfl) (by simp)
 have fn := k1.cell (hcl 1 _ rfl) (by simp)
 by_cases q7 : f.op = 3
 ·(refine AA (AK rfl (AF rfl (AD rfl (AG rfl (by assumption) ?_)))) <;> refine Av rfl rfl (by omega) (AC rfl (AJ rfl (AJ rfl (AJ rfl (AJ rfl (AJ rfl (AO rfl (AC rfl ?_)))))))))
  refine AX (Bt _ true) rfl ?_ ?_
  rotate_left
  ·rintro ch w2 ⟨_, hb, _⟩; cases hb
  rintro v w2 ⟨rfl, hb, rfl⟩
  repeat refine nx rfl ?_
  exact Az rfl ⟨rfl, k1, by simp [nodeC, q1, q2, q3, q4, q5, q6, q7]⟩
 by_cases q8 : f.name = []
 ·(refine AA (AK rfl (AF rfl (AD rfl (AG rfl (by assumption) ?_)))) <;> refine AL rfl rfl (by omega) (AC rfl (AE rfl (AK rfl (AE rfl (AF rfl (AE rfl (AD rfl (AE rfl (AG rfl (by assumption) ?_))))))))) <;> (refine AE rfl ?_; refine CK rfl rfl (fun hc => ?_) (fun hc => ?_)) <;> refine AQ rfl (AC rfl ?_))
  case refine_2 => exact absurd q8 (by assumption)
  refine AX (Bt _ true) rfl ?_ ?_
  rotate_left
  ·rintro ch w2 ⟨_, hb, _⟩; cases hb
  rintro v w2 ⟨rfl, hb, rfl⟩
  repeat refine nx rfl ?_
  exact Az rfl ⟨rfl, k1, by simp [nodeC, q1, q2, q3, q4, q5, q6, q8]⟩
 ·(refine AA (AK rfl (AF rfl (AD rfl (AG rfl (by assumption) ?_)))) <;> refine AL rfl rfl (by omega) (AC rfl (AE rfl (AK rfl (AE rfl (AF rfl (AE rfl (AD rfl (AE rfl (AG rfl (by assumption) ?_))))))))) <;> (refine AE rfl ?_; refine CK rfl rfl (fun hc => ?_) (fun hc => ?_)) <;> refine AQ rfl (AC rfl ?_))
  case refine_1 => exact absurd (by assumption) q8
  refine AX (Bt _ false) rfl ?_ ?_
  ·rintro v w2 ⟨_, hb, _⟩; cases hb
  rintro ch w2 ⟨rfl, hb, rfl⟩
  repeat refine nx rfl ?_
  exact AV ⟨rfl, k1, by simp [nodeC, q7, q8]⟩
end Go.Proofs.YtfcgdbmoncnibaaGreatDoor
