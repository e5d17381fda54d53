/- Rules: full slices, clear, shifts of uints. Formulas one of each: slices.CompactFunc. slices.CompactFunc at formulas, walked. Rules for maps from integers to values: made, filled, looked up. The reader of a letter: its tables of functions. The reader of a letter: progress.readerOf. What a reader says is true now: progress.past, reader.now and the functions of its table. Conditions: none. -/
import Derived.Test.YtkhhjdjmhbdjfaaGreatDoorQT8
import Derived.Maps.RangeRun

namespace Go.Proofs.YtkhhjdjmhbdjfaaGreatDoor
open Go.RowKit
set_option linter.unusedVariables false
variable {mk : Prop} [MK mk]
section
attribute [local semireducible] WC AX Bx BT Bu finQ finD Bw
variable {P : Program} {all : Array Oper} {Z : Fr → DS → List PanicEntry → World → Prop} {K : Fr → DS → World → Prop} {rest : List Oper} {f : Fr} {ds : DS} {w : World}
 {d : Nat} {ty xt yt : TypeId} {pos : String} {af : Array Edge} {x y : Operand}
theorem W_slice_hm {T e size bytes : Nat} {z : Value} {hi mx : Operand} {a : Option Addr} {n c : Nat} {k k' : IntKind} {h m : Nat} [hT : SlT P T e size bytes z] (hx : ev f x = .slice a n c) (hh : ev f hi = .int k (h : Int)) (hm : ev f mx = .int k' (m : Int)) (h1 : h ≤ m) (h2 : m ≤ c)
  (hk : AX P all Z K rest (upd f d (.slice a h m)) ds w) : AX P all Z K (⟨some d, .slice T x none (some hi) (some mx), ty, pos, af, none⟩ :: rest) f ds w := by
 obtain ⟨q, hq, _, hs, _⟩ := hT.out
 refine BB rfl ?_ hk
 simp only [execOp, hx, hh, hm, Option.map_some, Option.map_none, Instr.sliceAt, Sem.run_bind, run_underlying hT.und, Result.andThen_ok, Instr.slice, Instr.sliceBounds, Instr.sliceBound, asIntOf, Sem.run_pure, sizeOf, typeInfo, program]
 have e : (if m = 0 then a else a.map fun (x : Addr) => x.add 0) = a := by
  split
  ·rfl
  ·cases a with
   | none => rfl
   | some a => simp [Addr.add]
 simp [Sem.run, hq, hs, show (m : Int) ≤ c by omega, h1, e]
theorem W_slice_lS {T e size bytes : Nat} {z : Value} {lo : Operand} {b o n c l : Nat} {k : IntKind} [hT : SlT P T e size bytes z] (hx : ev f x = .slice (some ⟨b, o, none⟩) n c) (hl : ev f lo = .int k (l : Int)) (h1 : l ≤ n) (h2 : l < c)
  (h : AX P all Z K rest (upd f d (.slice (some ⟨b, o + l * size, none⟩) (n - l) (c - l))) ds w) : AX P all Z K (⟨some d, .slice T x (some lo) none none, ty, pos, af, none⟩ :: rest) f ds w := by
 have e : adv c (l : Int).toNat size (some ⟨b, o, none⟩) = some ⟨b, o + l * size, none⟩ := by
  unfold adv
  rw [Int.toNat_natCast, if_neg (by omega)]
  simp [Addr.add_lit]
 refine W_slice_l hx hl (by omega) (by omega) ?_
 rw [e]
 exact h
theorem W_clear {T e size bytes : Nat} {z : Value} {b o n c : Nat} {bt : TypeId} {L L0 : List Value} [hT : SlT P T e size bytes z] [hz : Cb P e L0] (hx : ev f x = .slice (some ⟨b, o, none⟩) n c) (hn : 0 < n) (h1 : oneC L0) (hb : Blk w b bt L) (hl : o + n * L0.length ≤ L.length)
  (h : ∀ w' zs, zs.length = n * L0.length → Put w w' b bt (splice L o zs) → AX P all Z K rest f ds w') : AX P all Z K (⟨none, .call ⟨.builtin .clear, #[x], #[T]⟩, ty, pos, af, none⟩ :: rest) f ds w := by
 obtain ⟨zz, hzr, hzc⟩ := run_zero (P := P) (T := e) w
 have hsz : (Builtin.zeroCells zz.cells n).size = n * L0.length := by simp [Builtin.zeroCells, hzc]
 have hone : ∀ v ∈ (Builtin.zeroCells zz.cells n).toList, v.oneCell' = true := by
  intro v hv
  simp only [Builtin.zeroCells, hzc, Array.toList_map, List.mem_map] at hv
  obtain ⟨i, hi, rfl⟩ := hv
  have hi' : i < n * L0.length := by simpa using hi
  have hp : 0 < L0.length := by
   rcases Nat.eq_zero_or_pos L0.length with h | h
   ·rw [h] at hi'; omega
   ·exact h
  have hlt : i % L0.length < L0.length := Nat.mod_lt _ hp
  rw [List.size_toArray, getElem!_pos _ _ (by simpa using hlt)]
  exact h1 _ (by simp)
 have hg : w.heap[b]? = some (.cells L.toArray bt (0, 0)) := hb
 have hst := run_storeCells_at P b o bt (Builtin.zeroCells zz.cells n).toList 0 L.toArray w hg (by simp only [Array.length_toList, hsz, List.size_toArray]; omega) hone
 simp only [Nat.add_zero] at hst
 refine BB (v := .tuple #[]) (w' := w.setRow b (splice L o (Builtin.zeroCells zz.cells n).toList).toArray) rfl ?_ (h _ _ (by simp [hsz]) ⟨⟨rfl, rfl, rfl, by simp [World.setRow], fun k _ hk => setRow_other w b k _ (by simpa using hk), fun _ => mark_put (g := b) (by simp [World.setRow]) (fun k hk => setRow_other w b k _ hk) (Unm.cells (setRow_heap w b _ _ bt _ hg)), Nat.le_refl _⟩, by simp [World.setRow], setRow_heap w b _ _ bt _ hg⟩)
 have hn' : ∃ m, n = m + 1 := ⟨n - 1, by omega⟩
 obtain ⟨m, rfl⟩ := hn'
 simp only [execOp, resolve, invoke, builtin, Sem.run_bind, Sem.run_pure, Result.andThen_ok]
 simp [hx, Builtin.clear_, run_underlying hT.und, hzr]
 rw [hst]
 simp [splice]
theorem W_eqlD {k : IntKind} {a b : Int} (hx : ev f x = .int k a) (hy : ev f y = .int k b) (h : AX P all Z K rest (upd f d (.bool (decide (a = b)))) ds w) : AX P all Z K (⟨some d, .binOp .eql xt x y yt, ty, pos, af, none⟩ :: rest) f ds w :=
 CC hx hy (fun e => by rw [decide_eq_true e] at h; exact h) (fun e => by rw [decide_eq_false e] at h; exact h)
theorem W_field {T i off ft : Nat} {L : List Value} {v : Value} [hT : BN P T i off ft] [he : DA P ft] (hx : ev f x = .agg L.toArray) (hv : L[off]? = some v) (h : AX P all Z K rest (upd f d v) ds w) :
  AX P all Z K (⟨some d, .field T x i, ty, pos, af, none⟩ :: rest) f ds w := by
 refine BB rfl ?_ h
 obtain ⟨fs, fld, h1, h2, h3, h4, _⟩ := hT.out
 obtain ⟨dd, g1, g2⟩ := he.out
 have ha : (isAgg ft).run P w = .ok false w := by
  simp only [isAgg, Sem.run_bind, run_underlying g1, Result.andThen_ok]
  cases dd <;> simp_all [aggD]
 have hp : (part ft L.toArray off).run P w = .ok v w := by
  simp only [part, Sem.run_bind, ha, Result.andThen_ok]
  simp [hv]
 simp only [execOp, hx, Instr.field, Sem.run_bind, run_underlying h1, Result.andThen_ok, h2, h3, h4, asAgg, Sem.run_pure, hp]
theorem inR_u64 {n : Int} (h1 : 0 ≤ n) (h2 : n ≤ 18446744073709551615) : inR .u64 n := by
 unfold inR
 constructor
 ·show IntKind.min .u64 ≤ n
  have : IntKind.min .u64 = 0 := rfl
  omega
 ·show n ≤ IntKind.max .u64
  have : IntKind.max .u64 = 18446744073709551615 := by decide
  omega
theorem W_shrU {k' : IntKind} {m n : Nat} (hx : ev f x = .int .u64 (m : Int)) (hy : ev f y = .int k' (n : Int)) (hn : n ≤ 60) (h : AX P all Z K rest (upd f d (.int .u64 ((m / 2 ^ n : Nat) : Int))) ds w) :
  AX P all Z K (⟨some d, .binOp .shr xt x y yt, ty, pos, af, none⟩ :: rest) f ds w := by
 have e : (m : Int).fdiv (2 ^ n) = ((m / 2 ^ n : Nat) : Int) := by
  rw [Int.fdiv_eq_ediv_of_nonneg _ (by exact Int.pow_nonneg (by omega))]; simp
 exact BB rfl (by simp only [execOp, hx, hy, eqGuard, binOp, Op.shift, if_neg (show ¬ (n : Int) < 0 by omega), show min (n : Int).toNat IntKind.u64.bits = n from by rw [Int.toNat_natCast]; exact Nat.min_eq_left (by show n ≤ 64; omega), e]; simp) h
end
end Go.Proofs.YtkhhjdjmhbdjfaaGreatDoor
namespace Go.Proofs.YtkhhjdjmhbdjfaaGreatDoor
open Go.RowKit
set_option linter.unusedVariables false
def cpN (l : List Fml) : Nat → List Fml
 | 0 => []
 | p + 1 => cpN l p ++ if 0 < p ∧ BV (l.getD p Af) (l.getD (p - 1) Af) = 0 then [] else [l.getD p Af]
theorem cpN_take {l : List Fml} : ∀ p, p ≤ l.length → (∀ i, 0 < i → i < p → BV (l.getD i Af) (l.getD (i - 1) Af) ≠ 0) → cpN l p = l.take p
 | 0, _, _ => by simp [cpN]
 | p + 1, hp, h => by
  rw [cpN, cpN_take p (by omega) fun i h0 hi => h i h0 (by omega), List.take_add_one, if_neg (fun hh => h p hh.1 (by omega) hh.2)]
  have : l[p]? = some (l.getD p Af) := by rw [List.getD_eq_getElem?_getD, List.getElem?_eq_getElem (by omega : p < l.length)]; rfl
  rw [this]; rfl
theorem inc_snoc {x : Fml} : ∀ {l : List Fml}, Inc (l ++ [x]) ↔ Inc l ∧ ∀ a ∈ l, BV a x < 0
 | [] => by simp [Inc]
 | c :: l => by
  rw [List.cons_append, Inc, Inc, inc_snoc (l := l)]
  constructor
  ·rintro ⟨h1, h2, h3⟩
   exact ⟨⟨fun d hd => h1 d (by simp [hd]), h2⟩, fun a ha => by
    rcases List.mem_cons.1 ha with rfl | ha
    ·exact h1 x (by simp)
    ·exact h3 a ha⟩
  ·rintro ⟨⟨h1, h2⟩, h3⟩
   refine ⟨fun d hd => ?_, h2, fun a ha => h3 a (by simp [ha])⟩
   rcases List.mem_append.1 hd with hd | hd
   ·exact h1 d hd
   ·obtain rfl : d = x := by simpa using hd
    exact h3 c (by simp)
theorem cpN_inc {l : List Fml} (hs : Srt l) : ∀ p, p ≤ l.length → Inc (cpN l p) ∧ ∀ x, x ∈ cpN l p ↔ x ∈ l.take p
 | 0, _ => ⟨trivial, by simp [cpN]⟩
 | p + 1, hp => by
  obtain ⟨h1, h2⟩ := cpN_inc hs p (by omega)
  have hlt : p < l.length := by omega
  have hg : ∀ i (hi : i < l.length), l.getD i Af = l[i] := fun i hi => by rw [List.getD_eq_getElem?_getD, List.getElem?_eq_getElem hi]; rfl
  have hsrt : ∀ i j (hi : i < l.length) (hj : j < l.length), i < j → ¬ BV l[j] l[i] < 0 := fun i j hi hj hij => (List.pairwise_iff_getElem.1 hs) i j hi hj hij
  have htk : l.take (p + 1) = l.take p ++ [l[p]] := by rw [List.take_add_one, List.getElem?_eq_getElem hlt]; rfl
  rw [cpN, hg p hlt]
  by_cases hc : 0 < p ∧ BV l[p] (l.getD (p - 1) Af) = 0
  ·rw [if_pos hc, List.append_nil]
   refine ⟨h1, fun x => ?_⟩
   rw [h2, htk, List.mem_append, List.mem_singleton]
   constructor
   ·exact .inl
   ·rintro (h | rfl)
    ·exact h
    ·rw [hg (p - 1) (by omega)] at hc
     have := (Bt _ _).1 hc.2
     rw [this]
     exact List.mem_take_iff_getElem.2 ⟨p - 1, by omega, rfl⟩
  ·rw [if_neg hc]
   refine ⟨inc_snoc.2 ⟨h1, fun a ha => ?_⟩, fun x => ?_⟩
   ·obtain ⟨i, hi, rfl⟩ := List.mem_take_iff_getElem.1 ((h2 a).1 ha)
    have hi' : i < p := by omega
    have hil : i < l.length := by omega
    have hpl : p - 1 < l.length := by omega
    have hne : BV l[p] l[p - 1] ≠ 0 := fun e => hc ⟨by omega, by rw [hg (p - 1) hpl]; exact e⟩
    have h5 := hsrt (p - 1) p hpl hlt (by omega)
    have f1 := cmpF_flip l[p] l[p - 1]
    have h6 : BV l[p - 1] l[p] < 0 := by omega
    by_cases he : i = p - 1
    ·subst he; exact h6
    ·have h7 := hsrt i (p - 1) hil hpl (by omega)
     have f2 := cmpF_flip l[p - 1] l[i]
     by_cases h8 : BV l[p - 1] l[i] = 0
     ·rw [← (Bt _ _).1 h8]; exact h6
     ·exact CY _ _ _ (by omega) h6
   ·rw [List.mem_append, h2, htk, List.mem_append]
theorem cpN_dist {l m : List Fml} (hs : Srt l) (hp : l.Perm m) : cpN l l.length = Cp m := by
 obtain ⟨h1, h2⟩ := cpN_inc hs l.length (Nat.le_refl _)
 refine inc_ext h1 (inc_dist m) fun x => ?_
 rw [h2, mem_dist, List.take_length, hp.mem_iff]
end Go.Proofs.YtkhhjdjmhbdjfaaGreatDoor
namespace Go.Proofs.YtkhhjdjmhbdjfaaGreatDoor
open Go.RowKit
set_option linter.unusedVariables false
theorem FAt.v5 {ok : Nat → Prop} {w : World} {c : List Value} {f : Fml} (h : FAt ok w (.agg c.toArray) f) : ∃ x0 x1 x2 x3 x4, c = [x0, x1, x2, x3, x4] := by
 obtain ⟨c', e, h5, _⟩ := h.cells
 have : c = c' := by simpa using e
 subst this
 exact A7 h5
theorem FAt.one {ok : Nat → Prop} {w : World} {c : List Value} {f : Fml} (h : FAt ok w (.agg c.toArray) f) : oneC c := by
 obtain ⟨c', e, _, h1⟩ := h.cells
 have : c = c' := by simpa using e
 rw [this]; exact h1
abbrev eqV (c1 : Nat) : Value := .func (.func 143) #[] #[pt c1]
theorem eq_ok (w : World) (c1 : Nat) (c d : List Value) (f g : Fml) (ok : Nat → Prop) (hf : FAt ok w (.agg c.toArray) f) (hg : FAt ok w (.agg d.toArray) g) (hu : ∀ b, ok b → Unm w b) (hz : szF f ≤ 1000000) (hb : Blk w c1 64 [cmpV]) :
  Fn Tryz.prog 143 [.agg c.toArray, .agg d.toArray, pt c1] w fun u w' => u = .bool (decide (BV f g = 0)) ∧ Ext w w' := by
 obtain ⟨x0, x1, x2, x3, x4, rfl⟩ := hf.v5
 obtain ⟨y0, y1, y2, y3, y4, rfl⟩ := hg.v5
 have hfl := hf.lt
 have hgl := hg.lt
 refine AR Tryz.func143 rfl Tryz.ntmps143 (Nat.le_of_ble_eq_true rfl) (by kernel_rfl) ?_
 repeat refine nx rfl ?_
 (refine AA ?_; refine A5 (L := [x0, x1, x2, x3, x4]) rfl (fun w1 n1 => ?_))
 refine A5 (L := [y0, y1, y2, y3, y4]) rfl (fun w2 n2 => ?_)
 refine AC (AB rfl ?_)
 repeat refine nx rfl ?_
 have b1 := n1.blk.keep n2.keep (by simp)
 have b2 := n2.blk
 have kk := n1.keep.trans n2.keep
 have bc := hb.keep kk (by simp)
 (refine AA (AF rfl (Blk.cell (by assumption) (by rfl)) ?_) <;> refine Ac rfl (by assumption) (by rfl) ?_ <;> refine Ac rfl (by assumption) (by rfl) ?_)
 refine BO (v1 := []) (v2 := []) (vs := [.agg #[x0, x1, x2, x3, x4], .agg #[y0, y1, y2, y3, y4]]) rfl (fcompare_ok w2 _ _ f g _ _ (hfl.keep kk (fun _ _ => by simp)) (hgl.keep kk (fun _ _ => by simp)) (.inl fun b hb => (hu b hb.1).eq (kk.block b hb.2 (by simp))) hz) rfl ?_
 rintro _ w3 ⟨rfl, k3⟩
 by_cases hc : BV f g = 0
 ·refine Ai rfl rfl (by omega) (AC (AB rfl ?_))
  repeat refine nx rfl ?_
  exact AI rfl ⟨by rw [decide_eq_true hc]; rfl, kk.trans k3⟩
 ·refine AT rfl rfl (by omega) (AC (AB rfl ?_))
  repeat refine nx rfl ?_
  exact AI rfl ⟨by rw [decide_eq_false hc]; rfl, kk.trans k3⟩
theorem row_cells {w : World} {g e n p : Nat} {R : List Value} {L : List (List Value)} {c : List Value} (hb : Blk w g e R) (ht : R.take (n * 5) = L.flatten) (h5 : ∀ c ∈ L, c.length = 5) (hp : L[p]? = some c) (hn : L.length = n) : Cells w g (p * 5) c := by
 intro i u hu
 refine hb.cell ?_
 have h1 := C9 5 L p i c u h5 hp hu
 rw [← ht, List.getElem?_take] at h1
 split at h1
 ·exact h1
 ·cases h1
theorem row_cells2 {w : World} {g e n p q : Nat} {R : List Value} {L Lq : List (List Value)} {c : List Value} (hb : Blk w g e (Lq.flatten ++ R.drop (q * 5))) (hq : Lq.flatten.length = q * 5) (hqp : q ≤ p) (ht : R.take (n * 5) = L.flatten) (h5 : ∀ c ∈ L, c.length = 5) (hp : L[p]? = some c) (hn : L.length = n) : Cells w g (p * 5) c := by
 intro i u hu
 refine hb.cell ?_
 have h1 := C9 5 L p i c u h5 hp hu
 rw [← ht, List.getElem?_take] at h1
 split at h1
 ·rw [List.getElem?_append_right (by rw [hq]; omega), hq, List.getElem?_drop]
  rw [show q * 5 + (p * 5 + i - q * 5) = p * 5 + i by omega]
  exact h1
 ·cases h1
theorem take_flat (L : List (List Value)) (h5 : ∀ c ∈ L, c.length = 5) (k : Nat) : (L.take k).flatten = L.flatten.take (k * 5) := by
 by_cases hk : k ≤ L.length
 ·have e : L.flatten = (L.take k).flatten ++ (L.drop k).flatten := by rw [← List.flatten_append, List.take_append_drop]
  have hl : (L.take k).flatten.length = k * 5 := by rw [CT 5 _ fun c hc => h5 c (List.mem_of_mem_take hc), List.length_take, Nat.min_eq_left hk]
  rw [e, ← hl, List.take_left]
 ·rw [List.take_of_length_le (by omega), List.take_of_length_le (by rw [CT 5 L h5]; omega)]
theorem FsAt.take {ok : Nat → Prop} {w : World} {L : List (List Value)} {l : List Fml} (h : FsAt ok w L l) (k : Nat) : FsAt ok w (L.take k) (l.take k) := by
 refine ⟨by simp [h.1], fun c hc => h.2.1 c (List.mem_of_mem_take hc), fun i c g hc hg => ?_⟩
 rw [List.getElem?_take] at hc hg
 split at hc
 ·rename_i hi
  rw [if_pos hi] at hg
  exact h.2.2 i c g hc hg
 ·cases hc
theorem FsAt.at {ok : Nat → Prop} {w : World} {L : List (List Value)} {l : List Fml} (h : FsAt ok w L l) {k : Nat} (hk : k < l.length) : ∃ x0 x1 x2 x3 x4, L[k]? = some [x0, x1, x2, x3, x4] ∧ l[k]? = some (l.getD k Af) ∧ FAt ok w (.agg [x0, x1, x2, x3, x4].toArray) (l.getD k Af) := by
 have e1 : l[k]? = some (l.getD k Af) := by rw [List.getD_eq_getElem?_getD, List.getElem?_eq_getElem hk]; rfl
 have hk' : k < L.length := by rw [h.1]; exact hk
 obtain ⟨c, e2⟩ : ∃ c, L[k]? = some c := ⟨_, List.getElem?_eq_getElem hk'⟩
 have hf := h.2.2 k c _ e2 e1
 obtain ⟨x0, x1, x2, x3, x4, rfl⟩ := hf.v5
 exact ⟨x0, x1, x2, x3, x4, e2, e1, hf⟩
theorem compact_ok (w : World) (B : Nat) (v : Value) (l : List Fml) (L : List (List Value)) (ok : Nat → Prop) (c1 : Nat) (ho : w.ownsRow B 25 5 v l.length L.flatten) (hF : FsAt ok w L l)
  (hok : ∀ b, ok b → Unm w b ∧ b < w.heap.size ∧ v.ownBlock ≠ some b) (hz : ∀ x ∈ l, szF x ≤ 1000000) (hb1 : Blk w c1 64 [cmpV]) (hc1 : v.ownBlock ≠ some c1) :
  Fn Tryz.prog 142 [v, eqV c1] w fun u w' => Keep v.ownBlock.toList w w' ∧ u.ownBlock = v.ownBlock ∧ ∃ L', w'.ownsRow B 25 5 u (cpN l l.length).length L'.flatten ∧ FsAt ok w L' (cpN l l.length) := by
 obtain ⟨p, n, cap, hv, hvn⟩ : ∃ p n cap, v = .slice p n cap ∧ n = l.length := by
  rcases ho.2 with ⟨e, h0⟩ | ⟨g, cap, cur, e, _⟩
  ·exact ⟨_, _, _, e, h0.symm⟩
  ·exact ⟨_, _, _, e, rfl⟩
 have hL5 := hF.2.1
 have hLl := hF.1
 by_cases h2 : l.length < 2
 ·have hcp : cpN l l.length = l := by rw [cpN_take l.length (Nat.le_refl _) (fun i h0 hi => by omega), List.take_length]
  rw [hcp]
  subst hv hvn
  refine AR Tryz.func142 rfl Tryz.ntmps142 (Nat.le_of_ble_eq_true rfl) (by kernel_rfl) ?_
  repeat refine nx rfl ?_
  refine AA (AC (AM rfl ?_))
  repeat refine nx rfl ?_
  refine AA (AM rfl (AZ rfl (At rfl rfl (by omega) ?_)))
  repeat refine nx rfl ?_
  refine AA (AM rfl (AC (AM rfl ?_)))
  repeat refine nx rfl ?_
  exact AI rfl ⟨Keep.refl _ _, rfl, L, ho, hF⟩
 ·rcases ho.2 with ⟨e, h0⟩ | ⟨g, cap', cur, e, hB, hg, hnc, hcm, hcs, ht⟩
  ·omega
  subst e
  cases hv
  have hb0 : Blk w g 25 cur.toList := hg
  have hne : ∀ b, ok b → b ∉ [g] := fun b hb hx => by simp at hx; exact (hok b hb).2.2 (by rw [hx]; rfl)
  have hgc : c1 ≠ g := fun e => hc1 (by rw [e]; rfl)
  have hgl := hb0.lt
  have hRl : cur.toList.length = cap * 5 := by simpa using hcs
  have hmx : cap ≤ 9223372036854775807 := by unfold maxLen at hcm; omega
  refine AR Tryz.func142 rfl Tryz.ntmps142 (Nat.le_of_ble_eq_true rfl) (by kernel_rfl) ?_
  repeat refine nx rfl ?_
  refine AA (AC (AM rfl ?_))
  repeat refine nx rfl ?_
  refine AA (AM rfl (AZ rfl (Aj rfl rfl (by omega) ?_)))
  repeat first | refine nx rfl ?_ | refine nf rfl ?_
  refine AA (AC (AG rfl ?_))
  repeat refine nx rfl ?_
  refine A3 (α := Nat) (fun k => [(0, .slice (some ⟨g, 0, none⟩) l.length cap), (1, eqV c1), (5, .int .i64 (k : Int))]) (fun k W => 1 ≤ k ∧ k ≤ l.length ∧ Ext w W ∧ ∀ i, 0 < i → i < k → BV (l.getD i Af) (l.getD (i - 1) Af) ≠ 0) (fun k => l.length - k) 1 ⟨rfl, rfl, rfl, trivial⟩ ⟨by omega, by omega, Ext.refl _, fun i h0 hi => by omega⟩ ?_
  rintro k W fr ⟨hk1, hk, kW, hdif⟩
  repeat refine nx rfl ?_
  by_cases hlt : k < l.length
  ·refine AA (AG rfl (AM rfl (AZ rfl (At rfl rfl (by omega) ?_))))
   repeat refine nx rfl ?_
   obtain ⟨x0, x1, x2, x3, x4, hLk, hlk, hfx⟩ := hF.at hlt
   obtain ⟨y0, y1, y2, y3, y4, hLk', hlk', hfy⟩ := hF.at (k := k - 1) (by omega)
   refine Ad (.read 0 (.read 1 (.read 2 (.read 3 (.read 4 (.read 5 (.read 6 (.read 7 (.read 8 (.read 9 (.alt 10 .done .stop))))))))))) Ax (by kernel_rfl) (fun wd kd ed => ⟨Ext wd, ?_, ?_⟩)
   ·exact Ext.refl _
   have kk := kW.trans kd
   have s1 : ∀ V, Ext wd V → Cells V g (0 + k * 5) [x0, x1, x2, x3, x4] := fun V e => by
    rw [Nat.zero_add]; exact row_cells (hb0.keep (kk.trans e) (by simp)) ht hL5 hLk hLl
   have s2 : ∀ V, Ext wd V → Cells V g (0 + ((k : Int) - 1).toNat * 5) [y0, y1, y2, y3, y4] := fun V e => by
    rw [Nat.zero_add, show ((k : Int) - 1).toNat = k - 1 by omega]; exact row_cells (hb0.keep (kk.trans e) (by simp)) ht hL5 hLk' hLl
   (refine D_R rfl rfl (fun W hW => Bq rfl Z3) (D_R rfl rfl (fun W hW => AM rfl Z3) (D_R rfl rfl (fun W hW => AG rfl Z3) (D_R rfl rfl (fun W hW => Au rfl rfl rfl (by omega) Z3) ?_))) <;> (apply D_R rfl rfl; (intro W hW; refine Ao rfl (by rfl) (s1 W hW) ?_; exact Z3)) <;> refine D_R rfl rfl (fun W hW => AM rfl Z3) (D_R rfl rfl (fun W hW => AG rfl Z3) ?_) <;> (apply D_R rfl rfl; (intro W hW; refine Cy rfl rfl (by first | exact AV (by omega) (by omega) | exact AY (by omega) (by omega) | exact AW (by omega) (by omega)) ?_; exact Z3)) <;> refine D_R rfl rfl (fun W hW => Aq rfl rfl (by omega) (by omega) Z3) ?_ <;> (apply D_R rfl rfl; (intro W hW; refine Ao rfl (by rfl) (s2 W hW) ?_; exact Z3)))
   refine D_E rfl ?_
   refine BO (v1 := []) (v2 := [pt c1]) (vs := [.agg [x0, x1, x2, x3, x4].toArray, .agg [y0, y1, y2, y3, y4].toArray]) rfl (eq_ok wd c1 _ _ _ _ ok (hfx.ext kk) (hfy.ext kk) (fun b hb => (hok b hb).1.eq (kk.block b (hok b hb).2.1 (by simp))) (hz _ (List.mem_of_getElem? hlk)) (hb1.keep kk (by simp))) rfl ?_
   rintro _ w4 ⟨rfl, k4⟩
   refine AO ⟨Ext wd, fun _ e => e, k4, ?_⟩
   have k5 := kk.trans k4
   by_cases hc : BV (l.getD k Af) (l.getD (k - 1) Af) = 0
   ·rw [decide_eq_true hc]
    refine Ah ?_
    repeat refine nx rfl ?_
    refine AA (AM rfl (AG rfl ?_))
    refine W_slice_lS rfl rfl (by omega) (by omega) ?_
    refine AC (AM rfl ?_)
    repeat refine nx rfl ?_
    refine AA (AC (AG rfl ?_))
    repeat refine nx rfl ?_
    have hcp : cpN l (k + 1) = l.take k := by rw [cpN, if_pos ⟨by omega, hc⟩, List.append_nil, cpN_take k hk hdif]
    have hcont : (L.take k).flatten ++ cur.toList.drop (k * 5) = cur.toList := by
     rw [take_flat L hL5, ← ht, List.take_take, Nat.min_eq_left (by omega), List.take_append_drop]
    refine A3 (α := Nat × Nat × List (List Value)) (fun | (q, r, _) => [(0, .slice (some ⟨g, 0, none⟩) l.length cap), (1, eqV c1), (5, .int .i64 (q : Int)), (6, .slice (some ⟨g, 0 + k * 5, none⟩) (l.length - k) (cap - k)), (7, .int .i64 (r : Int))])
     (fun y V => 1 ≤ y.2.1 ∧ k + y.2.1 ≤ l.length ∧ y.1 < k + y.2.1 ∧ y.1 = (cpN l (k + y.2.1)).length ∧ Keep [g] w V ∧ Blk V g 25 (y.2.2.flatten ++ cur.toList.drop (y.1 * 5)) ∧ FsAt ok w y.2.2 (cpN l (k + y.2.1))) (fun y => l.length - y.2.1) (k, 1, L.take k) ⟨rfl, rfl, rfl, rfl, rfl, trivial⟩
     ⟨by simp, by simp only; omega, by simp only; omega, by simp only; rw [hcp, List.length_take]; omega, k5.any, by simp only; rw [hcont]; exact hb0.keep k5 (by simp), by simp only; rw [hcp]; exact hF.take k⟩ ?_
    rintro ⟨q, r, Lq⟩ V fr ⟨hr1, hr, hqr, hq, kV, bV, fV⟩
    simp only at hr1 hr hqr hq kV bV fV
    have hfl : Lq.flatten.length = q * 5 := by rw [fV.flat, ← hq]
    repeat refine nx rfl ?_
    by_cases hlt2 : r < l.length - k
    ·refine AA (AG rfl (AM rfl (AZ rfl (At rfl rfl (by omega) ?_))))
     repeat refine nx rfl ?_
     obtain ⟨x0, x1, x2, x3, x4, hLk, hlk, hfx⟩ := hF.at (k := k + r) (by omega)
     obtain ⟨y0, y1, y2, y3, y4, hLk', hlk', hfy⟩ := hF.at (k := k + r - 1) (by omega)
     refine Ad (.read 0 (.read 1 (.read 2 (.read 3 (.read 4 (.read 5 (.read 6 (.read 7 (.read 8 (.read 9 (.alt 10 (.read 11 .done) .stop))))))))))) Ax (by kernel_rfl) (fun wd kd ed => ⟨Ext wd, ?_, ?_⟩)
     ·exact Ext.refl _
     have kk := kV.ext kd
     have bd := bV.keep kd (by simp)
     have s1 : ∀ U, Ext wd U → Cells U g (0 + k * 5 + r * 5) [x0, x1, x2, x3, x4] := fun U e => by
      rw [show 0 + k * 5 + r * 5 = (k + r) * 5 by omega]; exact row_cells2 (bd.keep e (by simp)) hfl (by omega) ht hL5 hLk hLl
     have s2 : ∀ U, Ext wd U → Cells U g (0 + k * 5 + ((r : Int) - 1).toNat * 5) [y0, y1, y2, y3, y4] := fun U e => by
      rw [show 0 + k * 5 + ((r : Int) - 1).toNat * 5 = (k + r - 1) * 5 by omega]; exact row_cells2 (bd.keep e (by simp)) hfl (by omega) ht hL5 hLk' hLl
     (refine D_R rfl rfl (fun W hW => Bq rfl Z3) (D_R rfl rfl (fun W hW => AM rfl Z3) (D_R rfl rfl (fun W hW => AG rfl Z3) (D_R rfl rfl (fun W hW => Au rfl rfl rfl (by omega) Z3) ?_))) <;> (apply D_R rfl rfl; (intro W hW; refine Ao rfl (by rfl) (s1 W hW) ?_; exact Z3)) <;> refine D_R rfl rfl (fun W hW => AM rfl Z3) (D_R rfl rfl (fun W hW => AG rfl Z3) ?_) <;> (apply D_R rfl rfl; (intro W hW; refine Cy rfl rfl (by first | exact AV (by omega) (by omega) | exact AY (by omega) (by omega) | exact AW (by omega) (by omega)) ?_; exact Z3)) <;> refine D_R rfl rfl (fun W hW => Aq rfl rfl (by omega) (by omega) Z3) ?_ <;> (apply D_R rfl rfl; (intro W hW; refine Ao rfl (by rfl) (s2 W hW) ?_; exact Z3)))
     refine D_E rfl ?_
     refine BO (v1 := []) (v2 := [pt c1]) (vs := [.agg [x0, x1, x2, x3, x4].toArray, .agg [y0, y1, y2, y3, y4].toArray]) rfl (eq_ok wd c1 _ _ _ _ ok (hfx.keep kk hne) (hfy.keep kk hne) (fun b hb => (hok b hb).1.eq (kk.block b (hok b hb).2.1 (hne b hb))) (hz _ (List.mem_of_getElem? hlk)) (hb1.keep kk (by simp; omega))) rfl ?_
     rintro _ w4 ⟨rfl, k4⟩
     refine AO ⟨Ext wd, fun _ e => e, k4, ?_⟩
     have k5 := kk.ext k4
     have b5 := bd.keep k4 (by simp)
     have hst : cpN l (k + (r + 1)) = cpN l (k + r) ++ if BV (l.getD (k + r) Af) (l.getD (k + r - 1) Af) = 0 then [] else [l.getD (k + r) Af] := by
      show cpN l (k + r + 1) = _
      rw [cpN]
      by_cases h : BV (l.getD (k + r) Af) (l.getD (k + r - 1) Af) = 0
      ·rw [if_pos ⟨by omega, h⟩, if_pos h]
      ·rw [if_neg (fun hh => h hh.2), if_neg h]
     by_cases hc2 : BV (l.getD (k + r) Af) (l.getD (k + r - 1) Af) = 0
     ·rw [decide_eq_true hc2]
      rw [if_pos hc2, List.append_nil] at hst
      refine D_R rfl rfl (fun W hW => Ak rfl Z3) (Ah ?_)
      repeat first | refine nx rfl ?_ | refine nf rfl ?_
      (refine AA (AG rfl (Av rfl rfl (by first | exact AV (by omega) (by omega) | exact AY (by omega) (by omega) | exact AW (by omega) (by omega)) ?_)) <;> refine AC (AG rfl ?_))
      repeat refine nx rfl ?_
      refine ⟨(q, r + 1, Lq), ⟨rfl, ⟨rfl, rfl, rfl, rfl, ?_, trivial⟩, ⟨by simp, by simp only; omega, by simp only; omega, by simp only; rw [hst]; exact hq, k5, b5, by simp only; rw [hst]; exact fV⟩⟩, by simp only; omega⟩
      show Value.int .i64 ((r : Int) + 1) = _
      rw [Int.natCast_add]; rfl
     ·rw [decide_eq_false hc2]
      rw [if_neg hc2] at hst
      refine D_R rfl rfl (fun W hW => Ak rfl Z3) (Ah ?_)
      repeat refine nx rfl ?_
      refine AA (AM rfl (AG rfl (AM rfl (AG rfl (Au rfl rfl rfl (by omega) ?_)))))
      refine Ao (L := [x0, x1, x2, x3, x4]) rfl rfl (s1 w4 k4) ?_
      refine Au rfl rfl rfl (by omega) ?_
      have hroom : q * 5 + 5 ≤ (Lq.flatten ++ cur.toList.drop (q * 5)).length := by rw [List.length_append, hfl, List.length_drop, hRl]; omega
      refine AU (cs := [x0, x1, x2, x3, x4]) rfl rfl rfl hfx.one b5 (by show 0 + q * 5 + 5 ≤ _; omega) (fun w5 p5 => ?_)
      repeat refine nx rfl ?_
      (refine AA (AG rfl (Av rfl rfl (by first | exact AV (by omega) (by omega) | exact AY (by omega) (by omega) | exact AW (by omega) (by omega)) ?_)) <;> refine AC (AG rfl ?_))
      repeat refine nx rfl ?_
      (refine AA (AG rfl (Av rfl rfl (by first | exact AV (by omega) (by omega) | exact AY (by omega) (by omega) | exact AW (by omega) (by omega)) ?_)) <;> refine AC (AG rfl ?_))
      repeat refine nx rfl ?_
      have e5 : splice (Lq.flatten ++ cur.toList.drop (q * 5)) (0 + q * 5) [x0, x1, x2, x3, x4] = (Lq ++ [[x0, x1, x2, x3, x4]]).flatten ++ cur.toList.drop ((q + 1) * 5) := by
       unfold splice
       rw [Nat.zero_add, ← hfl, List.take_left, List.drop_append, List.drop_of_length_le (by omega), List.drop_drop, hfl, List.nil_append, List.flatten_append]
       simp [show (q + 1) * 5 = q * 5 + 5 by omega]
      have b6 := p5.blk
      rw [e5] at b6
      refine ⟨(q + 1, r + 1, Lq ++ [[x0, x1, x2, x3, x4]]), ⟨rfl, ⟨rfl, rfl, ?_, rfl, ?_, trivial⟩, ⟨by simp, by simp only; omega, by simp only; omega, by simp only; rw [hst, List.length_append, ← hq]; rfl, k5.trans p5.keep (fun _ h _ => h), b6, by simp only; rw [hst]; exact fV.snoc hfx rfl⟩⟩, by simp only; omega⟩
      ·show Value.int .i64 ((q : Int) + 1) = _
       rw [Int.natCast_add]; rfl
      ·show Value.int .i64 ((r : Int) + 1) = _
       rw [Int.natCast_add]; rfl
    ·refine AA (AG rfl (AM rfl (AZ rfl (Aj rfl rfl (by omega) ?_))))
     repeat first | refine nx rfl ?_ | refine nf rfl ?_
     obtain rfl : r = l.length - k := by omega
     rw [show k + (l.length - k) = l.length by omega] at hq fV hqr
     refine AA (AM rfl (AG rfl ?_))
     refine W_slice_lS rfl rfl (by omega) (by omega) ?_
     have hroom : 0 + q * 5 + (l.length - q) * 5 ≤ (Lq.flatten ++ cur.toList.drop (q * 5)).length := by rw [List.length_append, hfl, List.length_drop, hRl]; omega
     refine W_clear (L0 := zero5) rfl (by omega) (Ap rfl) bV (by rw [show zero5.length = 5 from rfl]; exact hroom) (fun w5 zs hzs p5 => ?_)
     repeat refine nx rfl ?_
     refine AA (AM rfl (AG rfl (W_slice_h rfl rfl (by omega) (by omega) (AC (AM rfl ?_)))))
     repeat refine nx rfl ?_
     have b6 := p5.blk
     rw [show zero5.length = 5 from rfl] at hzs
     have e5 : splice (Lq.flatten ++ cur.toList.drop (q * 5)) (0 + q * 5) zs = Lq.flatten ++ (zs ++ (cur.toList.drop (q * 5)).drop zs.length) := by
      unfold splice
      rw [Nat.zero_add, ← hfl, List.take_left, List.drop_append, List.drop_of_length_le (by omega), hfl, List.nil_append, show q * 5 + zs.length - q * 5 = zs.length by omega]
     rw [e5] at b6
     refine AI rfl ⟨kV.trans p5.keep (fun _ h _ => h), rfl, Lq, ⟨by rw [fV.flat], .inr ⟨g, cap, _, ?_, hB, b6, by omega, hcm, ?_, ?_⟩⟩, fV⟩
     ·rw [← hq]; rfl
     ·simp only [List.size_toArray, List.length_append, List.length_drop, hRl, hfl, hzs]; omega
     ·rw [← hq, ← hfl]
      simp
   ·rw [decide_eq_false hc]
    refine Ah ?_
    repeat first | refine nx rfl ?_ | refine nf rfl ?_
    (refine AA (AG rfl (Av rfl rfl (by first | exact AV (by omega) (by omega) | exact AY (by omega) (by omega) | exact AW (by omega) (by omega)) ?_)) <;> refine AC (AG rfl ?_))
    repeat refine nx rfl ?_
    refine ⟨k + 1, ⟨rfl, ⟨rfl, rfl, ?_, trivial⟩, ⟨by omega, by omega, k5, fun i h0 hi => ?_⟩⟩, by omega⟩
    ·show Value.int .i64 ((k : Int) + 1) = _
     rw [Int.natCast_add]; rfl
    ·by_cases hik : i = k
     ·subst hik; exact hc
     ·exact hdif i h0 (by omega)
  ·refine AA (AG rfl (AM rfl (AZ rfl (Aj rfl rfl (by omega) ?_))))
   repeat first | refine nx rfl ?_ | refine nf rfl ?_
   obtain rfl : k = l.length := by omega
   refine AA (AM rfl (AC (AM rfl ?_)))
   repeat refine nx rfl ?_
   have hcp : cpN l l.length = l := by rw [cpN_take l.length (Nat.le_refl _) hdif, List.take_length]
   rw [hcp]
   exact AI rfl ⟨kW.any, rfl, L, A4 ho kW, hF⟩
end Go.Proofs.YtkhhjdjmhbdjfaaGreatDoor
namespace Go.Proofs.YtkhhjdjmhbdjfaaGreatDoor
open Go.RowKit
variable {mk : Prop} [MK mk]
open Go.ChangeMaps (setBlock)
attribute [local semireducible] WC AX Bx BT Bu finQ finD Bw
variable {P : Program} {all : Array Oper} {Z : Fr → DS → List PanicEntry → World → Prop} {K : Fr → DS → World → Prop} {rest : List Oper} {f : Fr} {ds : DS} {w : World}
 {d : Nat} {ty : TypeId} {pos : String} {af : Array Edge}
class VMapT (P : Program) (T : TypeId) (z : outParam Value) : Prop where
 out : ∃ kt et i, P.underlying T = some (.map kt et) ∧ P.underlying kt = some (.int .i64) ∧ P.info? et = some i ∧ i.zero = some z
theorem vmapT_of {T kt et : TypeId} {z : Value} (h1 : P.underlying T = some (.map kt et)) (h2 : P.underlying kt = some (.int .i64)) (h3 : (P.info? et).map (·.zero) = some (some z)) : VMapT P T z := by
 obtain ⟨i, hi, hz⟩ := Option.map_eq_some_iff.1 h3
 exact ⟨kt, et, i, h1, h2, hi, hz⟩
def encV (p : Int × Value) : Value × Value := (.int .i64 p.1, p.2)
theorem intK_inj {a b : Int} (h : Value.int .i64 a = Value.int .i64 b) : a = b := by simpa using h
def rdV (e : MapEntry) : Value × Value := (e.key, e.val)
def VMap (w : World) (r : Nat) (L : List (Int × Value)) : Prop :=
 ∃ es clock, w.heap[r]? = some (.map es clock) ∧ MapKept.Stamped es clock ∧ es.toList.map rdV = L.map encV
theorem VMap.lt {r : Nat} {L : List (Int × Value)} (h : VMap w r L) : r < w.heap.size := by
 obtain ⟨es, c, h1, _⟩ := h; exact (Array.getElem?_eq_some_iff.1 h1).1
theorem VMap.keep {X : List Nat} {w' : World} {r : Nat} {L : List (Int × Value)} (h : VMap w r L) (k : Keep X w w') (hr : r ∉ X) : VMap w' r L := by
 obtain ⟨es, c, h1, h2, h3⟩ := id h
 exact ⟨es, c, (k.block r h.lt hr).trans h1, h2, h3⟩
theorem keys_vint {es : List MapEntry} {L : List (Int × Value)} (h : es.map rdV = L.map encV) : ∀ x ∈ es, MapKept.IsKey (.int .i64) x.key := by
 intro x hx
 have : rdV x ∈ L.map encV := by rw [← h]; exact List.mem_map.2 ⟨x, hx, rfl⟩
 obtain ⟨p, _, e⟩ := List.mem_map.1 this
 have : x.key = Value.int .i64 p.1 := (congrArg Prod.fst e).symm
 rw [this]; trivial
theorem vlookup_none {L : List (Int × Value)} {x : Int} (h : ∀ p ∈ L, p.1 ≠ x) : L.lookup x = none := by
 induction L with
 | nil => rfl
 | cons q L ih =>
  obtain ⟨a, b⟩ := q
  have ha : x ≠ a := fun e => h (a, b) (by simp) e.symm
  rw [List.lookup_cons, beq_false_of_ne ha]
  exact ih fun p hp => h p (by simp [hp])
theorem vlookup_at {L : List (Int × Value)} (hn : (L.map (·.1)).Nodup) {p : Int × Value} (hp : p ∈ L) : L.lookup p.1 = some p.2 := by
 induction L with
 | nil => cases hp
 | cons q L ih =>
  simp only [List.map_cons, List.nodup_cons] at hn
  obtain ⟨a, b⟩ := q
  rcases List.mem_cons.1 hp with rfl | hp
  ·simp [List.lookup]
  ·have : p.1 ≠ a := fun e => hn.1 (List.mem_map.2 ⟨p, hp, e⟩)
   rw [List.lookup_cons, beq_false_of_ne this]
   exact ih hn.2 hp
theorem nodup_vint {r : Nat} {L : List (Int × Value)} (h : VMap w r L) : (L.map (·.1)).Nodup := by
 obtain ⟨es, c, _, ⟨_, _, h2⟩, h3⟩ := h
 have e : es.toList.map (·.key) = L.map (fun p => Value.int .i64 p.1) := by
  have := congrArg (List.map Prod.fst) h3
  simpa [rdV, encV, List.map_map, Function.comp_def] using this
 rw [e] at h2
 have h4 : ((L.map (·.1)).map (fun x => Value.int .i64 x)).Nodup := by rw [List.map_map]; exact h2
 exact List.Pairwise.of_map _ (fun a b hab e => hab (by rw [e])) h4
theorem find_vint {kt : TypeId} {L : List (Int × Value)} (hk : P.underlying kt = some (.int .i64)) {es : Array MapEntry} (hm : es.toList.map rdV = L.map encV) (hn : (L.map (·.1)).Nodup) (x : Int) (w : World) :
  (L.lookup x = none ∧ (Instr.findKey kt (.int .i64 x) es.toList).run P w = .ok none w ∧ ∀ e ∈ es.toList, e.key ≠ Value.int .i64 x) ∨
  ∃ i v, L.lookup x = some v ∧ (Instr.findKey kt (.int .i64 x) es.toList).run P w = .ok (some (i, v)) w := by
 have hget : ∀ (i : Nat) (e : MapEntry), es.toList[i]? = some e → ∃ p, L[i]? = some p ∧ e.key = Value.int .i64 p.1 ∧ e.val = p.2 := by
  intro i e he
  have := congrArg (fun l => l[i]?) hm
  simp only [List.getElem?_map, he, Option.map_some] at this
  obtain ⟨p, hp, e2⟩ := Option.map_eq_some_iff.1 this.symm
  exact ⟨p, hp, (congrArg Prod.fst e2).symm, (congrArg Prod.snd e2).symm⟩
 rcases MapKept.findNow_spec (d := .int .i64) (k := .int .i64 x) rfl es.toList 0 (keys_vint hm) with ⟨h1, h2⟩ | ⟨j, e, h1, h2, h3⟩
 ·refine .inl ⟨vlookup_none fun p hp hpx => ?_, MapKept.run_findKey hk h1, h2⟩
  obtain ⟨i, hi⟩ := List.getElem?_of_mem hp
  have := congrArg (fun l => l[i]?) hm
  simp only [List.getElem?_map, hi, Option.map_some] at this
  obtain ⟨e, he, e2⟩ := Option.map_eq_some_iff.1 this
  refine h2 e (List.mem_of_getElem? he) ?_
  rw [show e.key = Value.int .i64 p.1 from congrArg Prod.fst e2, hpx]
 ·obtain ⟨p, hp, e1, e2⟩ := hget j e h2
  rw [h3] at e1
  have hx := intK_inj e1
  refine .inr ⟨j, p.2, ?_, ?_⟩
  ·rw [hx]; exact vlookup_at hn (List.mem_of_getElem? hp)
  ·have := MapKept.run_findKey (P := P) (w := w) hk h1
   rw [this, e2, Nat.zero_add]
theorem W_makeMapV {T : TypeId} (h : ∀ w', Ext w w' → w'.heap.size = w.heap.size + 1 → VMap w' w.heap.size [] → AX P all Z K rest (upd f d (.map (some w.heap.size))) ds w') :
  AX P all Z K (⟨some d, .makeMap T none, ty, pos, af, none⟩ :: rest) f ds w := by
 refine BB (v := .map (some w.heap.size)) (w' := w.alloc (.map #[] 0)) rfl ?_ (h _ ⟨rfl, rfl, rfl, by simp, fun k hk _ => heap_alloc_old w _ hk, fun _ => mark_new (by simp) (fun k hk => heap_alloc_old w _ hk) (fun c t fr e => by rw [heap_alloc_new] at e; cases e), Nat.le_refl _⟩ (by simp) ⟨#[], 0, heap_alloc_new w _, MapKept.stamped_empty 0, rfl⟩)
 have hr : (Instr.makeMap T none).run P w = .ok (.map (some w.heap.size)) (w.alloc (.map #[] 0)) := rfl
 simp [execOp, hr]
theorem setBlkV_keep {w : World} {r : Nat} {o' : Obj} (ho : ∀ c t fr, o' ≠ .cells c t fr) : Keep [r] w { w with heap := w.heap.setIfInBounds r o' } :=
 ⟨rfl, rfl, rfl, by simp, fun k _ hk => by simp [Ne.symm (show k ≠ r by simpa using hk)], fun _ => mark_obj ho, Nat.le_refl _⟩
theorem A6 {T : TypeId} {m k v : Operand} {r : Nat} {x : Int} {y z : Value} {L : List (Int × Value)} [hT : VMapT P T z] (hm : ev f m = .map (some r)) (hk : ev f k = .int .i64 x) (hv : ev f v = y) (hL : VMap w r L) (hx : L.lookup x = none)
  (h : ∀ w', Keep [r] w w' → w'.heap.size = w.heap.size → VMap w' r (L ++ [(x, y)]) → AX P all Z K rest f ds w') : AX P all Z K (⟨none, .insert T m k v, ty, pos, af, none⟩ :: rest) f ds w := by
 obtain ⟨kt, et, i, h1, h2, h3, h4⟩ := hT.out
 have hn := nodup_vint hL
 obtain ⟨es, clock, hb, hs, hmm⟩ := hL
 have hck := MapKept.run_checkKey (P := P) (w := w) (k := .int .i64 x) h2 rfl false 9999
 rcases find_vint h2 hmm hn x w with ⟨e1, e2, e3⟩ | ⟨j, v0, e1, e2⟩
 ·refine W_skp (w' := { w with heap := w.heap.setIfInBounds r (.map (es.push { key := .int .i64 x, val := y, born := clock }) (clock + 1)) }) rfl ?_ (h _ (setBlkV_keep fun _ _ _ h => by cases h) (by simp) ⟨_, _, (MapKept.heap_set hb).1, MapKept.stamped_push hs e3, ?_⟩)
  ·simp [execOp, hm, hk, hv, Instr.mapUpdate, run_underlying h1, MapKept.run_getObj_map hb, hck, e2, MapKept.run_setObj_map _ hb]
  ·rw [Array.toList_push, List.map_append, hmm]
   simp [rdV, encV]
 ·rw [e1] at hx; cases hx
end Go.Proofs.YtkhhjdjmhbdjfaaGreatDoor
namespace Go.Proofs.YtkhhjdjmhbdjfaaGreatDoor
open Go.RowKit
set_option linter.unusedVariables false
variable {mk : Prop} [MK mk]
section
attribute [local semireducible] WC AX Bx BT Bu finQ finD Bw
variable {P : Program} {all : Array Oper} {Z : Fr → DS → List PanicEntry → World → Prop} {K : Fr → DS → World → Prop} {rest : List Oper} {f : Fr} {ds : DS} {w : World} {d : Nat} {ty : TypeId} {pos : String} {af : Array Edge}
theorem W_lookupV {T : TypeId} {m k : Operand} {r : Nat} {x : Int} {y z : Value} {L : List (Int × Value)} [hT : VMapT P T z] (hm : ev f m = .map (some r)) (hk : ev f k = .int .i64 x) (hL : VMap w r L) (hx : L.lookup x = some y)
  (h : AX P all Z K rest (upd f d y) ds w) : AX P all Z K (⟨some d, .lookup T m k false, ty, pos, af, none⟩ :: rest) f ds w := by
 obtain ⟨kt, et, i, h1, h2, h3, h4⟩ := hT.out
 have hn := nodup_vint hL
 obtain ⟨es, clock, hb, hs, hmm⟩ := hL
 refine BB rfl ?_ h
 have hck := MapKept.run_checkKey (P := P) (w := w) (k := .int .i64 x) h2 rfl es.isEmpty 9999
 rcases find_vint h2 hmm hn x w with ⟨e1, e2, _⟩ | ⟨j, v, e1, e2⟩
 ·rw [e1] at hx; cases hx
 ·rw [e1] at hx
  cases hx
  simp [execOp, hm, hk, Instr.lookup, run_underlying h1, MapKept.run_getObj_map hb, hck, e2]
end
instance : VMapT Tryz.prog 95 .nilFunc := vmapT_of Tryz.underlying95 Tryz.underlying3 (by kernel_rfl)
instance : VMapT Tryz.prog 96 .nilFunc := vmapT_of Tryz.underlying96 Tryz.underlying3 (by kernel_rfl)
end Go.Proofs.YtkhhjdjmhbdjfaaGreatDoor
namespace Go.Proofs.YtkhhjdjmhbdjfaaGreatDoor
open Go.RowKit
set_option linter.unusedVariables false
variable {mk : Prop} [MK mk]
abbrev mvR (F : FuncId) (r : Nat) : Value := .func (.func F) #[pt r] #[]
def truT (r : Nat) : List (Int × Value) := [(1, mvR 77 r), (2, mvR 78 r), (3, mvR 79 r), (4, mvR 80 r), (5, mvR 81 r), (6, mvR 82 r), (15, mvR 83 r), (16, mvR 84 r), (17, mvR 85 r)]
def rawT (r : Nat) : List (Int × Value) := [(5, mvR 86 r), (6, mvR 86 r), (8, mvR 87 r), (9, mvR 88 r), (10, mvR 89 r)]
def Rdr (w : World) (r : Nat) (S : List Sgn) (x : Int) : Prop := ∃ sa sc ra rc mt mr, Blk w r 98 [.slice sa S.length sc, .slice ra S.length rc, .map (some mt), .map (some mr)] ∧ SlAt sgnR As w (.slice sa S.length sc) S ∧
 (∀ i, i < S.length → ∃ g o, ra = some ⟨g, o, none⟩ ∧ w.cell? ⟨g, o + i, none⟩ = some (.int .i64 (Cr S x i))) ∧ VMap w mt (truT r) ∧ VMap w mr (rawT r)
theorem Rdr.ext {w w' : World} {r : Nat} {S : List Sgn} {x : Int} (h : Rdr w r S x) (k : Ext w w') : Rdr w' r S x := by
 obtain ⟨sa, sc, ra, rc, mt, mr, h1, h2, h3, h4, h5⟩ := h
 refine ⟨sa, sc, ra, rc, mt, mr, h1.keep k (by simp), h2.ext k, fun i hi => ?_, h4.keep k (by simp), h5.keep k (by simp)⟩
 obtain ⟨g, o, e, hc⟩ := h3 i hi
 exact ⟨g, o, e, k.cell hc (by simp)⟩
theorem readerOf_ok (w : World) (sv : Value) (S : List Sgn) (x : Int) (hS : SlAt sgnR As w sv S) (hv : BG S = true) (hx0 : 0 ≤ x) (hx1 : x < Bm S) (hK : KY w) (hN : 3 ≤ w.heap.size) :
  Fn Tryz.prog 45 [sv, .int .i64 x] w fun u w' => ∃ r, u = pt r ∧ Ext w w' ∧ Rdr w' r S x := by
 obtain ⟨sa, sc, rfl, _⟩ := hS.len
 refine AR Tryz.func45 rfl Tryz.ntmps45 (Nat.le_of_ble_eq_true rfl) (by kernel_rfl) ?_
 repeat refine nx rfl ?_
 refine AA (AC (AP rfl ?_))
 repeat refine nx rfl ?_
 refine AA (AM rfl (BE (by rfl) (by rfl) ?_))
 refine A5 (L := [.slice sa S.length sc, .slice none 0 0, .map none, .map none]) rfl (fun w3 n3 => ?_)
 refine AC (AP rfl ?_)
 repeat refine nx rfl ?_
 refine AA (AM rfl (AZ rfl (AG rfl ?_)))
 repeat refine nx rfl ?_
 have k3 := n3.keep
 have z3 := n3.size
 have h6 : S.length ≤ 6 := (CN hv).2.1
 refine A3 (α := Nat × Value) (fun y => [(0, .slice sa S.length sc), (1, .int .i64 x), (5, pt w.heap.size), (11, .int .i64 (S.length : Int)), (12, .int .i64 (y.1 : Int))]) (fun y W => y.1 ≤ S.length ∧ Ext w W ∧ Blk W w.heap.size 98 [.slice sa S.length sc, y.2, .map none, .map none] ∧ W.ownsRow w3.heap.size 3 1 y.2 y.1 (valsC S x y.1) ∧ w3.heap.size ≤ W.heap.size) (fun y => S.length - y.1) (0, .slice none 0 0) ⟨rfl, rfl, rfl, rfl, rfl, trivial⟩ ⟨by simp, k3, n3.blk, ⟨rfl, .inl ⟨rfl, rfl⟩⟩, Nat.le_refl _⟩ ?_
 rintro ⟨k, r⟩ W fr ⟨hk, kW, bT, oW, hW⟩
 simp only at hk kW bT oW hW
 repeat refine nx rfl ?_
 by_cases hlt : k < S.length
 ·refine AA (At rfl rfl (by omega) ?_)
  repeat refine nx rfl ?_
  refine AA (AG rfl (AC (AG rfl ?_)))
  repeat refine nx rfl ?_
  refine Ad (.read 0 (.read 1 (.read 2 (.read 3 (.read 5 (.read 6 (.read 7 (.alt 4 (.alt 8 (.alt 9 (.alt 10 (.read 11 (.read 12 (.alt 13 .done .stop))) .stop) .stop) .stop) (.alt 8 (.alt 4 (.alt 9 (.alt 10 (.read 11 (.read 12 (.alt 13 .done .stop))) .stop) .stop) (.alt 9 (.alt 4 (.alt 10 (.read 11 (.read 12 (.alt 13 .done .stop))) .stop) .stop) .stop)) .stop))))))))) Ax (by kernel_rfl) (fun wd kd ed => ⟨fun _ => True, ?_, ?_⟩)
  ·trivial
  have eqd := kW.trans kd
  have bTd := bT.keep kd (by simp)
  have oqd := A4 oW kd
  have zkd := kd.size
  refine D_R rfl rfl (fun W hW => AP rfl Z3) (D_R rfl rfl (fun W hW => AP rfl Z3) (D_R rfl rfl (fun W hW => AH rfl Z3) (D_R rfl rfl (fun W hW => AD rfl Z3) (D_R rfl rfl (fun W hW => AM rfl Z3) (D_R rfl rfl (fun W hW => AG rfl Z3) (D_R rfl rfl (fun W hW => AG rfl Z3) ?_))))))
  refine D_A rfl ?_ (D_E rfl ?_)
  ·refine AF rfl (bTd.cell (o := 1) rfl) ?_
   refine AO ⟨_, fun _ h => h, trivial, ?_⟩
   refine D_E rfl ?_
   refine AQ (value_ok wd _ S x k (hS.ext eqd) (hK.keep eqd (by simp)) (Nat.le_trans hN (eqd).size) hv hx0 hx1 hlt) rfl ?_
   rintro _ wC ⟨rfl, kC⟩
   have eqC := eqd.trans kC
   have bTC := bTd.keep kC (by simp)
   have oqC := A4 oqd kC
   have zkC := kC.size
   refine AO ⟨_, fun _ h => h, trivial, ?_⟩
   refine D_E rfl ?_
   refine Ab (out := [.int .i64 (Cr S x k)]) rfl (by omega) (by rw [madeInt]; rfl) (fun wB nB => ?_)
   have kB := nB.keep
   have oz := nB.own (n := 1) (size := 1) rfl (by unfold maxLen; omega) (Nat.le_refl _)
   have eqB := eqC.trans kB
   have bTB := bTC.keep kB (by simp)
   have oqB := A4 oqC kB
   have zkB := kB.size
   refine AO ⟨_, fun _ h => h, trivial, ?_⟩
   refine D_E rfl ?_
   refine BD (ok := As) rfl rfl oqB (Az oz fun _ _ => trivial) (by omega) rfl rfl (Ap rfl) (by omega) (by omega) (by omega) (fun r7 w7 a7 => ?_)
   refine AO ⟨_, fun _ h => h, trivial, ?_⟩
   refine D_R rfl rfl (fun W hW => AH rfl Z3) (D_R rfl rfl (fun W hW => AD rfl Z3) ?_)
   refine D_E rfl ?_
   have hr : ∀ g, r.ownBlock = some g → w3.heap.size ≤ g := fun g hg => (Aw oqB hg).1
   have z7 := a7.keep.size
   have hr7 : ∀ g, r7.ownBlock = some g → w3.heap.size ≤ g := fun g hg => (Aw a7.own hg).1
   refine Aa (v := r7) rfl rfl (C8 a7.own) (bTB.keep a7.keep (fun hx => by have := hr _ (Option.mem_toList.1 hx); omega)) (by simp) (fun w8 p8 => ?_)
   refine AO ⟨_, fun _ h => h, trivial, ?_⟩
   refine Ah ?_
   repeat refine nx rfl ?_
   (refine AA (Av rfl rfl (by first | exact AV (by omega) (by omega) | exact AY (by omega) (by omega) | exact AW (by omega) (by omega)) ?_) <;> refine AG rfl ?_)
   repeat refine nx rfl ?_
   refine ⟨(k + 1, r7), ⟨rfl, ⟨rfl, rfl, rfl, rfl, ?_, trivial⟩, ⟨by (try simp only); omega, ?_, p8.blk, ?_, by have := p8.size; (try simp only); omega⟩⟩, by simp only; omega⟩
   ·show Value.int .i64 ((k : Int) + 1) = _
    rw [Int.natCast_add]; rfl
   ·exact (eqB.keep a7.keep (fun y hy => by have := hr _ (Option.mem_toList.1 hy); omega)).keep p8.keep (fun y hy => by simp at hy; omega)
   ·simp only
    rw [C5]
    exact Ag a7.own p8.keep (fun g hg => by have := hr7 g hg; simp; omega)
  refine AQ (value_ok wd _ S x k (hS.ext eqd) (hK.keep eqd (by simp)) (Nat.le_trans hN (eqd).size) hv hx0 hx1 hlt) rfl ?_
  rintro _ wC ⟨rfl, kC⟩
  have eqC := eqd.trans kC
  have bTC := bTd.keep kC (by simp)
  have oqC := A4 oqd kC
  have zkC := kC.size
  refine AO ⟨_, fun _ h => h, trivial, ?_⟩
  refine D_A rfl ?_ (D_E rfl ?_)
  ·refine AF rfl (bTC.cell (o := 1) rfl) ?_
   refine AO ⟨_, fun _ h => h, trivial, ?_⟩
   refine D_E rfl ?_
   refine Ab (out := [.int .i64 (Cr S x k)]) rfl (by omega) (by rw [madeInt]; rfl) (fun wB nB => ?_)
   have kB := nB.keep
   have oz := nB.own (n := 1) (size := 1) rfl (by unfold maxLen; omega) (Nat.le_refl _)
   have eqB := eqC.trans kB
   have bTB := bTC.keep kB (by simp)
   have oqB := A4 oqC kB
   have zkB := kB.size
   refine AO ⟨_, fun _ h => h, trivial, ?_⟩
   refine D_E rfl ?_
   refine BD (ok := As) rfl rfl oqB (Az oz fun _ _ => trivial) (by omega) rfl rfl (Ap rfl) (by omega) (by omega) (by omega) (fun r7 w7 a7 => ?_)
   refine AO ⟨_, fun _ h => h, trivial, ?_⟩
   refine D_R rfl rfl (fun W hW => AH rfl Z3) (D_R rfl rfl (fun W hW => AD rfl Z3) ?_)
   refine D_E rfl ?_
   have hr : ∀ g, r.ownBlock = some g → w3.heap.size ≤ g := fun g hg => (Aw oqB hg).1
   have z7 := a7.keep.size
   have hr7 : ∀ g, r7.ownBlock = some g → w3.heap.size ≤ g := fun g hg => (Aw a7.own hg).1
   refine Aa (v := r7) rfl rfl (C8 a7.own) (bTB.keep a7.keep (fun hx => by have := hr _ (Option.mem_toList.1 hx); omega)) (by simp) (fun w8 p8 => ?_)
   refine AO ⟨_, fun _ h => h, trivial, ?_⟩
   refine Ah ?_
   repeat refine nx rfl ?_
   (refine AA (Av rfl rfl (by first | exact AV (by omega) (by omega) | exact AY (by omega) (by omega) | exact AW (by omega) (by omega)) ?_) <;> refine AG rfl ?_)
   repeat refine nx rfl ?_
   refine ⟨(k + 1, r7), ⟨rfl, ⟨rfl, rfl, rfl, rfl, ?_, trivial⟩, ⟨by (try simp only); omega, ?_, p8.blk, ?_, by have := p8.size; (try simp only); omega⟩⟩, by simp only; omega⟩
   ·show Value.int .i64 ((k : Int) + 1) = _
    rw [Int.natCast_add]; rfl
   ·exact (eqB.keep a7.keep (fun y hy => by have := hr _ (Option.mem_toList.1 hy); omega)).keep p8.keep (fun y hy => by simp at hy; omega)
   ·simp only
    rw [C5]
    exact Ag a7.own p8.keep (fun g hg => by have := hr7 g hg; simp; omega)
  refine Ab (out := [.int .i64 (Cr S x k)]) rfl (by omega) (by rw [madeInt]; rfl) (fun wB nB => ?_)
  have kB := nB.keep
  have oz := nB.own (n := 1) (size := 1) rfl (by unfold maxLen; omega) (Nat.le_refl _)
  have eqB := eqC.trans kB
  have bTB := bTC.keep kB (by simp)
  have oqB := A4 oqC kB
  have zkB := kB.size
  refine AO ⟨_, fun _ h => h, trivial, ?_⟩
  refine D_E rfl ?_
  refine AF rfl (bTB.cell (o := 1) rfl) ?_
  refine AO ⟨_, fun _ h => h, trivial, ?_⟩
  refine D_E rfl ?_
  refine BD (ok := As) rfl rfl oqB (Az oz fun _ _ => trivial) (by omega) rfl rfl (Ap rfl) (by omega) (by omega) (by omega) (fun r7 w7 a7 => ?_)
  refine AO ⟨_, fun _ h => h, trivial, ?_⟩
  refine D_R rfl rfl (fun W hW => AH rfl Z3) (D_R rfl rfl (fun W hW => AD rfl Z3) ?_)
  refine D_E rfl ?_
  have hr : ∀ g, r.ownBlock = some g → w3.heap.size ≤ g := fun g hg => (Aw oqB hg).1
  have z7 := a7.keep.size
  have hr7 : ∀ g, r7.ownBlock = some g → w3.heap.size ≤ g := fun g hg => (Aw a7.own hg).1
  refine Aa (v := r7) rfl rfl (C8 a7.own) (bTB.keep a7.keep (fun hx => by have := hr _ (Option.mem_toList.1 hx); omega)) (by simp) (fun w8 p8 => ?_)
  refine AO ⟨_, fun _ h => h, trivial, ?_⟩
  refine Ah ?_
  repeat refine nx rfl ?_
  (refine AA (Av rfl rfl (by first | exact AV (by omega) (by omega) | exact AY (by omega) (by omega) | exact AW (by omega) (by omega)) ?_) <;> refine AG rfl ?_)
  repeat refine nx rfl ?_
  refine ⟨(k + 1, r7), ⟨rfl, ⟨rfl, rfl, rfl, rfl, ?_, trivial⟩, ⟨by (try simp only); omega, ?_, p8.blk, ?_, by have := p8.size; (try simp only); omega⟩⟩, by simp only; omega⟩
  ·show Value.int .i64 ((k : Int) + 1) = _
   rw [Int.natCast_add]; rfl
  ·exact (eqB.keep a7.keep (fun y hy => by have := hr _ (Option.mem_toList.1 hy); omega)).keep p8.keep (fun y hy => by simp at hy; omega)
  ·simp only
   rw [C5]
   exact Ag a7.own p8.keep (fun g hg => by have := hr7 g hg; simp; omega)
 ·refine AA (Aj rfl rfl (by omega) ?_)
  repeat first | refine nx rfl ?_ | refine nf rfl ?_
  obtain rfl : k = S.length := by omega
  obtain ⟨ra, rc, er, _⟩ := own_ints oW
  subst er
  refine AA (AP rfl ?_)
  refine W_makeMapV (fun wa ya za ma => ?_)
  refine AP rfl (Ae rfl rfl ?_)
  refine A6 rfl rfl rfl ma rfl (fun wb kb zb mb => ?_)
  have yb := (ya).keep kb (by simp)
  replace zb := zb.trans za
  refine AP rfl (Ae rfl rfl ?_)
  refine A6 rfl rfl rfl mb rfl (fun wc kc zc mc => ?_)
  have yc := (yb).keep kc (by simp)
  replace zc := zc.trans zb
  refine AP rfl (Ae rfl rfl ?_)
  refine A6 rfl rfl rfl mc rfl (fun wd kd zd md => ?_)
  have yd := (yc).keep kd (by simp)
  replace zd := zd.trans zc
  refine AP rfl (Ae rfl rfl ?_)
  refine A6 rfl rfl rfl md rfl (fun we ke ze me => ?_)
  have ye := (yd).keep ke (by simp)
  replace ze := ze.trans zd
  refine AP rfl (Ae rfl rfl ?_)
  refine A6 rfl rfl rfl me rfl (fun wf kf zf mf => ?_)
  have yf := (ye).keep kf (by simp)
  replace zf := zf.trans ze
  refine AP rfl (Ae rfl rfl ?_)
  refine A6 rfl rfl rfl mf rfl (fun wg kg zg mg => ?_)
  have yg := (yf).keep kg (by simp)
  replace zg := zg.trans zf
  refine AP rfl (Ae rfl rfl ?_)
  refine A6 rfl rfl rfl mg rfl (fun wh kh zh mh => ?_)
  have yh := (yg).keep kh (by simp)
  replace zh := zh.trans zg
  refine AP rfl (Ae rfl rfl ?_)
  refine A6 rfl rfl rfl mh rfl (fun wi ki zi mi => ?_)
  have yi := (yh).keep ki (by simp)
  replace zi := zi.trans zh
  refine AP rfl (Ae rfl rfl ?_)
  refine A6 rfl rfl rfl mi rfl (fun wj kj zj mj => ?_)
  have yj := (yi).keep kj (by simp)
  replace zj := zj.trans zi
  have lt1 := bT.lt
  refine M_map rfl (AH rfl (AD rfl ?_))
  refine Aa (v := .map (some W.heap.size)) rfl rfl rfl (bT.keep yj (by simp)) (by simp) (fun V pV => ?_)
  repeat refine nx rfl ?_
  have zV : V.heap.size = W.heap.size + 1 := by rw [pV.size, zj]
  have m1 : VMap V W.heap.size (truT w.heap.size) := mj.keep pV.keep (by simp; omega)
  have eV : Ext w V := (kW.trans yj).keep pV.keep (by simp)
  have oV := Ag (Ag oW yj (fun g hg => by simp)) pV.keep (fun g hg => by have := (Aw oW hg).1; simp; omega)
  have bV := pV.blk
  clear mj ma mb mc md me mf mg mh mi yj pV bT oW ya yb yc yd ye yf yg yh yi kb kc kd ke kf kg kh ki kj
  refine AA (AP rfl ?_)
  refine W_makeMapV (fun wa ya za ma => ?_)
  refine AP rfl (Ae rfl rfl ?_)
  refine A6 rfl rfl rfl ma rfl (fun wb kb zb mb => ?_)
  have yb := (ya).keep kb (by simp)
  replace zb := zb.trans za
  refine AP rfl (Ae rfl rfl ?_)
  refine A6 rfl rfl rfl mb rfl (fun wc kc zc mc => ?_)
  have yc := (yb).keep kc (by simp)
  replace zc := zc.trans zb
  refine AP rfl (Ae rfl rfl ?_)
  refine A6 rfl rfl rfl mc rfl (fun wd kd zd md => ?_)
  have yd := (yc).keep kd (by simp)
  replace zd := zd.trans zc
  refine AP rfl (Ae rfl rfl ?_)
  refine A6 rfl rfl rfl md rfl (fun we ke ze me => ?_)
  have ye := (yd).keep ke (by simp)
  replace ze := ze.trans zd
  refine AP rfl (Ae rfl rfl ?_)
  refine A6 rfl rfl rfl me rfl (fun wf kf zf mf => ?_)
  have yf := (ye).keep kf (by simp)
  replace zf := zf.trans ze
  refine M_map rfl (AH rfl (AD rfl ?_))
  refine Aa (v := .map (some V.heap.size)) rfl rfl rfl (bV.keep yf (by simp)) (by simp) (fun U pU => ?_)
  repeat refine nx rfl ?_
  refine AA (AP rfl (AC (AP rfl ?_)))
  repeat refine nx rfl ?_
  have m2 : VMap U V.heap.size (rawT w.heap.size) := mf.keep pU.keep (by simp; omega)
  have m3 : VMap U W.heap.size (truT w.heap.size) := (m1.keep yf (by simp)).keep pU.keep (by simp; omega)
  have eU : Ext w U := (eV.trans yf).keep pU.keep (by simp)
  have oU := Ag (Ag oV yf (fun g hg => by simp)) pU.keep (fun g hg => by have := (Aw oV hg).1; simp; omega)
  have hx := own_ints oU
  have bU := pU.blk
  clear pU oU oV
  obtain ⟨a2, c2, er, hra⟩ := hx
  have e1 : ra = a2 := (Value.slice.inj er).1
  rw [← e1] at hra
  have hra' : ∀ i, i < S.length → ∃ g o, ra = some ⟨g, o, none⟩ ∧ U.cell? ⟨g, o + i, none⟩ = some (.int .i64 (Cr S x i)) := fun i hi => hra i _ (by simp [valsC, hi])
  exact AI rfl ⟨_, rfl, eU, sa, sc, ra, rc, _, _, bU, hS.ext eU, hra', m3, m2⟩
end Go.Proofs.YtkhhjdjmhbdjfaaGreatDoor
namespace Go.Proofs.YtkhhjdjmhbdjfaaGreatDoor
open Go.RowKit
set_option linter.unusedVariables false
variable {mk : Prop} [MK mk]
section
variable {α : Type} {p : α → Bool} {l : List α} {k : Nat} {y : α}
theorem all_stop (hy : l[k]? = some y) (hv : p y = false) : l.all p = false := by
 rw [← Bool.not_eq_true, List.all_eq_true]; intro h; have := h _ (List.mem_of_getElem? hy); rw [hv] at this; cases this
theorem all_done (h : ∀ (i : Nat) (y : α), i < l.length → l[i]? = some y → p y = true) : l.all p = true := by
 rw [List.all_eq_true]; intro z hz; obtain ⟨i, hi⟩ := List.getElem?_of_mem hz; exact h i z (List.getElem?_eq_some_iff.1 hi).1 hi
theorem any_stop (hy : l[k]? = some y) (hv : p y = true) : l.any p = true := by
 rw [List.any_eq_true]; exact ⟨y, List.mem_of_getElem? hy, hv⟩
theorem any_done (h : ∀ (i : Nat) (y : α), i < l.length → l[i]? = some y → p y = false) : l.any p = false := by
 rw [List.any_eq_false]; intro z hz; obtain ⟨i, hi⟩ := List.getElem?_of_mem hz; rw [h i z (List.getElem?_eq_some_iff.1 hi).1 hi]; exact Bool.false_ne_true
end
theorem pastL_all : ∀ l : List Fml, pastL l = l.all Bv
 | [] => rfl
 | a :: l => by rw [pastL, pastL_all l]; rfl
theorem rpast_ok : ∀ (n : Nat) (w : World) (b o : Nat) (f : Fml), dpF f ≤ n → PF As w b o f → Fn Tryz.prog 118 [.pointer (some ⟨b, o, none⟩)] w fun u w' => u = .bool (Bv f) ∧ Ext w w' := by
 intro n
 induction n with
 | zero => intro w b o f hn; rw [Bd] at hn; omega
 | succ n ih =>
 intro w b o f hn hf
 rw [Bd] at hn
 obtain ⟨aa, cc, hla, q0, q1, q2, q3, q4, qa⟩ := hf.all
 obtain ⟨op, nm, v, bd, args⟩ := f
 simp only [Fml.op, Fml.name, Fml.val, Fml.args] at *
 have harg : ∀ (k : Nat) (a : Fml), args[k]? = some a → ∀ W, Ext w W → ∃ b' o', aa = some ⟨b', o', none⟩ ∧ Fn Tryz.prog 118 [.pointer (some ⟨b', o' + k * 5, none⟩)] W fun u w' => u = .bool (Bv a) ∧ Ext W w' := fun k a ha W eW => by
  obtain ⟨b', o', e, hp⟩ := qa k a ha
  have hm' := List.mem_of_getElem? ha
  have := Bp hm'
  exact ⟨b', o', e, ih W b' _ a (by omega) (hp.keep eW (fun _ _ => by simp))⟩
 refine AR Tryz.func118 rfl Tryz.ntmps118 (Nat.le_of_ble_eq_true rfl) (by kernel_rfl) ?_
 repeat refine nx rfl ?_
 refine AA (AC (AB rfl ?_))
 repeat refine nx rfl ?_
 rw [Bv]
 by_cases h8 : op = 8
 ·subst h8
  (refine AA (AP rfl (AH rfl (AD rfl (AF rfl (by assumption) ?_)))) <;> refine Ai rfl rfl (by omega) (AB rfl (AL rfl (AL rfl (AL rfl (AL rfl (AL rfl (AK rfl (AB rfl (AB rfl (AL rfl (AL rfl (AL rfl (AL rfl (AL rfl (AK rfl (AB rfl ?_)))))))))))))))))
  repeat refine nx rfl ?_
  refine AA (AC (AB rfl ?_))
  repeat refine nx rfl ?_
  exact AI rfl ⟨rfl, Ext.refl _⟩
 by_cases h9 : op = 9
 ·subst h9
  (refine AA (AP rfl (AH rfl (AD rfl (AF rfl (by assumption) ?_)))) <;> refine AT rfl rfl (by omega) (AB rfl (AE rfl (AP rfl (AE rfl (AH rfl (AE rfl (AD rfl (AE rfl (AF rfl (by assumption) ?_))))))))) <;> refine AE rfl (Ai rfl rfl (by omega) (AJ rfl (AB rfl (AB rfl (AL rfl (AL rfl (AL rfl (AL rfl (AL rfl (AK rfl (AB rfl ?_))))))))))))
  repeat refine nx rfl ?_
  refine AA (AC (AB rfl ?_))
  repeat refine nx rfl ?_
  exact AI rfl ⟨rfl, Ext.refl _⟩
 by_cases h10 : op = 10
 ·subst h10
  (refine AA (AP rfl (AH rfl (AD rfl (AF rfl (by assumption) ?_)))) <;> refine AT rfl rfl (by omega) (AB rfl (AE rfl (AP rfl (AE rfl (AH rfl (AE rfl (AD rfl (AE rfl (AF rfl (by assumption) ?_))))))))) <;> refine AE rfl (AT rfl rfl (by omega) (AJ rfl (AB rfl (AB rfl (AE rfl (AP rfl (AE rfl (AH rfl (AE rfl (AD rfl (AE rfl (AF rfl (by assumption) ?_)))))))))))) <;> refine AE rfl (Ai rfl rfl (by omega) (AJ rfl (AB rfl ?_))))
  repeat refine nx rfl ?_
  refine AA (AC (AB rfl ?_))
  repeat refine nx rfl ?_
  exact AI rfl ⟨rfl, Ext.refl _⟩
 have hres : (!(decide (op = 8) || decide (op = 9) || decide (op = 10)) && pastL args) = args.all Bv := by
  rw [pastL_all]; simp [h8, h9, h10]
 rw [hres]
 (refine AA (AP rfl (AH rfl (AD rfl (AF rfl (by assumption) ?_)))) <;> refine AT rfl rfl (by omega) (AB rfl (AE rfl (AP rfl (AE rfl (AH rfl (AE rfl (AD rfl (AE rfl (AF rfl (by assumption) ?_))))))))) <;> refine AE rfl (AT rfl rfl (by omega) (AJ rfl (AB rfl (AB rfl (AE rfl (AP rfl (AE rfl (AH rfl (AE rfl (AD rfl (AE rfl (AF rfl (by assumption) ?_)))))))))))) <;> refine AE rfl (AT rfl rfl (by omega) (AJ rfl (AB rfl ?_))))
 repeat first | refine nx rfl ?_ | refine nf rfl ?_
 (refine AA (AP rfl (AH rfl (AD rfl (AF rfl (by assumption) ?_)))) <;> refine AZ rfl (AG rfl ?_))
 repeat refine nx rfl ?_
 refine A3 (α := Nat) (fun k => [(0, .pointer (some ⟨b, o, none⟩)), (27, .int .i64 (args.length : Int)), (28, .int .i64 (k : Int))]) (fun k W => k ≤ args.length ∧ Ext w W ∧ ∀ (i : Nat) (y : Fml), i < k → args[i]? = some y → Bv y = true) (fun k => args.length - k) 0 (by repeat (first | exact trivial | refine ⟨rfl, ?_⟩)) ⟨by omega, Ext.refl _, fun i y hi => by omega⟩ ?_
 rintro k W fr ⟨hkl, kW, hbefore⟩
 have q4W := kW.cell q4 (by simp)
 repeat refine nx rfl ?_
 by_cases hlt : k < args.length
 ·refine AA (At rfl rfl (by omega) ?_)
  repeat refine nx rfl ?_
  refine AA (AG rfl (AC (AG rfl ?_)))
  repeat refine nx rfl ?_
  obtain ⟨y, hy⟩ : ∃ y, args[k]? = some y := ⟨_, List.getElem?_eq_getElem hlt⟩
  obtain ⟨b', o', rfl, hfn⟩ := harg k y hy W kW
  (refine AA (AP rfl (AH rfl (AD rfl (AF rfl (by assumption) ?_)))) <;> refine AG rfl (Au rfl rfl rfl (by omega) ?_))
  refine AQ hfn rfl ?_
  rintro _ w4 ⟨rfl, k4⟩
  have k5 := kW.trans k4
  cases hv : Bv y with
  | true =>
   refine Ak rfl ?_
   repeat first | refine nx rfl ?_ | refine nf rfl ?_
   (refine AA (Av rfl rfl (by first | exact AV (by omega) (by omega) | exact AY (by omega) (by omega) | exact AW (by omega) (by omega)) ?_) <;> refine AG rfl ?_)
   repeat refine nx rfl ?_
   refine ⟨k + 1, ⟨rfl, ⟨(by repeat (first | exact trivial | refine ⟨rfl, ?_⟩)), ⟨by omega, k5, fun i z hi hz => ?_⟩⟩⟩, by omega⟩
   by_cases hik : i = k
   ·subst hik; rw [hy] at hz; cases hz; exact hv
   ·exact hbefore i z (by omega) hz
  | false =>
   refine Ak rfl ?_
   repeat refine nx rfl ?_
   refine AA (AC (AB rfl ?_))
   repeat refine nx rfl ?_
   exact AI rfl ⟨congrArg Value.bool (all_stop hy hv).symm, k5⟩
 ·refine AA (Aj rfl rfl (by omega) ?_)
  repeat first | refine nx rfl ?_ | refine nf rfl ?_
  refine AA (AC (AB rfl ?_))
  repeat refine nx rfl ?_
  exact AI rfl ⟨congrArg Value.bool (all_done fun i z hi hz => hbefore i z (by omega) hz).symm, kW⟩
theorem rnow_of (w : World) (r : Nat) (S : List Sgn) (x : Int) (F : FuncId) [hF : AS Tryz.prog F] (b o : Nat) (f : Fml) (hR : Rdr w r S x) (hf : PF As w b o f) (hl : (truT r).lookup f.op = some (mvR F r)) (v : Bool)
  (hop : ∀ W, Ext w W → Fn Tryz.prog F [pt r, .pointer (some ⟨b, o, none⟩)] W fun u w' => u = .bool v ∧ Ext W w') : Fn Tryz.prog 115 [pt r, .pointer (some ⟨b, o, none⟩)] w fun u w' => u = .bool v ∧ Ext w w' := by
 obtain ⟨sa, sc, ra, rc, mt, mr, hb, hS, hv, hm, hm'⟩ := hR
 have q0 := hf.opc
 refine AR Tryz.func115 rfl Tryz.ntmps115 (Nat.le_of_ble_eq_true rfl) (by kernel_rfl) ?_
 repeat refine nx rfl ?_
 refine AA (AC (AB rfl ?_))
 repeat refine nx rfl ?_
 refine Ad (.read 0 (.read 1 (.read 2 (.read 3 (.read 4 (.read 5 (.read 6 (.read 7 (.read 8 (.read 9 (.alt 10 (.read 11 .done) .stop))))))))))) Ax (by kernel_rfl) (fun wd kd ed => ⟨Ext wd, ?_, ?_⟩)
 ·exact Ext.refl _
 have s1 : ∀ V, Ext wd V → V.cell? ⟨r, 0 + 2, none⟩ = some (.map (some mt)) := fun V e => (hb.keep (kd.trans e) (by simp)).cell rfl
 have s2 : ∀ V, Ext wd V → V.cell? ⟨b, o + 0, none⟩ = some (.int .i64 f.op) := fun V e => (kd.trans e).cell q0 (by simp)
 refine D_R rfl rfl (fun W hW => AP rfl Z3) (D_R rfl rfl (fun W hW => AH rfl Z3) (D_R rfl rfl (fun W hW => AD rfl Z3) (D_R rfl rfl (fun W hW => AF rfl (s1 W hW) Z3) (D_R rfl rfl (fun W hW => AP rfl Z3) (D_R rfl rfl (fun W hW => AH rfl Z3) (D_R rfl rfl (fun W hW => AD rfl Z3) (D_R rfl rfl (fun W hW => AF rfl (s2 W hW) Z3) ?_)))))))
 refine D_R rfl rfl (fun V hV => by refine W_lookupV rfl rfl (hm.keep (kd.trans hV) (by simp)) hl ?_; exact AO ⟨rfl, rfl, rfl⟩) ?_
 ((apply D_R rfl rfl; (intro W hW; refine AP rfl ?_; exact AO ⟨rfl, rfl, rfl⟩)))
 refine D_E rfl ?_
 refine BO (v1 := [pt r]) (v2 := []) (vs := [.pointer (some ⟨b, o, none⟩)]) rfl (hop wd kd) rfl ?_
 rintro _ w4 ⟨rfl, k4⟩
 refine AO ⟨Ext wd, fun _ e => e, k4, ?_⟩
 refine D_R rfl rfl (fun W hW => AC (AB rfl Z3)) (Ah ?_)
 repeat refine nx rfl ?_
 exact AI rfl ⟨rfl, kd.trans k4⟩
theorem ralways_ok (w : World) (r : Nat) (p : Value) : Fn Tryz.prog 77 [pt r, p] w fun u w' => u = .bool true ∧ Ext w w' := by
 refine AR Tryz.func77 rfl Tryz.ntmps77 (Nat.le_of_ble_eq_true rfl) (by kernel_rfl) ?_
 repeat refine nx rfl ?_
 refine AA (AC (AB rfl ?_))
 repeat refine nx rfl ?_
 refine AA (AC (AB rfl ?_))
 repeat refine nx rfl ?_
 exact AI rfl ⟨rfl, Ext.refl _⟩
theorem rnever_ok (w : World) (r : Nat) (p : Value) : Fn Tryz.prog 78 [pt r, p] w fun u w' => u = .bool false ∧ Ext w w' := by
 refine AR Tryz.func78 rfl Tryz.ntmps78 (Nat.le_of_ble_eq_true rfl) (by kernel_rfl) ?_
 repeat refine nx rfl ?_
 refine AA (AC (AB rfl ?_))
 repeat refine nx rfl ?_
 refine AA (AC (AB rfl ?_))
 repeat refine nx rfl ?_
 exact AI rfl ⟨rfl, Ext.refl _⟩
theorem ryest_ok (w : World) (r b o : Nat) (f : Fml) (hf : PF As w b o f) : Fn Tryz.prog 83 [pt r, .pointer (some ⟨b, o, none⟩)] w fun u w' => u = .bool (decide (f.val = 1)) ∧ Ext w w' := by
 obtain ⟨_, _, _, _, _, q2, _⟩ := hf.all
 by_cases hv : f.val = 1
 ·refine AR Tryz.func83 rfl Tryz.ntmps83 (Nat.le_of_ble_eq_true rfl) (by kernel_rfl) ?_
  repeat refine nx rfl ?_
  refine AA (AC (AB rfl ?_))
  repeat refine nx rfl ?_
  (refine AA (AP rfl (AH rfl (AD rfl (AF rfl (by assumption) ?_)))) <;> refine Ai rfl rfl (by omega) (AC (AB rfl ?_)))
  repeat refine nx rfl ?_
  exact AI rfl ⟨by rw [decide_eq_true hv]; rfl, Ext.refl _⟩
 ·refine AR Tryz.func83 rfl Tryz.ntmps83 (Nat.le_of_ble_eq_true rfl) (by kernel_rfl) ?_
  repeat refine nx rfl ?_
  refine AA (AC (AB rfl ?_))
  repeat refine nx rfl ?_
  (refine AA (AP rfl (AH rfl (AD rfl (AF rfl (by assumption) ?_)))) <;> refine AT rfl rfl (by omega) (AC (AB rfl ?_)))
  repeat refine nx rfl ?_
  exact AI rfl ⟨by rw [decide_eq_false hv]; rfl, Ext.refl _⟩
def ArgN (w : World) (r : Nat) (x : Vl) (aa : Option Addr) (args : List Fml) : Prop := ∀ (k : Nat) (a : Fml), args[k]? = some a → ∀ W, Ext w W → ∃ b' o', aa = some ⟨b', o', none⟩ ∧ Fn Tryz.prog 115 [pt r, .pointer (some ⟨b', o' + k * 5, none⟩)] W fun u w' => u = .bool (BH x a) ∧ Ext W w'
theorem rnot_ok (w : World) (r b o : Nat) (x : Vl) (args : List Fml) (a : Fml) (aa : Option Addr) (cc : Nat) (q4 : w.cell? ⟨b, o + 4, none⟩ = some (.slice aa args.length cc)) (harg : ArgN w r x aa args) (ha : args = [a]) :
  Fn Tryz.prog 80 [pt r, .pointer (some ⟨b, o, none⟩)] w fun u w' => u = .bool (!BH x a) ∧ Ext w w' := by
 subst ha
 obtain ⟨b', o', rfl, hfn⟩ := harg 0 a rfl w (Ext.refl _)
 simp only [List.length_singleton] at q4
 refine AR Tryz.func80 rfl Tryz.ntmps80 (Nat.le_of_ble_eq_true rfl) (by kernel_rfl) ?_
 repeat refine nx rfl ?_
 refine AA (AC (AB rfl ?_))
 repeat refine nx rfl ?_
 (refine AA (AP rfl (AP rfl (AH rfl (AD rfl (AF rfl (by assumption) ?_))))) <;> refine Aq rfl rfl (by omega) (by omega) ?_)
 refine AQ hfn rfl ?_
 rintro _ w1 ⟨rfl, k1⟩
 refine Ak rfl (AC (AB rfl ?_))
 repeat refine nx rfl ?_
 exact AI rfl ⟨rfl, k1⟩
theorem rand_ok (w : World) (r b o : Nat) (x : Vl) (args : List Fml) (aa : Option Addr) (cc : Nat) (hla : args.length ≤ 9223372036854775807) (q4 : w.cell? ⟨b, o + 4, none⟩ = some (.slice aa args.length cc)) (harg : ArgN w r x aa args) :
  Fn Tryz.prog 81 [pt r, .pointer (some ⟨b, o, none⟩)] w fun u w' => u = .bool (args.all (BH x)) ∧ Ext w w' := by
 refine AR Tryz.func81 rfl Tryz.ntmps81 (Nat.le_of_ble_eq_true rfl) (by kernel_rfl) ?_
 repeat refine nx rfl ?_
 refine AA (AC (AB rfl ?_))
 repeat refine nx rfl ?_
 (refine AA (AP rfl (AH rfl (AD rfl (AF rfl (by assumption) ?_)))) <;> refine AZ rfl (AG rfl ?_))
 repeat refine nx rfl ?_
 refine A3 (α := Nat) (fun k => [(0, pt r), (1, .pointer (some ⟨b, o, none⟩)), (10, .int .i64 (args.length : Int)), (11, .int .i64 (k : Int))]) (fun k W => k ≤ args.length ∧ Ext w W ∧ ∀ (i : Nat) (y : Fml), i < k → args[i]? = some y → BH x y = true) (fun k => args.length - k) 0 (by repeat (first | exact trivial | refine ⟨rfl, ?_⟩)) ⟨by omega, Ext.refl _, fun i y hi => by omega⟩ ?_
 rintro k W fr ⟨hkl, kW, hbefore⟩
 have q4W := kW.cell q4 (by simp)
 repeat refine nx rfl ?_
 by_cases hlt : k < args.length
 ·refine AA (At rfl rfl (by omega) ?_)
  repeat refine nx rfl ?_
  refine AA (AG rfl (AC (AG rfl ?_)))
  repeat refine nx rfl ?_
  obtain ⟨y, hy⟩ : ∃ y, args[k]? = some y := ⟨_, List.getElem?_eq_getElem hlt⟩
  obtain ⟨b', o', rfl, hfn⟩ := harg k y hy W kW
  (refine AA (AP rfl (AP rfl (AH rfl (AD rfl (AF rfl (by assumption) ?_))))) <;> refine AG rfl (Au rfl rfl rfl (by omega) ?_))
  refine AQ hfn rfl ?_
  rintro _ w4 ⟨rfl, k4⟩
  have k5 := kW.trans k4
  cases hv : BH x y with
  | true =>
   refine Ak rfl ?_
   repeat first | refine nx rfl ?_ | refine nf rfl ?_
   (refine AA (Av rfl rfl (by first | exact AV (by omega) (by omega) | exact AY (by omega) (by omega) | exact AW (by omega) (by omega)) ?_) <;> refine AG rfl ?_)
   repeat refine nx rfl ?_
   refine ⟨k + 1, ⟨rfl, ⟨(by repeat (first | exact trivial | refine ⟨rfl, ?_⟩)), ⟨by omega, k5, fun i z hi hz => ?_⟩⟩⟩, by omega⟩
   by_cases hik : i = k
   ·subst hik; rw [hy] at hz; cases hz; exact hv
   ·exact hbefore i z (by omega) hz
  | false =>
   refine Ak rfl ?_
   repeat refine nx rfl ?_
   refine AA (AC (AB rfl ?_))
   repeat refine nx rfl ?_
   exact AI rfl ⟨congrArg Value.bool (all_stop hy hv).symm, k5⟩
 ·refine AA (Aj rfl rfl (by omega) ?_)
  repeat first | refine nx rfl ?_ | refine nf rfl ?_
  refine AA (AC (AB rfl ?_))
  repeat refine nx rfl ?_
  exact AI rfl ⟨congrArg Value.bool (all_done fun i z hi hz => hbefore i z (by omega) hz).symm, kW⟩
theorem ror_ok (w : World) (r b o : Nat) (x : Vl) (args : List Fml) (aa : Option Addr) (cc : Nat) (hla : args.length ≤ 9223372036854775807) (q4 : w.cell? ⟨b, o + 4, none⟩ = some (.slice aa args.length cc)) (harg : ArgN w r x aa args) :
  Fn Tryz.prog 82 [pt r, .pointer (some ⟨b, o, none⟩)] w fun u w' => u = .bool (args.any (BH x)) ∧ Ext w w' := by
 refine AR Tryz.func82 rfl Tryz.ntmps82 (Nat.le_of_ble_eq_true rfl) (by kernel_rfl) ?_
 repeat refine nx rfl ?_
 refine AA (AC (AB rfl ?_))
 repeat refine nx rfl ?_
 (refine AA (AP rfl (AH rfl (AD rfl (AF rfl (by assumption) ?_)))) <;> refine AZ rfl (AG rfl ?_))
 repeat refine nx rfl ?_
 refine A3 (α := Nat) (fun k => [(0, pt r), (1, .pointer (some ⟨b, o, none⟩)), (10, .int .i64 (args.length : Int)), (11, .int .i64 (k : Int))]) (fun k W => k ≤ args.length ∧ Ext w W ∧ ∀ (i : Nat) (y : Fml), i < k → args[i]? = some y → BH x y = false) (fun k => args.length - k) 0 (by repeat (first | exact trivial | refine ⟨rfl, ?_⟩)) ⟨by omega, Ext.refl _, fun i y hi => by omega⟩ ?_
 rintro k W fr ⟨hkl, kW, hbefore⟩
 have q4W := kW.cell q4 (by simp)
 repeat refine nx rfl ?_
 by_cases hlt : k < args.length
 ·refine AA (At rfl rfl (by omega) ?_)
  repeat refine nx rfl ?_
  refine AA (AG rfl (AC (AG rfl ?_)))
  repeat refine nx rfl ?_
  obtain ⟨y, hy⟩ : ∃ y, args[k]? = some y := ⟨_, List.getElem?_eq_getElem hlt⟩
  obtain ⟨b', o', rfl, hfn⟩ := harg k y hy W kW
  (refine AA (AP rfl (AP rfl (AH rfl (AD rfl (AF rfl (by assumption) ?_))))) <;> refine AG rfl (Au rfl rfl rfl (by omega) ?_))
  refine AQ hfn rfl ?_
  rintro _ w4 ⟨rfl, k4⟩
  have k5 := kW.trans k4
  cases hv : BH x y with
  | false =>
   repeat first | refine nx rfl ?_ | refine nf rfl ?_
   (refine AA (Av rfl rfl (by first | exact AV (by omega) (by omega) | exact AY (by omega) (by omega) | exact AW (by omega) (by omega)) ?_) <;> refine AG rfl ?_)
   repeat refine nx rfl ?_
   refine ⟨k + 1, ⟨rfl, ⟨(by repeat (first | exact trivial | refine ⟨rfl, ?_⟩)), ⟨by omega, k5, fun i z hi hz => ?_⟩⟩⟩, by omega⟩
   by_cases hik : i = k
   ·subst hik; rw [hy] at hz; cases hz; exact hv
   ·exact hbefore i z (by omega) hz
  | true =>
   repeat refine nx rfl ?_
   refine AA (AC (AB rfl ?_))
   repeat refine nx rfl ?_
   exact AI rfl ⟨congrArg Value.bool (any_stop hy hv).symm, k5⟩
 ·refine AA (Aj rfl rfl (by omega) ?_)
  repeat first | refine nx rfl ?_ | refine nf rfl ?_
  refine AA (AC (AB rfl ?_))
  repeat refine nx rfl ?_
  exact AI rfl ⟨congrArg Value.bool (any_done fun i z hi hz => hbefore i z (by omega) hz).symm, kW⟩
theorem rsince_ok (w : World) (r b o : Nat) (x : Vl) (v : Int) (args : List Fml) (a c : Fml) (aa : Option Addr) (cc : Nat) (q2 : w.cell? ⟨b, o + 2, none⟩ = some (.int .i64 v)) (q4 : w.cell? ⟨b, o + 4, none⟩ = some (.slice aa args.length cc)) (harg : ArgN w r x aa args) (ha : args = [a, c]) :
  Fn Tryz.prog 84 [pt r, .pointer (some ⟨b, o, none⟩)] w fun u w' => u = .bool (BH x c || (decide (v = 1) && BH x a)) ∧ Ext w w' := by
 subst ha
 obtain ⟨b', o', rfl, hfn⟩ := harg 1 c rfl w (Ext.refl _)
 simp only [List.length_cons, List.length_nil] at q4
 refine AR Tryz.func84 rfl Tryz.ntmps84 (Nat.le_of_ble_eq_true rfl) (by kernel_rfl) ?_
 repeat refine nx rfl ?_
 refine AA (AC (AB rfl ?_))
 repeat refine nx rfl ?_
 (refine AA (AP rfl (AP rfl (AH rfl (AD rfl (AF rfl (by assumption) ?_))))) <;> refine Aq rfl rfl (by omega) (by omega) ?_)
 refine AQ hfn rfl ?_
 rintro _ w1 ⟨rfl, k1⟩
 have q21 := k1.cell q2 (by simp)
 have q41 := k1.cell q4 (by simp)
 obtain ⟨_, _, e2, hfn2⟩ := harg 0 a rfl w1 k1
 cases e2
 cases hc1 : BH x c with
 | true =>
  refine AB rfl (AL rfl (AL rfl (AL rfl (AL rfl (AL rfl (AL rfl (AL rfl (AL rfl (AL rfl (AL rfl (AL rfl (AL rfl ?_))))))))))))
  refine AL rfl (AL rfl (AK rfl (AB rfl (AC (AB rfl ?_)))))
  repeat refine nx rfl ?_
  exact AI rfl ⟨rfl, k1⟩
 | false =>
  by_cases hv : v = 1
  ·subst hv
   (refine AB rfl (AE rfl (AP rfl (AE rfl (AH rfl (AE rfl (AD rfl (AE rfl (AF rfl (by assumption) ?_)))))))) <;> refine AE rfl (Ai rfl rfl (by omega) (AE rfl (AB rfl (AE rfl (AP rfl (AE rfl (AP rfl (AE rfl (AH rfl (AE rfl (AD rfl (AE rfl (AF rfl (by assumption) ?_))))))))))))) <;> refine AE rfl (Aq rfl rfl (by omega) (by omega) ?_))
   refine AE rfl (AQ hfn2 rfl ?_)
   rintro _ w2 ⟨rfl, k2⟩
   refine AE rfl (AK rfl (AB rfl (AJ rfl (AB rfl (AC (AB rfl ?_))))))
   repeat refine nx rfl ?_
   exact AI rfl ⟨rfl, k1.trans k2⟩
  ·rw [decide_eq_false hv]
   (refine AB rfl (AE rfl (AP rfl (AE rfl (AH rfl (AE rfl (AD rfl (AE rfl (AF rfl (by assumption) ?_)))))))) <;> refine AE rfl (AT rfl rfl (by omega) (AE rfl (AB rfl (AL rfl (AL rfl (AL rfl (AL rfl (AL rfl (AL rfl ?_))))))))))
   refine AL rfl (AE rfl (AJ rfl (AB rfl (AJ rfl (AB rfl (AC (AB rfl ?_)))))))
   repeat refine nx rfl ?_
   exact AI rfl ⟨rfl, k1⟩
theorem rtrig_ok (w : World) (r b o : Nat) (x : Vl) (v : Int) (args : List Fml) (a c : Fml) (aa : Option Addr) (cc : Nat) (q2 : w.cell? ⟨b, o + 2, none⟩ = some (.int .i64 v)) (q4 : w.cell? ⟨b, o + 4, none⟩ = some (.slice aa args.length cc)) (harg : ArgN w r x aa args) (ha : args = [a, c]) :
  Fn Tryz.prog 85 [pt r, .pointer (some ⟨b, o, none⟩)] w fun u w' => u = .bool (BH x c && (decide (v = 1) || BH x a)) ∧ Ext w w' := by
 subst ha
 obtain ⟨b', o', rfl, hfn⟩ := harg 1 c rfl w (Ext.refl _)
 simp only [List.length_cons, List.length_nil] at q4
 refine AR Tryz.func85 rfl Tryz.ntmps85 (Nat.le_of_ble_eq_true rfl) (by kernel_rfl) ?_
 repeat refine nx rfl ?_
 refine AA (AC (AB rfl ?_))
 repeat refine nx rfl ?_
 (refine AA (AP rfl (AP rfl (AH rfl (AD rfl (AF rfl (by assumption) ?_))))) <;> refine Aq rfl rfl (by omega) (by omega) ?_)
 refine AQ hfn rfl ?_
 rintro _ w1 ⟨rfl, k1⟩
 have q21 := k1.cell q2 (by simp)
 have q41 := k1.cell q4 (by simp)
 obtain ⟨_, _, e2, hfn2⟩ := harg 0 a rfl w1 k1
 cases e2
 cases hc1 : BH x c with
 | false =>
  refine AB rfl (AL rfl (AL rfl (AL rfl (AL rfl (AL rfl (AL rfl (AL rfl (AL rfl (AL rfl (AL rfl (AL rfl (AL rfl ?_))))))))))))
  refine AL rfl (AL rfl (AJ rfl (AB rfl (AC (AB rfl ?_)))))
  repeat refine nx rfl ?_
  exact AI rfl ⟨rfl, k1⟩
 | true =>
  by_cases hv : v = 1
  ·subst hv
   (refine AB rfl (AE rfl (AP rfl (AE rfl (AH rfl (AE rfl (AD rfl (AE rfl (AF rfl (by assumption) ?_)))))))) <;> refine AE rfl (Ai rfl rfl (by omega) (AE rfl (AB rfl (AL rfl (AL rfl (AL rfl (AL rfl (AL rfl (AL rfl ?_))))))))))
   refine AL rfl (AE rfl (AK rfl (AB rfl (AK rfl (AB rfl (AC (AB rfl ?_)))))))
   repeat refine nx rfl ?_
   exact AI rfl ⟨rfl, k1⟩
  ·rw [decide_eq_false hv]
   (refine AB rfl (AE rfl (AP rfl (AE rfl (AH rfl (AE rfl (AD rfl (AE rfl (AF rfl (by assumption) ?_)))))))) <;> refine AE rfl (AT rfl rfl (by omega) (AE rfl (AB rfl (AE rfl (AP rfl (AE rfl (AP rfl (AE rfl (AH rfl (AE rfl (AD rfl (AE rfl (AF rfl (by assumption) ?_))))))))))))) <;> refine AE rfl (Aq rfl rfl (by omega) (by omega) ?_))
   refine AE rfl (AQ hfn2 rfl ?_)
   rintro _ w2 ⟨rfl, k2⟩
   refine AE rfl (AJ rfl (AB rfl (AK rfl (AB rfl (AC (AB rfl ?_))))))
   repeat refine nx rfl ?_
   exact AI rfl ⟨rfl, k1.trans k2⟩
theorem ris_ok (w : World) (r b o : Nat) (S : List Sgn) (x : Int) (nm : List UInt8) (v : Int) (hR : Rdr w r S x) (q1 : w.cell? ⟨b, o + 1, none⟩ = some (An nm)) (q2 : w.cell? ⟨b, o + 2, none⟩ = some (.int .i64 v)) (hk : knS S nm v = true) :
  Fn Tryz.prog 79 [pt r, .pointer (some ⟨b, o, none⟩)] w fun u w' => u = .bool (decide (vlS S x nm = v)) ∧ Ext w w' := by
 obtain ⟨j, s, hj, hs, hvs⟩ := kn_find hk
 obtain ⟨sa, sc, ra, rc, mt, mr, hb, hS, hr, _, _⟩ := hR
 have hjl := (List.getElem?_eq_some_iff.1 hs).1
 obtain ⟨rg, ro, rfl, hrc⟩ := hr j hjl
 have hfm : Cs S nm = (j : Int) := by unfold Cs; rw [hj]
 have hvl : vlS S x nm = Cr S x j := by unfold vlS; rw [hj]
 rw [hvl]
 refine AR Tryz.func79 rfl Tryz.ntmps79 (Nat.le_of_ble_eq_true rfl) (by kernel_rfl) ?_
 repeat refine nx rfl ?_
 refine AA (AC (AB rfl ?_))
 repeat refine nx rfl ?_
 refine Ad (.read 0 (.read 1 (.read 2 (.read 3 (.read 4 (.read 5 (.read 6 (.read 7 (.read 8 (.read 9 (.read 10 (.read 11 (.read 15 (.read 16 (.read 17 (.read 18 (.alt 12 (.read 13 (.read 14 (.read 19 (.read 20 .done)))) .stop))))))))))))))))) Ax (by kernel_rfl) (fun wd kd ed => ⟨Ext wd, ?_, ?_⟩)
 ·exact Ext.refl _
 have s1 : ∀ V, Ext wd V → V.cell? ⟨r, 0 + 0, none⟩ = some (.slice sa S.length sc) := fun V e => (hb.keep (kd.trans e) (by simp)).cell rfl
 have s2 : ∀ V, Ext wd V → V.cell? ⟨r, 0 + 1, none⟩ = some (.slice (some ⟨rg, ro, none⟩) S.length rc) := fun V e => (hb.keep (kd.trans e) (by simp)).cell rfl
 have s3 : ∀ V, Ext wd V → V.cell? ⟨b, o + 1, none⟩ = some (An nm) := fun V e => (kd.trans e).cell q1 (by simp)
 have s4 : ∀ V, Ext wd V → V.cell? ⟨b, o + 2, none⟩ = some (.int .i64 v) := fun V e => (kd.trans e).cell q2 (by simp)
 have s5 : ∀ V, Ext wd V → V.cell? ⟨rg, ro + j, none⟩ = some (.int .i64 (Cr S x j)) := fun V e => (kd.trans e).cell hrc (by simp)
 refine D_R rfl rfl (fun W hW => AP rfl Z3) (D_R rfl rfl (fun W hW => AH rfl Z3) (D_R rfl rfl (fun W hW => AD rfl Z3) (D_R rfl rfl (fun W hW => AF rfl (s2 W hW) Z3) (D_R rfl rfl (fun W hW => AP rfl Z3) (D_R rfl rfl (fun W hW => AH rfl Z3) (D_R rfl rfl (fun W hW => AD rfl Z3) (D_R rfl rfl (fun W hW => AF rfl (s1 W hW) Z3) (D_R rfl rfl (fun W hW => AP rfl Z3) (D_R rfl rfl (fun W hW => AH rfl Z3) (D_R rfl rfl (fun W hW => AD rfl Z3) (D_R rfl rfl (fun W hW => AF rfl (s3 W hW) Z3) (D_R rfl rfl (fun W hW => AP rfl Z3) (D_R rfl rfl (fun W hW => AH rfl Z3) (D_R rfl rfl (fun W hW => AD rfl Z3) (D_R rfl rfl (fun W hW => AF rfl (s4 W hW) Z3) ?_)))))))))))))))
 refine D_E rfl ?_
 refine AQ (sigFind_ok wd _ S nm (hS.ext kd)) rfl ?_
 rintro _ wd ⟨rfl, rfl⟩
 rw [hfm]
 refine AO ⟨Ext wd, fun _ e => e, Ext.refl _, ?_⟩
 by_cases hvv : Cr S x j = v
 ·refine D_R rfl rfl (fun W hW => BL rfl rfl rfl (by omega) Z3) (D_R rfl rfl (fun W hW => AF rfl (s5 W hW) Z3) (D_eqlT rfl rfl rfl rfl (by omega) (D_R rfl rfl (fun W hW => AC (AB rfl Z3)) (Ah ?_))))
  repeat refine nx rfl ?_
  exact AI rfl ⟨by rw [decide_eq_true hvv]; rfl, kd⟩
 ·refine D_R rfl rfl (fun W hW => BL rfl rfl rfl (by omega) Z3) (D_R rfl rfl (fun W hW => AF rfl (s5 W hW) Z3) (D_eqlF rfl rfl rfl rfl (by omega) (D_R rfl rfl (fun W hW => AC (AB rfl Z3)) (Ah ?_))))
  repeat refine nx rfl ?_
  exact AI rfl ⟨by rw [decide_eq_false hvv]; rfl, kd⟩
theorem rnow_ok (w0 : World) (r : Nat) (S : List Sgn) (x : Int) (hR : Rdr w0 r S x) : ∀ (n : Nat) (w : World) (b o : Nat) (f : Fml) (i : Bool), dpF f ≤ n → Ext w0 w → PF As w b o f → A9 i f = true → Bv f = true → isB (knS S) f = true →
  Fn Tryz.prog 115 [pt r, .pointer (some ⟨b, o, none⟩)] w fun u w' => u = .bool (BH (vlS S x) f) ∧ Ext w w' := by
 intro n
 induction n with
 | zero => intro w b o f i hn; rw [Bd] at hn; omega
 | succ n ih =>
 intro w b o f i hn e0 hf hb hp hk
 rw [Bd] at hn
 have hRw := hR.ext e0
 obtain ⟨aa, cc, hla, q0, q1, q2, q3, q4, qa⟩ := hf.all
 have hf0 := hf
 obtain ⟨op, nm, v, bd, args⟩ := f
 obtain ⟨hlo, hsh, _, hbl⟩ := BS hb
 have hba := Bk hsh
 obtain ⟨hk3, hkl⟩ := is_iff.1 hk
 rw [nowM_eq]
 simp only [Bv, Bool.and_eq_true, Bool.not_eq_true', Bool.or_eq_false_iff, decide_eq_false_iff_not] at hp
 obtain ⟨⟨⟨hp8, hp9⟩, hp10⟩, hpl⟩ := hp
 simp only [Fml.op, Fml.name, Fml.val, Fml.args] at hn hla q0 q1 q2 q3 q4 qa ⊢
 have hc := CP hlo
 have harg : ArgN w r (vlS S x) aa args := fun k a ha W eW => by
  obtain ⟨b', o', e, hp⟩ := qa k a ha
  have hm' := List.mem_of_getElem? ha
  have := Bp hm'
  exact ⟨b', o', e, ih W b' _ a _ (by omega) (e0.trans eW) (hp.keep eW (fun _ _ => by simp)) (hbl a hm') (pastL_mem hpl hm') (hkl a hm')⟩
 have hax : ∀ W, Ext w W → ArgN W r (vlS S x) aa args := fun W e k a ha V eV => harg k a ha V (e.trans eV)
 rcases hc with rfl | rfl | rfl | rfl | rfl | rfl | rfl | rfl | rfl | rfl | rfl | rfl
 ·exact rnow_of w r S x 77 b o _ hRw hf0 rfl _ fun W e => ralways_ok W r _
 ·exact rnow_of w r S x 78 b o _ hRw hf0 rfl _ fun W e => rnever_ok W r _
 ·exact rnow_of w r S x 79 b o _ hRw hf0 rfl _ fun W e => ris_ok W r b o S x nm v (hRw.ext e) (e.cell q1 (by simp)) (e.cell q2 (by simp)) (hk3 rfl)
 ·have hl1 : args.length = 1 := by simpa [A8] using hba
  obtain ⟨a, ha⟩ := Ck hl1
  have hno : CO (vlS S x) 4 nm v (decide (v = 1)) (args.map (BH (vlS S x))) = !BH (vlS S x) a := by rw [ha]; rfl
  rw [hno]
  exact rnow_of w r S x 80 b o _ hRw hf0 rfl _ fun W e => rnot_ok W r b o _ args a aa cc (e.cell q4 (by simp)) (hax W e) ha
 ·have hno : CO (vlS S x) 5 nm v (decide (v = 1)) (args.map (BH (vlS S x))) = args.all (BH (vlS S x)) := by rw [show CO (vlS S x) 5 nm v (decide (v = 1)) (args.map (BH (vlS S x))) = (args.map (BH (vlS S x))).all id from rfl, List.all_map]; rfl
  rw [hno]
  exact rnow_of w r S x 81 b o _ hRw hf0 rfl _ fun W e => rand_ok W r b o _ args aa cc hla (e.cell q4 (by simp)) (hax W e)
 ·have hno : CO (vlS S x) 6 nm v (decide (v = 1)) (args.map (BH (vlS S x))) = args.any (BH (vlS S x)) := by rw [show CO (vlS S x) 6 nm v (decide (v = 1)) (args.map (BH (vlS S x))) = (args.map (BH (vlS S x))).any id from rfl, List.any_map]; rfl
  rw [hno]
  exact rnow_of w r S x 82 b o _ hRw hf0 rfl _ fun W e => ror_ok W r b o _ args aa cc hla (e.cell q4 (by simp)) (hax W e)
 ·omega
 ·omega
 ·omega
 ·exact rnow_of w r S x 83 b o _ hRw hf0 rfl _ fun W e => ryest_ok W r b o _ (hf0.keep e (fun _ _ => by simp))
 ·have hl2 : args.length = 2 := by simpa [A8] using hba
  obtain ⟨a, c, ha⟩ := two_args hl2
  have hno : CO (vlS S x) 16 nm v (decide (v = 1)) (args.map (BH (vlS S x))) = (BH (vlS S x) c || (decide (v = 1) && BH (vlS S x) a)) := by rw [ha]; rfl
  rw [hno]
  exact rnow_of w r S x 84 b o _ hRw hf0 rfl _ fun W e => rsince_ok W r b o _ v args a c aa cc (e.cell q2 (by simp)) (e.cell q4 (by simp)) (hax W e) ha
 ·have hl2 : args.length = 2 := by simpa [A8] using hba
  obtain ⟨a, c, ha⟩ := two_args hl2
  have hno : CO (vlS S x) 17 nm v (decide (v = 1)) (args.map (BH (vlS S x))) = (BH (vlS S x) c && (decide (v = 1) || BH (vlS S x) a)) := by rw [ha]; rfl
  rw [hno]
  exact rnow_of w r S x 85 b o _ hRw hf0 rfl _ fun W e => rtrig_ok W r b o _ v args a c aa cc (e.cell q2 (by simp)) (e.cell q4 (by simp)) (hax W e) ha
end Go.Proofs.YtkhhjdjmhbdjfaaGreatDoor
