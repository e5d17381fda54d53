/- Formulas in memory. Rows of values in memory, formulas at an address. A node that is built: its arguments appended one by one. The table of forms. How many nodes a formula has. The nodes of a formula, one after the other: the iterator walked. The nodes of a formula: the loop around, and the number of nodes. Whether a formula has at most some nodes, and at most some depth. Names. The truth of formulas on infinite words, plain; words that repeat themselves. Residuals, plain: what is left of a formula after a letter is true of the rest of the word. Conditions: none. -/
import Derived.Test.YtkhhjdjmhbdjfaaGreatDoorQT2

namespace Go.Proofs.YtkhhjdjmhbdjfaaGreatDoor
open Go.RowKit
set_option linter.unusedVariables false
variable {mk : Prop} [MK mk]
abbrev pt (s : Nat) : Value := .pointer (some ⟨s, 0, none⟩)
theorem Aw {w : World} {B e size n g : Nat} {v : Value} {xs : List Value} (h : w.ownsRow B e size v n xs) (hg : v.ownBlock = some g) : B ≤ g ∧ g < w.heap.size := by
 rcases h.2 with ⟨rfl, _⟩ | ⟨b, cap, cur, rfl, h1, h2, _⟩
 ·cases hg
 ·cases hg; exact ⟨h1, (Array.getElem?_eq_some_iff.1 h2).1⟩
inductive FAt (ok : Nat → Prop) (w : World) : Value → Fml → Prop where
 | mk (op : Int) (name : List UInt8) (val bound : Int) (args : List Fml) (av : Value) (L : List (List Value)) (hS : Sl ok w av args.length L.flatten) (hL : L.length = args.length) (h5 : ∀ c ∈ L, c.length = 5)
   (hA : ∀ (i : Nat) (c : List Value) (g : Fml), L[i]? = some c → args[i]? = some g → FAt ok w (.agg c.toArray) g) : FAt ok w (.agg #[.int .i64 op, An name, .int .i64 val, .int .i64 bound, av]) ⟨op, name, val, bound, args⟩
theorem FAt.keep {ok : Nat → Prop} {X : List Nat} {w w' : World} {v : Value} {f : Fml} (h : FAt ok w v f) (k : Keep X w w') (hX : ∀ b, ok b → b ∉ X) : FAt ok w' v f := by
 induction h with
 | mk op name val bound args av L hS hL h5 hA ih => exact .mk op name val bound args av L (hS.keep k hX) hL h5 ih
theorem FAt.ext {ok : Nat → Prop} {w w' : World} {v : Value} {f : Fml} (h : FAt ok w v f) (k : Ext w w') : FAt ok w' v f := h.keep k fun _ _ => by simp
theorem FAt.mono {ok ok' : Nat → Prop} {w : World} {v : Value} {f : Fml} (h : FAt ok w v f) (hk : ∀ b, ok b → ok' b) : FAt ok' w v f := by
 induction h with
 | mk op name val bound args av L hS hL h5 hA ih => exact .mk op name val bound args av L (hS.mono hk) hL h5 ih
theorem Sl.lt {ok : Nat → Prop} {w : World} {v : Value} {n : Nat} {cs : List Value} (h : Sl ok w v n cs) (hc : n ≠ 0 → cs ≠ []) : Sl (fun b => ok b ∧ b < w.heap.size) w v n cs := by
 obtain ⟨a, cap, hv, h1, h2, h3, h4⟩ := h
 refine ⟨a, cap, hv, h1, h2, h3, ?_⟩
 by_cases h0 : n = 0
 ·exact .inl h0
 ·obtain ⟨b, off, ha, hb, hcc⟩ := h4.resolve_left h0
  refine .inr ⟨b, off, ha, ⟨hb, ?_⟩, hcc⟩
  match cs, hc h0 with
  | u :: cs, _ => exact World.block_lt_of_cell? w _ (hcc 0 u rfl)
theorem flatten_ne {L : List (List Value)} {n : Nat} (hL : L.length = n) (h5 : ∀ c ∈ L, c.length = 5) : n ≠ 0 → L.flatten ≠ [] := by
 intro h0 e
 match L, hL with
 | [], hL => exact h0 hL.symm
 | c :: L, _ =>
  have := h5 c (by simp)
  simp at e
  simp [e.1] at this
theorem FAt.lt {ok : Nat → Prop} {w : World} {v : Value} {f : Fml} (h : FAt ok w v f) : FAt (fun b => ok b ∧ b < w.heap.size) w v f := by
 induction h with
 | mk op name val bound args av L hS hL h5 hA ih => exact .mk op name val bound args av L (hS.lt (flatten_ne hL h5)) hL h5 ih
theorem FAt.form {ok : Nat → Prop} {w : World} {v : Value} {f : Fml} (h : FAt ok w v f) : ∃ av, v = .agg #[.int .i64 f.op, An f.name, .int .i64 f.val, .int .i64 f.bound, av] ∧
  ∃ L : List (List Value), Sl ok w av f.args.length L.flatten ∧ L.length = f.args.length ∧ (∀ c ∈ L, c.length = 5) ∧ ∀ (i : Nat) (c : List Value) (g : Fml), L[i]? = some c → f.args[i]? = some g → FAt ok w (.agg c.toArray) g := by
 cases h with
 | mk op name val bound args av L hS hL h5 hA => exact ⟨av, rfl, L, hS, hL, h5, hA⟩
theorem FAt.leaf (ok : Nat → Prop) (w : World) (op : Int) (name : List UInt8) (val bound : Int) : FAt ok w (.agg #[.int .i64 op, An name, .int .i64 val, .int .i64 bound, .slice none 0 0]) ⟨op, name, val, bound, []⟩ :=
 .mk op name val bound [] _ [] ⟨none, 0, rfl, by simp, by omega, fun _ => rfl, .inl rfl⟩ rfl (fun c hc => by cases hc) (fun i c g h => by simp at h)
def FsAt (ok : Nat → Prop) (w : World) (L : List (List Value)) (l : List Fml) : Prop :=
 L.length = l.length ∧ (∀ c ∈ L, c.length = 5) ∧ ∀ (i : Nat) (c : List Value) (g : Fml), L[i]? = some c → l[i]? = some g → FAt ok w (.agg c.toArray) g
theorem FsAt.nil (ok : Nat → Prop) (w : World) : FsAt ok w [] [] := ⟨rfl, (fun c hc => by cases hc), fun i c g h => by simp at h⟩
theorem FsAt.cons {ok : Nat → Prop} {w : World} {c : List Value} {f : Fml} {L : List (List Value)} {l : List Fml} (h : FAt ok w (.agg c.toArray) f) (hc : c.length = 5) (hl : FsAt ok w L l) : FsAt ok w (c :: L) (f :: l) := by
 refine ⟨by simp [hl.1], fun d hd => ?_, fun i d g hi hg => ?_⟩
 ·rcases List.mem_cons.1 hd with rfl | hd
  ·exact hc
  ·exact hl.2.1 d hd
 ·cases i with
  | zero => simp at hi hg; subst hi hg; exact h
  | succ i => exact hl.2.2 i d g (by simpa using hi) (by simpa using hg)
theorem FsAt.snoc {ok : Nat → Prop} {w : World} {c : List Value} {f : Fml} : ∀ {L : List (List Value)} {l : List Fml}, FsAt ok w L l → FAt ok w (.agg c.toArray) f → c.length = 5 → FsAt ok w (L ++ [c]) (l ++ [f])
 | [], [], _, h, hc => FsAt.cons h hc (FsAt.nil ok w)
 | [], _ :: _, hl, _, _ => by have := hl.1; simp at this
 | _ :: _, [], hl, _, _ => by have := hl.1; simp at this
 | d :: L, g :: l, hl, h, hc => FsAt.cons (hl.2.2 0 d g rfl rfl) (hl.2.1 d (by simp)) (FsAt.snoc ⟨by simpa using hl.1, fun c hc => hl.2.1 c (by simp [hc]), fun i c g hi hg => hl.2.2 (i + 1) c g (by simpa using hi) (by simpa using hg)⟩ h hc)
theorem FsAt.keep {ok : Nat → Prop} {X : List Nat} {w w' : World} {L : List (List Value)} {l : List Fml} (h : FsAt ok w L l) (k : Keep X w w') (hX : ∀ b, ok b → b ∉ X) : FsAt ok w' L l :=
 ⟨h.1, h.2.1, fun i c g hi hg => (h.2.2 i c g hi hg).keep k hX⟩
theorem FsAt.mono {ok ok' : Nat → Prop} {w : World} {L : List (List Value)} {l : List Fml} (h : FsAt ok w L l) (hk : ∀ b, ok b → ok' b) : FsAt ok' w L l :=
 ⟨h.1, h.2.1, fun i c g hi hg => (h.2.2 i c g hi hg).mono hk⟩
theorem FsAt.lt {ok : Nat → Prop} {w : World} {L : List (List Value)} {l : List Fml} (h : FsAt ok w L l) : FsAt (fun b => ok b ∧ b < w.heap.size) w L l :=
 ⟨h.1, h.2.1, fun i c g hi hg => (h.2.2 i c g hi hg).lt⟩
theorem FsAt.flat {ok : Nat → Prop} {w : World} {L : List (List Value)} {l : List Fml} (h : FsAt ok w L l) : L.flatten.length = l.length * 5 := by
 obtain ⟨h1, h2, h3⟩ := h
 rw [← h1]
 clear h1 h3
 induction L with
 | nil => rfl
 | cons c L ih =>
  have := h2 c (by simp)
  have := ih fun d hd => h2 d (by simp [hd])
  simp only [List.flatten_cons, List.length_append, List.length_cons]; omega
theorem FAt.node {ok : Nat → Prop} {w : World} {av : Value} {L : List (List Value)} {l : List Fml} (op : Int) (name : List UInt8) (val bound : Int) (hS : Sl ok w av l.length L.flatten) (h : FsAt ok w L l) :
  FAt ok w (.agg #[.int .i64 op, An name, .int .i64 val, .int .i64 bound, av]) ⟨op, name, val, bound, l⟩ := .mk op name val bound l av L hS h.1 h.2.1 h.2.2
theorem FAt.cells {ok : Nat → Prop} {w : World} {v : Value} {f : Fml} (h : FAt ok w v f) : ∃ c : List Value, v = .agg c.toArray ∧ c.length = 5 ∧ oneC c := by
 obtain ⟨av, rfl, L, hS, _⟩ := h.form
 obtain ⟨a, cap, rfl, _⟩ := hS
 refine ⟨_, rfl, rfl, ?_⟩
 intro u hu
 simp at hu
 rcases hu with rfl | rfl | rfl | rfl | rfl <;> rfl
def zero5 : List Value := [.int .i64 0, An [], .int .i64 0, .int .i64 0, .slice none 0 0]
theorem CV : (madeCells (Value.agg #[.int .i64 0, An [], .int .i64 0, .int .i64 0, .slice none 0 0]).cells (1 * 5)).toList = zero5 := by kernel_rfl
theorem made10 : (madeCells (Value.agg #[.int .i64 0, An [], .int .i64 0, .int .i64 0, .slice none 0 0]).cells (2 * 5)).toList = zero5 ++ zero5 := by kernel_rfl
theorem FsAt.fresh {ok : Nat → Prop} {w w' : World} {e : TypeId} {L : List (List Value)} {l : List Fml} (n : New w w' e L.flatten) (h : FsAt ok w L l) (hb : ok w.heap.size) (hl : l.length ≤ 1000000) :
  Sl ok w' (.slice (some ⟨w.heap.size, 0, none⟩) l.length l.length) l.length L.flatten ∧ FsAt ok w' L l :=
 ⟨⟨_, _, rfl, Nat.le_refl _, by omega, (fun h => by cases h), .inr ⟨_, _, rfl, hb, n.blk.cells⟩⟩, h.keep n.keep fun _ _ => by simp⟩
theorem FsAt.one {ok : Nat → Prop} {w : World} {c : List Value} {f : Fml} (h : FAt ok w (.agg c.toArray) f) (hc : c.length = 5) : FsAt ok w [c] [f] := FsAt.cons h hc (FsAt.nil ok w)
theorem FsAt.two {ok : Nat → Prop} {w : World} {c d : List Value} {f g : Fml} (h : FAt ok w (.agg c.toArray) f) (hc : c.length = 5) (h' : FAt ok w (.agg d.toArray) g) (hd : d.length = 5) : FsAt ok w [c, d] [f, g] := FsAt.cons h hc (FsAt.one h' hd)
theorem FsAt.ext {ok : Nat → Prop} {w w' : World} {L : List (List Value)} {l : List Fml} (h : FsAt ok w L l) (k : Ext w w') : FsAt ok w' L l := h.keep k fun _ _ => by simp
theorem flatten_at : ∀ (L : List (List Value)) (k j : Nat) (c : List Value) (v : Value), (∀ c ∈ L, c.length = 5) → L[k]? = some c → c[j]? = some v → L.flatten[k * 5 + j]? = some v
 | [], k, j, c, v, _, h, _ => by simp at h
 | d :: L, 0, j, c, v, h5, h, hv => by
  simp at h; subst h
  rw [List.flatten_cons, Nat.zero_mul, Nat.zero_add, List.getElem?_append_left (List.getElem?_eq_some_iff.1 hv).1]; exact hv
 | d :: L, k + 1, j, c, v, h5, h, hv => by
  have hd := h5 d (by simp)
  rw [List.flatten_cons, List.getElem?_append_right (by omega), hd, show (k + 1) * 5 + j - 5 = k * 5 + j by omega]
  exact flatten_at L k j c v (fun c hc => h5 c (by simp [hc])) (by simpa using h) hv
theorem Sl.fml {ok : Nat → Prop} {w : World} {a : Option Addr} {n cap k : Nat} {L : List (List Value)} {c : List Value} (h : Sl ok w (.slice a n cap) n L.flatten) (h5 : ∀ c ∈ L, c.length = 5) (hk : L[k]? = some c) (hn : k < n) :
  ∃ b o, a = some ⟨b, o, none⟩ ∧ ok b ∧ Cells w b (o + k * 5) c := by
 obtain ⟨a', cap', hv, h1, h2, h3, h4⟩ := h
 cases hv
 obtain ⟨b, o, rfl, hb, hc⟩ := h4.resolve_left (by omega)
 refine ⟨b, o, rfl, hb, fun j v hv => ?_⟩
 have := hc _ _ (flatten_at L k j c v h5 hk hv)
 rwa [← Nat.add_assoc] at this
def fresh (w : World) : Nat → Prop := fun b => w.heap.size ≤ b
theorem A7 {cs : List Value} (h : cs.length = 5) : ∃ c0 c1 c2 c3 c4, cs = [c0, c1, c2, c3, c4] := by
 match cs, h with
 | [c0, c1, c2, c3, c4], _ => exact ⟨_, _, _, _, _, rfl⟩
end Go.Proofs.YtkhhjdjmhbdjfaaGreatDoor
namespace Go.Proofs.YtkhhjdjmhbdjfaaGreatDoor
open Go.RowKit
set_option linter.unusedVariables false
variable {mk : Prop} [MK mk]
structure Rp (α : Type) where
 fits : (Nat → Prop) → World → List Value → α → Prop
 size : Nat
 len : ∀ {ok w c a}, fits ok w c a → c.length = size
 one : ∀ {ok w c a}, fits ok w c a → oneC c
 keep : ∀ {ok X w w' c a}, fits ok w c a → Keep X w w' → (∀ b, ok b → b ∉ X) → fits ok w' c a
 lt : ∀ {ok w c a}, fits ok w c a → fits (fun b => ok b ∧ b < w.heap.size) w c a
 mono : ∀ {ok ok' : Nat → Prop} {w c a}, fits ok w c a → (∀ b, ok b → ok' b) → fits ok' w c a
def RsAt {α : Type} (R : Rp α) (ok : Nat → Prop) (w : World) (L : List (List Value)) (l : List α) : Prop :=
 L.length = l.length ∧ ∀ (i : Nat) (c : List Value) (a : α), L[i]? = some c → l[i]? = some a → R.fits ok w c a
section
variable {α : Type} {R : Rp α} {ok : Nat → Prop} {w w' : World} {L : List (List Value)} {l : List α}
theorem RsAt.keep {X : List Nat} (h : RsAt R ok w L l) (k : Keep X w w') (hX : ∀ b, ok b → b ∉ X) : RsAt R ok w' L l := ⟨h.1, fun i c a hc ha => R.keep (h.2 i c a hc ha) k hX⟩
theorem RsAt.ext (h : RsAt R ok w L l) (k : Ext w w') : RsAt R ok w' L l := h.keep k fun _ _ => by simp
theorem RsAt.lt (h : RsAt R ok w L l) : RsAt R (fun b => ok b ∧ b < w.heap.size) w L l := ⟨h.1, fun i c a hc ha => R.lt (h.2 i c a hc ha)⟩
theorem RsAt.mono {ok' : Nat → Prop} (h : RsAt R ok w L l) (hk : ∀ b, ok b → ok' b) : RsAt R ok' w L l := ⟨h.1, fun i c a hc ha => R.mono (h.2 i c a hc ha) hk⟩
theorem RsAt.len (h : RsAt R ok w L l) : ∀ c ∈ L, c.length = R.size := by
 intro c hc
 obtain ⟨i, hi⟩ := List.getElem?_of_mem hc
 have hlt : i < l.length := by have := (List.getElem?_eq_some_iff.1 hi).1; rw [h.1] at this; exact this
 exact R.len (h.2 i c _ hi (List.getElem?_eq_getElem hlt))
theorem CT (n : Nat) : ∀ L : List (List Value), (∀ c ∈ L, c.length = n) → L.flatten.length = L.length * n
 | [], _ => by simp
 | c :: L, h => by
  have := h c (by simp)
  have ih := CT n L fun d hd => h d (by simp [hd])
  simp only [List.flatten_cons, List.length_append, List.length_cons, ih, Nat.succ_mul]; omega
theorem RsAt.flat (h : RsAt R ok w L l) : L.flatten.length = l.length * R.size := by rw [← h.1]; exact CT _ L h.len
end
def SlAt {α : Type} (R : Rp α) (ok : Nat → Prop) (w : World) (v : Value) (l : List α) : Prop := ∃ a c L, v = .slice a l.length c ∧ Sl ok w v l.length L.flatten ∧ RsAt R ok w L l
theorem Sl_ltR {α : Type} {R : Rp α} {ok : Nat → Prop} {w : World} {v : Value} {L : List (List Value)} {l : List α} (hR : 0 < R.size) (h : Sl ok w v l.length L.flatten) (h' : RsAt R ok w L l) : Sl (fun b => ok b ∧ b < w.heap.size) w v l.length L.flatten := by
 refine h.lt fun h0 e => ?_
 have := h'.flat
 rw [e] at this
 have h1 : 0 < l.length * R.size := Nat.mul_pos (by omega) hR
 simp at this; omega
def sgnC (x : Sgn) : List Value := [An x.name, .bool x.input, .int .i64 x.size]
def sgnR : Rp Sgn where
 fits _ _ c x := c = sgnC x
 size := 3
 len h := by subst h; rfl
 one h := by subst h; intro u hu; simp [sgnC] at hu; rcases hu with rfl | rfl | rfl <;> rfl
 keep h _ _ := h
 lt h := h
 mono h _ := h
theorem Ap {l : List Value} (h : l.all (fun v => v.oneCell') = true) : oneC l := fun u hu => List.all_eq_true.1 h u hu
def fmlR : Rp Fml where
 fits ok w c x := c.length = 5 ∧ FAt ok w (.agg c.toArray) x
 size := 5
 len h := h.1
 one h := by
  obtain ⟨c', e, _, h1⟩ := h.2.cells
  simp only [Value.agg.injEq] at e
  have e2 := congrArg Array.toList e
  simp only [List.toList_toArray] at e2
  exact e2 ▸ h1
 keep h k hX := ⟨h.1, h.2.keep k hX⟩
 lt h := ⟨h.1, h.2.lt⟩
 mono h hk := ⟨h.1, h.2.mono hk⟩
theorem C9 (n : Nat) : ∀ (L : List (List Value)) (k j : Nat) (c : List Value) (v : Value), (∀ c ∈ L, c.length = n) → L[k]? = some c → c[j]? = some v → L.flatten[k * n + j]? = some v
 | [], k, j, c, v, _, h, _ => by simp at h
 | d :: L, 0, j, c, v, h5, h, hv => by
  simp at h; subst h
  rw [List.flatten_cons, Nat.zero_mul, Nat.zero_add, List.getElem?_append_left (List.getElem?_eq_some_iff.1 hv).1]; exact hv
 | d :: L, k + 1, j, c, v, h5, h, hv => by
  have hd := h5 d (by simp)
  rw [List.flatten_cons, List.getElem?_append_right (by rw [hd, Nat.succ_mul]; omega), hd, show (k + 1) * n + j - n = k * n + j by rw [Nat.succ_mul]; omega]
  exact C9 n L k j c v (fun c hc => h5 c (by simp [hc])) (by simpa using h) hv
theorem Sl.recs {α : Type} {R : Rp α} {ok : Nat → Prop} {w : World} {a : Option Addr} {n cap k sz : Nat} {L : List (List Value)} {l : List α} {c : List Value} (h : Sl ok w (.slice a n cap) n L.flatten) (hR : RsAt R ok w L l) (hsz : R.size = sz) (hk : L[k]? = some c) (hn : k < n) :
  ∃ b o, a = some ⟨b, o, none⟩ ∧ ok b ∧ Cells w b (o + k * sz) c := by
 obtain ⟨a', cap', hv, h1, h2, h3, h4⟩ := h
 cases hv
 obtain ⟨b, o, rfl, hb, hc⟩ := h4.resolve_left (by omega)
 refine ⟨b, o, rfl, hb, fun j v hv => ?_⟩
 have := hc _ _ (C9 sz L k j c v (fun c hc => by rw [hR.len c hc, hsz]) hk hv)
 rwa [← Nat.add_assoc] at this
theorem SlAt.ext {α : Type} {R : Rp α} {ok : Nat → Prop} {w w' : World} {v : Value} {l : List α} (h : SlAt R ok w v l) (k : Ext w w') : SlAt R ok w' v l := by
 obtain ⟨a, c, L, e, h1, h2⟩ := h
 exact ⟨a, c, L, e, h1.ext k, h2.ext k⟩
theorem SlAt.mono {α : Type} {R : Rp α} {ok ok' : Nat → Prop} {w : World} {v : Value} {l : List α} (h : SlAt R ok w v l) (hk : ∀ b, ok b → ok' b) : SlAt R ok' w v l := by
 obtain ⟨a, c, L, e, h1, h2⟩ := h
 exact ⟨a, c, L, e, h1.mono hk, h2.mono hk⟩
abbrev FV (w : World) (v : Value) (f : Fml) : Prop := FAt As w v f
def fcC (f : Fml) (av : Value) : List Value := [.int .i64 f.op, An f.name, .int .i64 f.val, .int .i64 f.bound, av]
def PF (ok : Nat → Prop) (w : World) (b o : Nat) (f : Fml) : Prop := ok b ∧ ∃ d : List Value, d.length = 5 ∧ Cells w b o d ∧ FAt ok w (.agg d.toArray) f
theorem PF.keep {ok : Nat → Prop} {X : List Nat} {w w' : World} {b o : Nat} {f : Fml} (h : PF ok w b o f) (k : Keep X w w') (hX : ∀ b, ok b → b ∉ X) : PF ok w' b o f := by
 obtain ⟨hb, d, hd, hc, hf⟩ := h
 exact ⟨hb, d, hd, hc.keep k (hX b hb), hf.keep k hX⟩
theorem PF.lt {ok : Nat → Prop} {w : World} {b o : Nat} {f : Fml} (h : PF ok w b o f) : PF (fun b => ok b ∧ b < w.heap.size) w b o f := by
 obtain ⟨hb, d, hd, hc, hf⟩ := h
 obtain ⟨d0, d1, d2, d3, d4, rfl⟩ := A7 hd
 exact ⟨⟨hb, World.block_lt_of_cell? w _ (hc 0 _ rfl)⟩, _, rfl, hc, hf.lt⟩
theorem PF.mono {ok ok' : Nat → Prop} {w : World} {b o : Nat} {f : Fml} (h : PF ok w b o f) (hk : ∀ b, ok b → ok' b) : PF ok' w b o f := by
 obtain ⟨hb, d, hd, hc, hf⟩ := h
 exact ⟨hk b hb, d, hd, hc, hf.mono hk⟩
theorem PF.form {ok : Nat → Prop} {w : World} {b o : Nat} {f : Fml} (h : PF ok w b o f) : ok b ∧ ∃ a c L, Cells w b o (fcC f (.slice a f.args.length c)) ∧ Sl ok w (.slice a f.args.length c) f.args.length L.flatten ∧ FsAt ok w L f.args := by
 obtain ⟨hb, d, hd, hc, hf⟩ := h
 obtain ⟨av, e, L, hS, h1, h2, h3⟩ := hf.form
 obtain ⟨a, c, rfl, _⟩ := id hS
 have e := congrArg Array.toList (Value.agg.inj e)
 have e : d = fcC f (.slice a f.args.length c) := e
 subst e
 exact ⟨hb, a, c, L, hc, hS, h1, h2, h3⟩
section
variable {P : Program} {all : Array Oper} {Z : Fr → DS → List PanicEntry → World → Prop} {K : Fr → DS → World → Prop} {rest : List Oper} {f : Fr} {ds : DS} {w : World}
 {d : Nat} {ty ty' : TypeId} {pos pos' : String} {af af' : Array Edge}
theorem splice_full (L cs : List Value) (h : cs.length = L.length) : splice L 0 cs = cs := by
 simp [splice, h]
theorem Cv {T n : Nat} {x : Operand} {cs z : List Value} [hZ : Cb P T z] [hT : CM P T n] (hx : ev (upd f d (.pointer (some ⟨w.heap.size, 0, none⟩))) x = .agg cs.toArray) (hn : cs.length = n) (hz : z.length = n) (h1 : oneC cs)
  (h : ∀ w', New w w' T cs → AX P all Z K rest (upd f d (.pointer (some ⟨w.heap.size, 0, none⟩))) ds w') :
  AX P all Z K (⟨some d, .alloc T, ty, pos, af, none⟩ :: ⟨none, .store T (.tmp d) x, ty', pos', af', none⟩ :: rest) f ds w := by
 refine Ar (L := z) fun w1 n1 => ?_
 refine AU (b := w.heap.size) (o := 0) (cs := cs) (by simp [ev, upd]) hx hn h1 n1.blk (by omega) fun w2 p2 => ?_
 have e := p2.blk
 rw [splice_full z cs (by omega)] at e
 refine h w2 ⟨n1.keep.keep p2.keep (by simp), by rw [p2.size, n1.size], e⟩
theorem W_storeF {T bt b : Nat} {a x : Operand} {v : Value} {g : Fml} {ok : Nat → Prop} {L : List Value} [hT : CM P T 5] (ha : ev f a = .pointer (some ⟨b, 0, none⟩)) (hx : ev f x = v) (hf : FAt ok w v g) (hb : Blk w b bt L) (hL : L.length = 5)
  (h : ∀ w' cs, v = .agg cs.toArray → cs.length = 5 → Keep [b] w w' → w'.heap.size = w.heap.size → Blk w' b bt cs → AX P all Z K rest f ds w') :
  AX P all Z K (⟨none, .store T a x, ty, pos, af, none⟩ :: rest) f ds w := by
 obtain ⟨cs, rfl, hcs, hone⟩ := hf.cells
 refine AU (cs := cs) ha hx hcs hone hb (by omega) fun w' p => ?_
 have e := p.blk
 rw [splice_full L cs (by omega)] at e
 exact h w' cs rfl hcs p.keep p.size e
end
end Go.Proofs.YtkhhjdjmhbdjfaaGreatDoor
namespace Go.Proofs.YtkhhjdjmhbdjfaaGreatDoor
open Go.RowKit
set_option linter.unusedVariables false
variable {mk : Prop} [MK mk]
theorem own_oneC {w : World} {B e size n : Nat} {v : Value} {xs : List Value} (h : w.ownsRow B e size v n xs) : v.oneCell' = true := by
 rcases h.2 with ⟨rfl, _⟩ | ⟨g, cap, cur, rfl, _⟩ <;> rfl
structure Bld (w W : World) (c : Nat) (op : Int) (nm : List UInt8) (val bd : Int) (l : List Fml) (v : Value) (L : List (List Value)) : Prop where
 blk : Blk W c 25 [.int .i64 op, An nm, .int .i64 val, .int .i64 bd, v]
 own : W.ownsRow w.heap.size 25 5 v l.length L.flatten
 fs : FsAt (fun b => (w.heap.size ≤ b ∧ b ≠ c) ∧ v.ownBlock ≠ some b) W L l
 ne : ∀ g, v.ownBlock = some g → g ≠ c
theorem Bld.ext {w W W' : World} {c : Nat} {op val bd : Int} {nm : List UInt8} {l : List Fml} {v : Value} {L : List (List Value)} (h : Bld w W c op nm val bd l v L) (k : Ext W W') : Bld w W' c op nm val bd l v L :=
 ⟨h.blk.keep k (by simp), A4 h.own k, h.fs.ext k, h.ne⟩
theorem Bld.start {w W : World} {c : Nat} {op val bd : Int} {nm : List UInt8} (h : Blk W c 25 [.int .i64 op, An nm, .int .i64 val, .int .i64 bd, .slice none 0 0]) : Bld w W c op nm val bd [] (.slice none 0 0) [] :=
 ⟨h, ⟨rfl, .inl ⟨rfl, rfl⟩⟩, FsAt.nil _ _, fun g hg => by cases hg⟩
theorem Bld.fin {w W : World} {c : Nat} {op val bd : Int} {nm : List UInt8} {l : List Fml} {v : Value} {L : List (List Value)} (h : Bld w W c op nm val bd l v L) : FAt (fun b => w.heap.size ≤ b ∧ b ≠ c) W (.agg #[.int .i64 op, An nm, .int .i64 val, .int .i64 bd, v]) ⟨op, nm, val, bd, l⟩ :=
 FAt.node op nm val bd (Az h.own fun g hg => ⟨(Aw h.own hg).1, h.ne g hg⟩) (h.fs.mono fun b hb => hb.1)
theorem Bld.push {w W W1 W2 W3 : World} {c B : Nat} {op val bd : Int} {nm : List UInt8} {l : List Fml} {v v7 : Value} {L : List (List Value)} {e T : TypeId} {cs : List Value} {g : Fml} (h : Bld w W c op nm val bd l v L) (hc : w.heap.size ≤ c ∧ c < B) (hB : ∀ g, v.ownBlock = some g → g < B) (hwB : w.heap.size ≤ B) (hBW : B ≤ W.heap.size)
  (hf : FAt (fun b => B ≤ b) W (.agg cs.toArray) g) (hcs : cs.length = 5) (n : New W W1 e cs) (a : Apd W1 W2 w.heap.size 25 5 v v7 (l.length + 1) (L.flatten ++ cs))
  (p : Put W2 W3 c T [.int .i64 op, An nm, .int .i64 val, .int .i64 bd, v7]) (hT : T = 25) : Bld w W3 c op nm val bd (l ++ [g]) v7 (L ++ [cs]) ∧ Keep (c :: v.ownBlock.toList) W W3 := by
 subst hT
 have z1 := n.size
 have hv7 : ∀ b, v7.ownBlock = some b → v.ownBlock = some b ∨ b = W1.heap.size := fun b hb => by
  rcases a.blk with e | e
  ·exact .inl (by rw [← e]; exact hb)
  ·rw [e] at hb; exact .inr (Option.some.inj hb).symm
 have hn7 : ∀ b, v7.ownBlock = some b → b ≠ c := fun b hb => by
  rcases hv7 b hb with e | e
  ·exact h.ne b e
  ·omega
 have hmem : ∀ {b}, b ∈ v.ownBlock.toList → v.ownBlock = some b := fun hx => Option.mem_toList.1 hx
 refine ⟨⟨p.blk, ?_, FsAt.snoc ?_ ?_ hcs, hn7⟩, ?_⟩
 ·have := Ag a.own p.keep (fun b hb => by simpa using hn7 b hb)
  rw [List.length_append, List.flatten_append]
  simpa using this
 ·refine ((((h.fs.lt).ext n.keep).keep a.keep ?_).keep p.keep ?_).mono ?_
  ·rintro b ⟨⟨_, hb⟩, _⟩ hx; exact hb (hmem hx)
  ·rintro b ⟨⟨⟨_, hb⟩, _⟩, _⟩; simpa using hb
  ·rintro b ⟨⟨⟨h1, h2⟩, hb⟩, hlt⟩
   refine ⟨⟨h1, h2⟩, fun e => ?_⟩
   rcases hv7 b e with e | e
   ·exact hb e
   ·omega
 ·refine ((((hf.lt).ext n.keep).keep a.keep ?_).keep p.keep ?_).mono ?_
  ·rintro b ⟨h1, _⟩ hx; have := hB b (hmem hx); omega
  ·rintro b ⟨h1, _⟩; simp; omega
  ·rintro b ⟨h1, hlt⟩
   refine ⟨⟨by omega, by omega⟩, fun e => ?_⟩
   rcases hv7 b e with e | e
   ·have := hB b e; omega
   ·omega
 ·refine ((n.keep.any.trans a.keep ?_).trans p.keep ?_)
  ·intro x hx _; exact List.mem_cons_of_mem _ hx
  ·intro x hx _; simp at hx; subst hx; exact List.mem_cons_self ..
end Go.Proofs.YtkhhjdjmhbdjfaaGreatDoor
namespace Go.Proofs.YtkhhjdjmhbdjfaaGreatDoor
open Go.RowKit
set_option linter.unusedVariables false
variable {mk : Prop} [MK mk]
structure Form where
 least : Int
 most : Int
 val : Int
 bound : Int
 named : Bool
 past : Bool
 future : Bool
 loose : Bool
def formsL : List Form := [⟨0, 0, 0, 0, false, false, false, false⟩, ⟨0, 0, 0, 0, false, false, false, true⟩, ⟨0, 0, 0, 0, false, false, false, true⟩, ⟨0, 0, 3, 0, true, false, false, true⟩, ⟨1, 1, 0, 0, false, false, false, true⟩,
 ⟨2, 1099511627776, 0, 0, false, false, false, true⟩, ⟨2, 1099511627776, 0, 0, false, false, false, true⟩, ⟨2, 2, 0, 0, false, false, false, false⟩, ⟨1, 1, 0, 0, false, false, true, true⟩, ⟨2, 2, 0, 0, false, false, true, true⟩,
 ⟨2, 2, 0, 0, false, false, true, true⟩, ⟨1, 1, 0, 0, false, false, true, false⟩, ⟨1, 1, 0, 0, false, false, true, false⟩, ⟨1, 1, 0, 9, false, false, true, false⟩, ⟨1, 1, 0, 9, false, false, true, false⟩,
 ⟨1, 1, 1, 0, false, true, false, true⟩, ⟨2, 2, 1, 0, false, true, false, true⟩, ⟨2, 2, 1, 0, false, true, false, true⟩, ⟨1, 1, 0, 0, false, true, false, false⟩, ⟨1, 1, 0, 0, false, true, false, false⟩]
def Bj (x : Form) : List Value := [.int .i64 x.least, .int .i64 x.most, .int .i64 x.val, .int .i64 x.bound, .bool x.named, .bool x.past, .bool x.future, .bool x.loose]
def formC : List Value := formsL.flatMap Bj
def GF (w : World) : Prop := Cells w 0 0 formC
theorem GF.keep {X : List Nat} {w w' : World} (h : GF w) (k : Keep X w w') (hX : ∀ x ∈ X, 3 ≤ x) : GF w' := Cells.keep h k (fun hx => by have := hX _ hx; revert this; decide)
theorem GF.ext {w w' : World} (h : GF w) (k : Ext w w') : GF w' := h.keep k fun x hx => by cases hx
def zeroForm : Form := ⟨0, 0, 0, 0, false, false, false, false⟩
def isOpB (n : Int) : Bool := decide (1 ≤ n) && decide (n < 20)
def BR (n : Int) : Form := if isOpB n then formsL.getD n.toNat zeroForm else zeroForm
theorem formC_at : ∀ (l : List Form) (k i : Nat) (x : Form) (u : Value), l[k]? = some x → (Bj x)[i]? = some u → (l.flatMap Bj)[k * 8 + i]? = some u
 | [], _, _, _, _, h, _ => by simp at h
 | y :: l, 0, i, x, u, h, hu => by
  obtain rfl : y = x := by simpa using h
  rw [List.flatMap_cons, Nat.zero_mul, Nat.zero_add, List.getElem?_append_left (List.getElem?_eq_some_iff.1 hu).1, hu]
 | y :: l, k + 1, i, x, u, h, hu => by
  have := formC_at l k i x u (by simpa using h) hu
  rw [List.flatMap_cons, List.getElem?_append_right (by simp [Bj]; omega), show (k + 1) * 8 + i - (Bj y).length = k * 8 + i by simp [Bj]; omega, this]
theorem formC_one (x : Form) : oneC (Bj x) := by
 intro u hu
 simp [Bj] at hu
 rcases hu with rfl | rfl | rfl | rfl | rfl | rfl | rfl | rfl <;> rfl
theorem formOf_ok (w : World) (n : Int) (hG : GF w) : Fn Tryz.prog 106 [.int .i64 n] w fun v w' => v = .tuple #[.agg (Bj (BR n)).toArray, .bool (isOpB n)] ∧ Ext w w' := by
 refine AR Tryz.func106 rfl Tryz.ntmps106 (Nat.le_of_ble_eq_true rfl) (by kernel_rfl) ?_
 repeat refine nx rfl ?_
 (refine AA ?_; refine Ar (fun w1 n1 => ?_))
 have b1 : Blk w1 w.heap.size 121 (Bj zeroForm) := n1.blk
 have k1 := n1.keep
 refine AC (AB rfl ?_)
 repeat refine nx rfl ?_
 by_cases hn : 1 ≤ n ∧ n < 20
 ·have hb : isOpB n = true := by simp [isOpB, hn]
  obtain ⟨k, rfl⟩ : ∃ k : Nat, n = (k : Int) := ⟨n.toNat, by omega⟩
  obtain ⟨x, hx⟩ : ∃ x, formsL[k]? = some x := ⟨_, List.getElem?_eq_getElem (by show k < 20; omega)⟩
  have hm : BR (k : Int) = x := by unfold BR; rw [if_pos hb]; simp [List.getD_eq_getElem?_getD, hx]
  have hcl : Cells w1 0 (0 + (k : Int).toNat * 8) (Bj x) := by
   intro i u hu
   have := (hG.ext k1) (k * 8 + i) u (formC_at formsL k i x u hx hu)
   rw [Nat.add_assoc]; exact this
  rw [hb, hm]
  refine AA (AG rfl (Aj rfl rfl (by omega) (AB rfl (AE rfl (AG rfl (AE rfl (CD rfl rfl (by omega) (AJ rfl (AB rfl ?_)))))))))
  repeat first | refine nx rfl ?_ | refine nf rfl ?_
  refine AA (AG rfl ?_)
  refine W_indexArr rfl rfl (by omega) (by omega) ?_
  refine Ao (L := Bj x) rfl rfl hcl ?_
  refine AU (cs := Bj x) rfl rfl rfl (formC_one x) b1 (by simp [Bj]) (fun w2 p2 => ?_)
  refine AC (AB rfl ?_)
  repeat refine nx rfl ?_
  exact fin_retA1 (L := Bj x) rfl rfl rfl p2.blk.cells ⟨rfl, k1.keep p2.keep (by simp)⟩
 ·have hb : isOpB n = false := by simp [isOpB]; omega
  have hm : BR n = zeroForm := by unfold BR; rw [if_neg (by simp [hb])]
  rw [hb, hm]
  (refine AA (AG rfl ?_) <;> (refine W_lss rfl rfl (fun hc => ?_) (fun hc => ?_) <;> try omega) <;> refine AB rfl ?_ <;> (first | refine AL rfl ?_ | (refine AE rfl ?_; refine AG rfl ?_)) <;> (first | refine AL rfl ?_ | (refine AE rfl ?_; refine BC rfl rfl (by omega) ?_)) <;> ((first | refine AK rfl ?_ | refine AJ rfl ?_); refine AB rfl ?_) <;> refine AO ?_)
  all_goals
   repeat refine nx rfl ?_
   refine AA (BE (by rfl) (by rfl) ?_)
   refine AU (cs := Bj zeroForm) rfl rfl rfl (formC_one _) b1 (by simp [Bj]) (fun w2 p2 => ?_)
   refine AC (AB rfl ?_)
   repeat refine nx rfl ?_
   exact fin_retA1 (L := Bj zeroForm) rfl rfl rfl p2.blk.cells ⟨rfl, k1.keep p2.keep (by simp)⟩
end Go.Proofs.YtkhhjdjmhbdjfaaGreatDoor
namespace Go.Proofs.YtkhhjdjmhbdjfaaGreatDoor
set_option linter.unusedVariables false
mutual
def szF : Fml → Nat
 | .mk _ _ _ _ args => szL args + 1
def szL : List Fml → Nat
 | [] => 0
 | a :: l => szF a + szL l
end
theorem BW (f : Fml) : szF f = szL f.args + 1 := by cases f; simp [szF, Fml.args]
theorem szF_pos (f : Fml) : 1 ≤ szF f := by rw [BW]; omega
theorem CQ : ∀ l : List Fml, l.length ≤ szL l
 | [] => by simp
 | a :: l => by have := szF_pos a; have := CQ l; simp only [szL, List.length_cons]; omega
theorem BY : ∀ {l : List Fml} {a : Fml}, a ∈ l → szF a ≤ szL l
 | c :: l, a, h => by
  simp only [szL]
  rcases List.mem_cons.1 h with rfl | h
  ·omega
  ·have := BY h; omega
mutual
def dpF : Fml → Nat
 | .mk _ _ _ _ args => dpL args + 1
def dpL : List Fml → Nat
 | [] => 0
 | f :: l => max (dpF f) (dpL l)
end
theorem Bd (f : Fml) : dpF f = dpL f.args + 1 := by cases f; simp [dpF, Fml.args]
theorem Bp : ∀ {l : List Fml} {a : Fml}, a ∈ l → dpF a ≤ dpL l
 | c :: l, a, h => by
  simp only [dpL]
  rcases List.mem_cons.1 h with rfl | h
  ·omega
  ·have := Bp h; omega
end Go.Proofs.YtkhhjdjmhbdjfaaGreatDoor
namespace Go.Proofs.YtkhhjdjmhbdjfaaGreatDoor
open Go.RowKit
set_option linter.unusedVariables false
variable {mk : Prop} [MK mk]
abbrev Nd := Fml × Bool
mutual
def Ct (i : Bool) : Fml → List Nd
 | .mk op nm v b args => (.mk op nm v b args, i) :: CW (i || (BR op).past) args
def CW (i : Bool) : List Fml → List Nd
 | [] => []
 | f :: l => Ct i f ++ CW i l
end
theorem preF_eq (i : Bool) (f : Fml) : Ct i f = (f, i) :: CW (i || (BR f.op).past) f.args := by cases f; simp [Ct, Fml.args, Fml.op]
theorem preL_app (i : Bool) : ∀ l m : List Fml, CW i (l ++ m) = CW i l ++ CW i m
 | [], m => rfl
 | f :: l, m => by simp [CW, preL_app i l m]
theorem preL_take (i : Bool) {l : List Fml} {k : Nat} {x : Fml} (h : l[k]? = some x) : CW i (l.take (k + 1)) = CW i (l.take k) ++ Ct i x := by
 rw [List.take_add_one, h, Option.toList_some, preL_app]; simp [CW]
structure NodesR (yv : Value) (X : List Nat) (B : Nat) (P : List Nd) (J D : List Nd → World → Prop) : Prop where
 fn : ∃ y, yv = .func (.yield y) #[] #[]
 glob : ∀ x ∈ X, 3 ≤ x
 keep : ∀ {L : List Nd} {W W' : World} {Y : List Nat}, J L W → Keep Y W W' → (∀ y ∈ Y, B ≤ y) → J L W'
 step : ∀ {L : List Nd} {W : World} {b o : Nat} {f : Fml} {i : Bool}, J L W → PF (fun b => b ∉ X ∧ b < B) W b o f → L ++ [(f, i)] <+: P → YldP Tryz.prog yv [.pointer (some ⟨b, o, none⟩), .bool i] W (fun v W' => Keep X W W' ∧ ((v = .bool true ∧ J (L ++ [(f, i)]) W') ∨ (v = .bool false ∧ D (L ++ [(f, i)]) W'))) fun _ _ => False
theorem PF.opc {ok : Nat → Prop} {w : World} {b o : Nat} {f : Fml} (h : PF ok w b o f) : w.cell? ⟨b, o + 0, none⟩ = some (.int .i64 f.op) := by
 obtain ⟨_, a, c, L, hc, _⟩ := h.form
 exact hc 0 _ rfl
theorem PF.arg {ok : Nat → Prop} {w : World} {b o : Nat} {f : Fml} (h : PF ok w b o f) : ∃ a c, f.args.length ≤ 9223372036854775807 ∧ w.cell? ⟨b, o + 4, none⟩ = some (.slice a f.args.length c) ∧ ∀ (k : Nat) (x : Fml), f.args[k]? = some x → ∃ b' o', a = some ⟨b', o', none⟩ ∧ PF ok w b' (o' + k * 5) x := by
 obtain ⟨_, a, c, L, hc, hS, h1, h2, h3⟩ := h.form
 refine ⟨a, c, by obtain ⟨_, _, hv, g1, g2, _⟩ := id hS; cases hv; omega, hc 4 _ rfl, fun k x hx => ?_⟩
 have hlt : k < f.args.length := (List.getElem?_eq_some_iff.1 hx).1
 obtain ⟨d, hd⟩ : ∃ d, L[k]? = some d := ⟨_, List.getElem?_eq_getElem (by omega)⟩
 obtain ⟨b', o', rfl, hb, hcx⟩ := hS.fml h2 hd hlt
 exact ⟨b', o', rfl, hb, d, h2 d (List.mem_of_getElem? hd), hcx, h3 k d x hd hx⟩
theorem NodesR.ext {yv : Value} {X : List Nat} {B : Nat} {P : List Nd} {J D : List Nd → World → Prop} (H : NodesR yv X B P J D) {L : List Nd} {W W' : World} (h : J L W) (k : Ext W W') : J L W' := H.keep h k fun _ h => by cases h
theorem visit_ok {yv : Value} {X : List Nat} {B : Nat} {P : List Nd} {J D : List Nd → World → Prop} (H : NodesR yv X B P J D) (c3 c4 c5 : Nat) (h4 : c4 ∉ X) (h5 : c5 ∉ X) : ∀ (n : Nat) (w : World) (b o : Nat) (f : Fml) (i : Bool) (d : Nat) (L : List Nd), dpF f ≤ n → d + n ≤ 5000 → PF (fun b => b ∉ X ∧ b < B) w b o f → GF w →
  Blk w c4 147 [yv] → Blk w c5 151 [.func (.func 139) #[] #[pt c3, pt c4, pt c5]] → J L w → L ++ Ct i f <+: P →
  Fn Tryz.prog 139 [.pointer (some ⟨b, o, none⟩), .bool i, .int .i64 d, pt c3, pt c4, pt c5] w fun v w' => Keep X w w' ∧ ((v = .bool true ∧ J (L ++ Ct i f) w') ∨ (v = .bool false ∧ ∃ M, M <+: Ct i f ∧ M ≠ [] ∧ D (L ++ M) w')) := by
 intro n
 induction n with
 | zero => intro w b o f i d L hn; rw [Bd] at hn; omega
 | succ n ih =>
 intro w b o f i d L hn hd hf hG b4 b5 hJ hP
 rw [Bd] at hn
 have hdl : d < 5000 := by omega
 obtain ⟨y, rfl⟩ := H.fn
 refine AR Tryz.func139 rfl Tryz.ntmps139 (Nat.le_of_ble_eq_true rfl) (by kernel_rfl) ?_
 repeat refine nx rfl ?_
 refine AA (AC (AB rfl ?_))
 repeat refine nx rfl ?_
 refine AA (AG rfl (AT rfl rfl (by omega) ?_))
 repeat first | refine nx rfl ?_ | refine nf rfl ?_
 (refine AA (AF rfl (Blk.cell (by assumption) (by rfl)) ?_) <;> refine AP rfl (AB rfl ?_))
 refine W_yield rfl rfl (H.step hJ hf (((List.prefix_append_right_inj L).2 (by rw [preF_eq]; exact ⟨_, rfl⟩)).trans hP)) ?_
 rintro _ w1 ⟨k1, hr⟩
 rcases hr with ⟨rfl, hJ1⟩ | ⟨rfl, hD⟩
 case inr =>
  refine Ak rfl ?_
  repeat refine nx rfl ?_
  refine AA (AC (AB rfl ?_))
  repeat refine nx rfl ?_
  exact AI rfl ⟨k1, .inr ⟨rfl, [(f, i)], by rw [preF_eq]; exact ⟨_, rfl⟩, by simp, hD⟩⟩
 have hf1 := hf.keep k1 (fun _ h => h.1)
 have hG1 := hG.keep k1 H.glob
 have b41 := b4.keep k1 h4
 have b51 := b5.keep k1 h5
 refine Ak rfl ?_
 repeat first | refine nx rfl ?_ | refine nf rfl ?_
 have hop := hf1.opc
 refine AA (AP rfl (AH rfl (AD rfl (AF rfl (by assumption) ?_))))
 refine AQ (formOf_ok w1 f.op hG1) rfl ?_
 rintro _ w2 ⟨rfl, k2⟩
 refine Cj rfl (BA rfl rfl (BA rfl rfl ?_))
 refine Cv (cs := Bj (BR f.op)) rfl rfl (by rfl) (formC_one _) (fun w3 n3 => ?_)
 refine AC (AB rfl ?_)
 repeat refine nx rfl ?_
 have k3 := k2.trans n3.keep
 have b3 := n3.blk
 have hf3 := hf1.keep k3 (fun _ _ => by simp)
 have hG3 := hG1.ext k3
 have b43 := b41.keep k3 (by simp)
 have b53 := b51.keep k3 (by simp)
 have k13 : Keep X w w3 := k1.ext k3
 have hJ3 := H.ext hJ1 k3
 have hpast : w3.cell? ⟨w2.heap.size, 0 + 5, none⟩ = some (.bool (BR f.op).past) := b3.cell rfl
 obtain ⟨a3, cc3, hal, hargs3, _⟩ := hf3.arg
 cases i with
 | true =>
  refine AA (AB rfl (AB rfl (AL rfl (AL rfl (AK rfl (AB rfl (AC (AB rfl ?_))))))))
  repeat refine nx rfl ?_
  (refine AA (AP rfl (AH rfl (AD rfl (AF rfl (by assumption) ?_)))) <;> refine AZ rfl (AG rfl ?_))
  repeat refine nx rfl ?_
  refine A3 (α := Nat) (fun k => [(0, .pointer (some ⟨b, o, none⟩)), (1, .bool true), (2, .int .i64 (d : Int)), (5, pt c5), (43, .int .i64 (f.args.length : Int)), (44, .int .i64 (k : Int))]) (fun k W => k ≤ f.args.length ∧ Keep X w W ∧ Ext w3 w3 ∧ J (L ++ ((f, true) :: CW true (f.args.take k))) W ∧ GF W ∧ PF (fun b => b ∉ X ∧ b < B) W b o f ∧ Blk W c4 147 [.func (.yield y) #[] #[]] ∧ Blk W c5 151 [.func (.func 139) #[] #[pt c3, pt c4, pt c5]]) (fun k => f.args.length - k) 0 ⟨rfl, rfl, rfl, rfl, rfl, rfl, trivial⟩ ⟨by omega, k13, Ext.refl _, by simpa [CW] using hJ3, hG3, hf3, b43, b53⟩ ?_
  rintro k W fr ⟨hk, kW, _, hJW, hGW, hfW, b4W, b5W⟩
  repeat refine nx rfl ?_
  by_cases hlt : k < f.args.length
  ·refine AA (At rfl rfl (by omega) ?_)
   repeat refine nx rfl ?_
   refine AA (AG rfl (AC (AG rfl ?_)))
   repeat refine nx rfl ?_
   obtain ⟨x, hx⟩ : ∃ x, f.args[k]? = some x := ⟨_, List.getElem?_eq_getElem hlt⟩
   obtain ⟨aa, cc, _, hargs, hel⟩ := hfW.arg
   obtain ⟨b', o', rfl, hfx⟩ := hel k x hx
   have hfa : f.args = f.args.take k ++ x :: f.args.drop (k + 1) := by
    have := List.take_append_drop k f.args
    rw [List.drop_eq_getElem_cons hlt, (List.getElem?_eq_some_iff.1 hx).2] at this
    exact this.symm
   have hpe : CW true f.args = CW true (f.args.take k) ++ (Ct true x ++ CW true (f.args.drop (k + 1))) := by
    conv => lhs; rw [hfa, preL_app]
    simp [CW]
   have hPx : (L ++ ((f, true) :: CW true (f.args.take k))) ++ Ct true x <+: P := by
    refine List.IsPrefix.trans ?_ hP
    rw [preF_eq true f, List.append_assoc, List.prefix_append_right_inj]
    show _ <+: (f, true) :: CW true f.args
    rw [hpe, List.cons_append, List.prefix_cons_inj, List.prefix_append_right_inj]
    exact List.prefix_append _ _
   have hdx : dpF x ≤ n := by have := Bp (List.mem_of_getElem? hx); omega
   refine Ad (.read 0 (.read 1 (.read 2 (.read 3 (.read 4 (.read 5 (.read 6 (.read 7 (.read 8 (.read 9 (.alt 10 (.read 11 .done) .stop))))))))))) Ax (by kernel_rfl) (fun wd kd ed => ⟨Keep X wd, ?_, ?_⟩)
   ·exact Keep.refl _ _
   have ca : ∀ V, Keep X wd V → V.cell? ⟨c5, 0, none⟩ = some (.func (.func 139) #[] #[pt c3, pt c4, pt c5]) := fun V e => ((b5W.keep kd (by simp)).keep e h5).cell rfl
   have cb : ∀ V, Keep X wd V → V.cell? ⟨b, o + 4, none⟩ = some (.slice (some ⟨b', o', none⟩) f.args.length cc) := fun V e => e.cell (kd.cell hargs (by simp)) hfW.1.1
   (refine D_R rfl rfl (fun W hW => AF rfl (ca W hW) Z3) (D_R rfl rfl (fun W hW => AP rfl Z3) (D_R rfl rfl (fun W hW => AH rfl Z3) (D_R rfl rfl (fun W hW => AD rfl Z3) (D_R rfl rfl (fun W hW => AF rfl (cb W hW) Z3) (D_R rfl rfl (fun W hW => AG rfl Z3) (D_R rfl rfl (fun W hW => Au rfl rfl rfl (by omega) Z3) (D_R rfl rfl (fun W hW => AB rfl Z3) (D_R rfl rfl (fun W hW => AG rfl Z3) ?_)))))))) <;> (apply D_R rfl rfl; (intro W hW; refine Av rfl rfl (by first | exact AV (by omega) (by omega) | exact AY (by omega) (by omega) | exact AW (by omega) (by omega)) ?_; exact Z3)))
   refine D_E rfl ?_
   refine BO (v1 := []) (v2 := [pt c3, pt c4, pt c5]) (vs := [.pointer (some ⟨b', o' + k * 5, none⟩), .bool true, .int .i64 ((d : Int) + 1)]) rfl (ih wd b' (o' + k * 5) x true (d + 1) _ hdx (by omega) (hfx.keep kd (fun _ _ => by simp)) (hGW.ext kd) (b4W.keep kd (by simp)) (b5W.keep kd (by simp)) (H.ext hJW kd) hPx) rfl ?_
   rintro _ w4 ⟨k4, hr⟩
   refine AO ⟨Keep X wd, fun _ e => e, k4, ?_⟩
   have kW4 : Keep X w w4 := (kW.ext kd).trans k4 (fun _ hx _ => hx)
   rcases hr with ⟨rfl, hJ4⟩ | ⟨rfl, M, hM1, hM2, hD⟩
   ·refine D_R rfl rfl (fun W hW => Ak rfl Z3) (Ah ?_)
    repeat first | refine nx rfl ?_ | refine nf rfl ?_
    (refine AA (Av rfl rfl (by first | exact AV (by omega) (by omega) | exact AY (by omega) (by omega) | exact AW (by omega) (by omega)) ?_) <;> refine AG rfl ?_)
    repeat refine nx rfl ?_
    refine ⟨k + 1, ⟨rfl, ⟨rfl, rfl, rfl, rfl, rfl, ?_, trivial⟩, ⟨by omega, kW4, Ext.refl _, ?_, (hGW.ext kd).keep k4 H.glob, (hfW.keep kd (fun _ _ => by simp)).keep k4 (fun _ h => h.1), (b4W.keep kd (by simp)).keep k4 h4, (b5W.keep kd (by simp)).keep k4 h5⟩⟩, by omega⟩
    ·show Value.int .i64 ((k : Int) + 1) = _
     rw [Int.natCast_add]; rfl
    ·rw [preL_take _ hx]; simpa using hJ4
   ·refine D_R rfl rfl (fun W hW => Ak rfl Z3) (Ah ?_)
    repeat refine nx rfl ?_
    refine AA (AC (AB rfl ?_))
    repeat refine nx rfl ?_
    refine AI rfl ⟨kW4, .inr ⟨rfl, (f, true) :: CW true (f.args.take k) ++ M, ?_, by simp, by simpa using hD⟩⟩
    rw [preF_eq]
    show _ <+: (f, true) :: CW true f.args
    rw [hpe, List.cons_append, List.prefix_cons_inj, List.prefix_append_right_inj]
    exact hM1.trans (List.prefix_append _ _)
  ·refine AA (Aj rfl rfl (by omega) ?_)
   repeat first | refine nx rfl ?_ | refine nf rfl ?_
   refine AA (AC (AB rfl ?_))
   repeat refine nx rfl ?_
   rw [List.take_of_length_le (by omega)] at hJW
   refine AI rfl ⟨kW, .inl ⟨rfl, by rw [preF_eq]; exact hJW⟩⟩
 | false =>
  (refine AA (AB rfl (AB rfl (AE rfl (AD rfl (AE rfl (AF rfl (Blk.cell (by assumption) (by rfl)) ?_)))))) <;> refine AJ rfl (AB rfl (AC (AB rfl ?_))))
  repeat refine nx rfl ?_
  (refine AA (AP rfl (AH rfl (AD rfl (AF rfl (by assumption) ?_)))) <;> refine AZ rfl (AG rfl ?_))
  repeat refine nx rfl ?_
  refine A3 (α := Nat) (fun k => [(0, .pointer (some ⟨b, o, none⟩)), (1, .bool (BR f.op).past), (2, .int .i64 (d : Int)), (5, pt c5), (43, .int .i64 (f.args.length : Int)), (44, .int .i64 (k : Int))]) (fun k W => k ≤ f.args.length ∧ Keep X w W ∧ Ext w3 w3 ∧ J (L ++ ((f, false) :: CW (BR f.op).past (f.args.take k))) W ∧ GF W ∧ PF (fun b => b ∉ X ∧ b < B) W b o f ∧ Blk W c4 147 [.func (.yield y) #[] #[]] ∧ Blk W c5 151 [.func (.func 139) #[] #[pt c3, pt c4, pt c5]]) (fun k => f.args.length - k) 0 ⟨rfl, rfl, rfl, rfl, rfl, rfl, trivial⟩ ⟨by omega, k13, Ext.refl _, by simpa [CW] using hJ3, hG3, hf3, b43, b53⟩ ?_
  rintro k W fr ⟨hk, kW, _, hJW, hGW, hfW, b4W, b5W⟩
  repeat refine nx rfl ?_
  by_cases hlt : k < f.args.length
  ·refine AA (At rfl rfl (by omega) ?_)
   repeat refine nx rfl ?_
   refine AA (AG rfl (AC (AG rfl ?_)))
   repeat refine nx rfl ?_
   obtain ⟨x, hx⟩ : ∃ x, f.args[k]? = some x := ⟨_, List.getElem?_eq_getElem hlt⟩
   obtain ⟨aa, cc, _, hargs, hel⟩ := hfW.arg
   obtain ⟨b', o', rfl, hfx⟩ := hel k x hx
   have hfa : f.args = f.args.take k ++ x :: f.args.drop (k + 1) := by
    have := List.take_append_drop k f.args
    rw [List.drop_eq_getElem_cons hlt, (List.getElem?_eq_some_iff.1 hx).2] at this
    exact this.symm
   have hpe : CW (BR f.op).past f.args = CW (BR f.op).past (f.args.take k) ++ (Ct (BR f.op).past x ++ CW (BR f.op).past (f.args.drop (k + 1))) := by
    conv => lhs; rw [hfa, preL_app]
    simp [CW]
   have hPx : (L ++ ((f, false) :: CW (BR f.op).past (f.args.take k))) ++ Ct (BR f.op).past x <+: P := by
    refine List.IsPrefix.trans ?_ hP
    rw [preF_eq false f, List.append_assoc, List.prefix_append_right_inj]
    show _ <+: (f, false) :: CW (BR f.op).past f.args
    rw [hpe, List.cons_append, List.prefix_cons_inj, List.prefix_append_right_inj]
    exact List.prefix_append _ _
   have hdx : dpF x ≤ n := by have := Bp (List.mem_of_getElem? hx); omega
   refine Ad (.read 0 (.read 1 (.read 2 (.read 3 (.read 4 (.read 5 (.read 6 (.read 7 (.read 8 (.read 9 (.alt 10 (.read 11 .done) .stop))))))))))) Ax (by kernel_rfl) (fun wd kd ed => ⟨Keep X wd, ?_, ?_⟩)
   ·exact Keep.refl _ _
   have ca : ∀ V, Keep X wd V → V.cell? ⟨c5, 0, none⟩ = some (.func (.func 139) #[] #[pt c3, pt c4, pt c5]) := fun V e => ((b5W.keep kd (by simp)).keep e h5).cell rfl
   have cb : ∀ V, Keep X wd V → V.cell? ⟨b, o + 4, none⟩ = some (.slice (some ⟨b', o', none⟩) f.args.length cc) := fun V e => e.cell (kd.cell hargs (by simp)) hfW.1.1
   (refine D_R rfl rfl (fun W hW => AF rfl (ca W hW) Z3) (D_R rfl rfl (fun W hW => AP rfl Z3) (D_R rfl rfl (fun W hW => AH rfl Z3) (D_R rfl rfl (fun W hW => AD rfl Z3) (D_R rfl rfl (fun W hW => AF rfl (cb W hW) Z3) (D_R rfl rfl (fun W hW => AG rfl Z3) (D_R rfl rfl (fun W hW => Au rfl rfl rfl (by omega) Z3) (D_R rfl rfl (fun W hW => AB rfl Z3) (D_R rfl rfl (fun W hW => AG rfl Z3) ?_)))))))) <;> (apply D_R rfl rfl; (intro W hW; refine Av rfl rfl (by first | exact AV (by omega) (by omega) | exact AY (by omega) (by omega) | exact AW (by omega) (by omega)) ?_; exact Z3)))
   refine D_E rfl ?_
   refine BO (v1 := []) (v2 := [pt c3, pt c4, pt c5]) (vs := [.pointer (some ⟨b', o' + k * 5, none⟩), .bool (BR f.op).past, .int .i64 ((d : Int) + 1)]) rfl (ih wd b' (o' + k * 5) x (BR f.op).past (d + 1) _ hdx (by omega) (hfx.keep kd (fun _ _ => by simp)) (hGW.ext kd) (b4W.keep kd (by simp)) (b5W.keep kd (by simp)) (H.ext hJW kd) hPx) rfl ?_
   rintro _ w4 ⟨k4, hr⟩
   refine AO ⟨Keep X wd, fun _ e => e, k4, ?_⟩
   have kW4 : Keep X w w4 := (kW.ext kd).trans k4 (fun _ hx _ => hx)
   rcases hr with ⟨rfl, hJ4⟩ | ⟨rfl, M, hM1, hM2, hD⟩
   ·refine D_R rfl rfl (fun W hW => Ak rfl Z3) (Ah ?_)
    repeat first | refine nx rfl ?_ | refine nf rfl ?_
    (refine AA (Av rfl rfl (by first | exact AV (by omega) (by omega) | exact AY (by omega) (by omega) | exact AW (by omega) (by omega)) ?_) <;> refine AG rfl ?_)
    repeat refine nx rfl ?_
    refine ⟨k + 1, ⟨rfl, ⟨rfl, rfl, rfl, rfl, rfl, ?_, trivial⟩, ⟨by omega, kW4, Ext.refl _, ?_, (hGW.ext kd).keep k4 H.glob, (hfW.keep kd (fun _ _ => by simp)).keep k4 (fun _ h => h.1), (b4W.keep kd (by simp)).keep k4 h4, (b5W.keep kd (by simp)).keep k4 h5⟩⟩, by omega⟩
    ·show Value.int .i64 ((k : Int) + 1) = _
     rw [Int.natCast_add]; rfl
    ·rw [preL_take _ hx]; simpa using hJ4
   ·refine D_R rfl rfl (fun W hW => Ak rfl Z3) (Ah ?_)
    repeat refine nx rfl ?_
    refine AA (AC (AB rfl ?_))
    repeat refine nx rfl ?_
    refine AI rfl ⟨kW4, .inr ⟨rfl, (f, false) :: CW (BR f.op).past (f.args.take k) ++ M, ?_, by simp, by simpa using hD⟩⟩
    rw [preF_eq]
    show _ <+: (f, false) :: CW (BR f.op).past f.args
    rw [hpe, List.cons_append, List.prefix_cons_inj, List.prefix_append_right_inj]
    exact hM1.trans (List.prefix_append _ _)
  ·refine AA (Aj rfl rfl (by omega) ?_)
   repeat first | refine nx rfl ?_ | refine nf rfl ?_
   refine AA (AC (AB rfl ?_))
   repeat refine nx rfl ?_
   rw [List.take_of_length_le (by omega)] at hJW
   refine AI rfl ⟨kW, .inl ⟨rfl, by rw [preF_eq]; exact hJW⟩⟩
end Go.Proofs.YtkhhjdjmhbdjfaaGreatDoor
namespace Go.Proofs.YtkhhjdjmhbdjfaaGreatDoor
open Go.RowKit
set_option linter.unusedVariables false
variable {mk : Prop} [MK mk]
theorem madePut : (madeCells (Value.agg #[.pointer none, .bool false]).cells (1 * 2)).toList = [.pointer none, .bool false] := by kernel_rfl
theorem nodesIt_ok {yv : Value} {X : List Nat} {J D : List Nd → World → Prop} (w : World) (cf b o : Nat) (f : Fml) (H : NodesR yv X w.heap.size (Ct false f) J D) (hcf : Blk w cf 50 [.pointer (some ⟨b, o, none⟩)]) (hf : PF (fun b => b ∉ X ∧ b < w.heap.size) w b o f) (hG : GF w) (hN : 3 ≤ w.heap.size) (hd : dpF f ≤ 5000) (hJ : J [] w) (hX : ∀ x ∈ X, x < w.heap.size) :
  Fn Tryz.prog 138 [yv, pt cf] w fun _ w' => Keep X w w' ∧ (J (Ct false f) w' ∨ ∃ M, M <+: Ct false f ∧ M ≠ [] ∧ D M w') := by
 have hX' : ∀ {c : Nat}, w.heap.size ≤ c → c ∉ X := fun h hx => by have := hX _ hx; omega
 have hy := H.fn
 obtain ⟨y, rfl⟩ := hy
 refine AR Tryz.func138 rfl Tryz.ntmps138 (Nat.le_of_ble_eq_true rfl) (by kernel_rfl) ?_
 repeat refine nx rfl ?_
 (refine AA ?_; refine A5 (L := [.func (.yield y) #[] #[]]) rfl (fun w1 n1 => ?_))
 repeat refine nx rfl ?_
 have c1 : w1.cell? ⟨cf, 0, none⟩ = some (.pointer (some ⟨b, o, none⟩)) := (hcf.keep n1.keep (by simp)).cell rfl
 (refine AA (AF rfl (by assumption) ?_) <;> refine BE (by rfl) (by rfl) ?_)
 refine Ab (out := [.pointer (some ⟨b, o, none⟩), .bool false]) rfl (by omega) (by rw [madePut]; rfl) (fun w2 n2 => ?_)
 refine Ar (fun w3 n3 => ?_)
 refine Aa (v := .slice (some ⟨w1.heap.size, 0, none⟩) 1 1) rfl rfl rfl n3.blk (by simp) (fun w4 p4 => ?_)
 repeat refine nx rfl ?_
 (refine AA ?_; refine Ar (fun w5 n5 => ?_))
 repeat refine nx rfl ?_
 refine AA (Ae rfl rfl ?_)
 refine Aa (v := .func (.func 139) #[] #[pt w2.heap.size, pt w.heap.size, pt w4.heap.size]) rfl rfl rfl n5.blk (by simp) (fun w6 p6 => ?_)
 repeat refine nx rfl ?_
 have z1 := n1.size
 have z2 := n2.size
 have z3 := n3.size
 have z4 := p4.size
 have z5 := n5.size
 have z6 := p6.size
 have k24 : Ext w2 w4 := n3.keep.keep p4.keep (by simp)
 have k46 : Ext w4 w6 := n5.keep.keep p6.keep (by simp)
 have k26 := k24.trans k46
 have k16 := n2.keep.trans k26
 have k6 : Ext w w6 := n1.keep.trans k16
 have b4 : Blk w6 w.heap.size 147 [.func (.yield y) #[] #[]] := n1.blk.keep k16 (by simp)
 have bp : Blk w6 w1.heap.size 149 [.pointer (some ⟨b, o, none⟩), .bool false] := n2.blk.keep k26 (by simp)
 have b3 : Blk w6 w2.heap.size 150 [.slice (some ⟨w1.heap.size, 0, none⟩) 1 1] := p4.blk.keep k46 (by simp)
 have b5 : Blk w6 w4.heap.size 151 [.func (.func 139) #[] #[pt w2.heap.size, pt w.heap.size, pt w4.heap.size]] := p6.blk
 have x4 : w.heap.size ∉ X := hX' (Nat.le_refl _)
 have xp : w1.heap.size ∉ X := hX' (by omega)
 have x3 : w2.heap.size ∉ X := hX' (by omega)
 have x5 : w4.heap.size ∉ X := hX' (by omega)
 replace hG := hG.ext k6
 replace hf := hf.keep k6 (fun _ _ => by simp)
 replace hJ := H.ext hJ k6
 clear c1 n1 n2 n3 p4 n5 p6
 refine A3 (α := Nat) (fun k => [(3, pt w2.heap.size), (4, pt w4.heap.size)]) (fun k W => k ≤ 1 ∧ Keep X w W ∧ (k = 1 → J [] W) ∧ (k = 0 → J (Ct false f) W) ∧ GF W ∧ PF (fun b => b ∉ X ∧ b < w.heap.size) W b o f ∧ Blk W w2.heap.size 150 [.slice (some ⟨w1.heap.size, 0, none⟩) k 1] ∧
  Blk W w1.heap.size 149 [.pointer (some ⟨b, o, none⟩), .bool false] ∧ Blk W w.heap.size 147 [.func (.yield y) #[] #[]] ∧ Blk W w4.heap.size 151 [.func (.func 139) #[] #[pt w2.heap.size, pt w.heap.size, pt w4.heap.size]]) (fun k => k) 1 ⟨rfl, rfl, trivial⟩
  ⟨by omega, k6.any, fun _ => hJ, fun h => by omega, hG, hf, b3, bp, b4, b5⟩ ?_
 clear b3 bp b4 b5 hG hf hJ
 rintro k W fr ⟨hk, kW, hJ1, hJ0, hGW, hfW, b3, bp, b4, b5⟩
 repeat refine nx rfl ?_
 by_cases hk0 : k = 0
 ·subst hk0
  (refine AA (AF rfl (Blk.cell (by assumption) (by rfl)) ?_) <;> refine AZ rfl (B9 rfl rfl (by omega) ?_))
  repeat first | refine nx rfl ?_ | refine nf rfl ?_
  exact Cu rfl ⟨kW, .inl (hJ0 rfl)⟩
 obtain rfl : k = 1 := by omega
 (refine AA (AF rfl (Blk.cell (by assumption) (by rfl)) ?_) <;> refine AZ rfl (Co rfl rfl (by omega) ?_))
 repeat refine nx rfl ?_
 (refine AA (AF rfl (Blk.cell (by assumption) (by rfl)) ?_) <;> refine AF rfl (Blk.cell (by assumption) (by rfl)) ?_ <;> refine AZ rfl (Cy rfl rfl (by first | exact AV (by omega) (by omega) | exact AY (by omega) (by omega) | exact AW (by omega) (by omega)) ?_))
 refine Au (k := 0) rfl rfl rfl (by omega) ?_
 refine Ac rfl bp rfl ?_
 refine Cv (cs := [.pointer (some ⟨b, o, none⟩), .bool false]) rfl rfl (by rfl) (Ap rfl) (fun w7 n7 => ?_)
 refine AO ?_
 have l3 := b3.lt
 have b37 := b3.keep n7.keep (by simp)
 have z7 := n7.size
 repeat refine nx rfl ?_
 (refine AA (AF rfl (Blk.cell (by assumption) (by rfl)) ?_) <;> refine AF rfl (Blk.cell (by assumption) (by rfl)) ?_ <;> refine AZ rfl (Cy rfl rfl (by first | exact AV (by omega) (by omega) | exact AY (by omega) (by omega) | exact AW (by omega) (by omega)) ?_))
 refine W_slice_h rfl rfl (by omega) (by omega) ?_
 refine Aa (v := .slice (some ⟨w1.heap.size, 0, none⟩) 0 1) rfl rfl rfl b37 (by simp) (fun w8 p8 => ?_)
 repeat refine nx rfl ?_
 have b7 := n7.blk.keep p8.keep (by simp; omega)
 have k78 : Keep [w2.heap.size] W w8 := (n7.keep.mono (fun _ h => by cases h)).trans p8.keep (fun _ h _ => h)
 have m24 : w.heap.size ≠ w2.heap.size := by omega
 have m25 : w4.heap.size ≠ w2.heap.size := by omega
 have bp8 := bp.keep k78 (by simp; omega)
 have b48 := b4.keep k78 (by simp; omega)
 have b58 := b5.keep k78 (by simp; omega)
 have hG8 := hGW.keep k78 (fun x hx => by simp at hx; omega)
 have hf8 := hfW.keep k78 (fun x hx => by have := hx.2; simp; omega)
 have hJ8 := H.keep (hJ1 rfl) k78 (fun x hx => by simp at hx; omega)
 have kW8 : Keep X w w8 := kW.trans k78 (fun x hx h => by simp at hx; omega)
 have e0 : w8.cell? ⟨W.heap.size, 0 + 0, none⟩ = some (.pointer (some ⟨b, o, none⟩)) := b7.cell rfl
 have e1 : w8.cell? ⟨W.heap.size, 0 + 1, none⟩ = some (.bool false) := b7.cell rfl
 (refine AA (AF rfl (Blk.cell (by assumption) (by rfl)) ?_) <;> refine AD rfl (AF rfl (Blk.cell (by assumption) (by rfl)) ?_) <;> refine AD rfl (AF rfl (Blk.cell (by assumption) (by rfl)) ?_))
 refine BO (v1 := []) (v2 := [pt w2.heap.size, pt w.heap.size, pt w4.heap.size]) (vs := [.pointer (some ⟨b, o, none⟩), .bool false, .int .i64 0]) rfl (visit_ok H w2.heap.size w.heap.size w4.heap.size x4 x5 (dpF f) w8 b o f false 0 [] (Nat.le_refl _) (by omega) hf8 hG8 b48 b58 hJ8 (by simp)) rfl ?_
 rintro _ w9 ⟨k9, hr⟩
 have b39 := p8.blk.keep k9 x3
 have kW9 : Keep X w w9 := kW8.trans k9 (fun _ h _ => h)
 rcases hr with ⟨rfl, hJ9⟩ | ⟨rfl, M, hM1, hM2, hD⟩
 ·refine Ak rfl ?_
  repeat first | refine nx rfl ?_ | refine nf rfl ?_
  refine ⟨0, ⟨rfl, ⟨rfl, rfl, trivial⟩, ⟨by omega, kW9, fun h => by omega, fun _ => by simpa using hJ9, hG8.keep k9 H.glob, hf8.keep k9 (fun _ h => h.1), b39, bp8.keep k9 xp, b48.keep k9 x4, b58.keep k9 x5⟩⟩, by omega⟩
 ·refine Ak rfl ?_
  repeat refine nx rfl ?_
  exact fin_ret0 rfl ⟨kW9, .inr ⟨M, hM1, hM2, by simpa using hD⟩⟩
theorem nodes_ok (w : World) (b o : Nat) : Fn Tryz.prog 105 [.pointer (some ⟨b, o, none⟩)] w fun v w' => v = .func (.func 138) #[] #[pt w.heap.size] ∧ New w w' 50 [.pointer (some ⟨b, o, none⟩)] := by
 refine AR Tryz.func105 rfl Tryz.ntmps105 (Nat.le_of_ble_eq_true rfl) (by kernel_rfl) ?_
 repeat refine nx rfl ?_
 (refine AA ?_; refine A5 (L := [.pointer (some ⟨b, o, none⟩)]) rfl (fun w1 n1 => ?_))
 refine AC (Be ?_)
 repeat refine nx rfl ?_
 refine AA (Ae rfl rfl (AC (Bq rfl ?_)))
 repeat refine nx rfl ?_
 exact AI rfl ⟨rfl, n1⟩
end Go.Proofs.YtkhhjdjmhbdjfaaGreatDoor
namespace Go.Proofs.YtkhhjdjmhbdjfaaGreatDoor
open Go.RowKit
set_option linter.unusedVariables false
variable {mk : Prop} [MK mk]
theorem szL_app : ∀ l m : List Fml, szL (l ++ m) = szL l + szL m
 | [], m => by simp [szL]
 | f :: l, m => by simp only [List.cons_append, szL, szL_app l m]; omega
theorem szL_take {l : List Fml} {k : Nat} {x : Fml} (h : l[k]? = some x) : szL (l.take (k + 1)) = szL (l.take k) + szF x := by
 rw [List.take_add_one, h, Option.toList_some, szL_app]; simp [szL]
theorem szL_take_le (l : List Fml) (k : Nat) : szL (l.take k) ≤ szL l := by
 conv => rhs; rw [← List.take_append_drop k l, szL_app]
 omega
theorem dpL_le_iff {n : Nat} : ∀ {l : List Fml}, dpL l ≤ n ↔ ∀ a ∈ l, dpF a ≤ n
 | [] => by simp [dpL]
 | c :: l => by simp only [dpL, List.mem_cons, forall_eq_or_imp, ← dpL_le_iff (l := l)]; omega
abbrev fitsV (c2 c3 : Nat) : Value := .func (.func 109) #[] #[pt c2, pt c3]
theorem fits_ok (c2 c3 : Nat) (hne : c3 ≠ c2) : ∀ (D : Nat) (w : World) (b o : Nat) (f : Fml) (S : Nat), D ≤ 1000 → S ≤ 1000 → PF (fun b => b ≠ c2) w b o f → Blk w c2 3 [.int .i64 S] → Blk w c3 127 [fitsV c2 c3] →
  Fn Tryz.prog 109 [.pointer (some ⟨b, o, none⟩), .int .i64 D, pt c2, pt c3] w fun v w' => Keep [c2] w w' ∧ ((szF f ≤ S ∧ dpF f ≤ D ∧ v = .bool true ∧ Blk w' c2 3 [.int .i64 (S - szF f : Nat)]) ∨ (¬ (szF f ≤ S ∧ dpF f ≤ D) ∧ v = .bool false)) := by
 intro D
 induction D with
 | zero =>
  intro w b o f S hD hS hf b2 b3
  refine AR Tryz.func109 rfl Tryz.ntmps109 (Nat.le_of_ble_eq_true rfl) (by kernel_rfl) ?_
  repeat refine nx rfl ?_
  refine AA (AC (AB rfl ?_))
  repeat refine nx rfl ?_
  (refine AA (AF rfl (Blk.cell (by assumption) (by rfl)) ?_) <;> refine Cy rfl rfl (by first | exact AV (by omega) (by omega) | exact AY (by omega) (by omega) | exact AW (by omega) (by omega)) ?_)
  refine Aa (v := .int .i64 ((S : Int) - 1)) rfl rfl rfl b2 (by simp) (fun w1 p1 => ?_)
  repeat refine nx rfl ?_
  replace b2 := p1.blk
  replace b3 := b3.keep p1.keep (by simpa using hne)
  replace hf := hf.keep p1.keep (fun b hb => by simpa using hb)
  obtain ⟨aa, cc, _, hargs, hel⟩ := hf.arg
  refine Ad (.read 0 (.read 1 (.read 2 (.read 3 (.read 4 (.read 5 (.read 6 (.read 7 (.read 8 (.read 9 (.read 10 .done))))))))))) Ax (by kernel_rfl) (fun wd kd ed => ⟨Ext wd, ?_, ?_⟩)
  ·exact Ext.refl _
  have ca : ∀ V, Ext wd V → V.cell? ⟨c2, 0, none⟩ = some (.int .i64 ((S : Int) - 1)) := fun V e => (Blk.keep b2 (kd.trans e) (by simp)).cell rfl
  have cb : ∀ V, Ext wd V → V.cell? ⟨b, o + 4, none⟩ = some (.slice aa f.args.length cc) := fun V e => (kd.trans e).cell hargs (by simp)
  (refine D_R rfl rfl (fun W hW => AF rfl (ca W hW) Z3) (D_R rfl rfl (fun W hW => AP rfl Z3) (D_R rfl rfl (fun W hW => AH rfl Z3) (D_R rfl rfl (fun W hW => AD rfl Z3) (D_R rfl rfl (fun W hW => AF rfl (cb W hW) Z3) (D_R rfl rfl (fun W hW => AZ rfl Z3) ?_))))) <;> (refine D_lss rfl rfl rfl rfl (fun hc => ?_) (fun hc => ?_) <;> try omega) <;> refine D_R rfl rfl (fun W hW => AB rfl Z3) ?_ <;> (first | refine Am rfl rfl rfl rfl ?_ | (apply D_R rfl rfl; (intro W hW; (refine AE rfl ?_; refine AG rfl ?_); exact AO ⟨rfl, rfl, rfl⟩))) <;> (first | refine Am rfl rfl rfl rfl ?_ | refine D_lssT rfl rfl rfl rfl (by omega) ?_) <;> (apply D_R rfl rfl; (intro W hW; ((first | refine AK rfl ?_ | refine AJ rfl ?_); refine AB rfl ?_); exact Z3)) <;> refine Ah ?_)
  all_goals
   repeat refine nx rfl ?_
   refine AA (AC (AB rfl ?_))
   repeat refine nx rfl ?_
   exact AI rfl ⟨(p1.keep.trans kd.any (fun _ h _ => h)), .inr ⟨by rw [Bd]; omega, rfl⟩⟩
 | succ n ih =>
  intro w b o f S hD hS hf b2 b3
  rw [BW, Bd]
  refine AR Tryz.func109 rfl Tryz.ntmps109 (Nat.le_of_ble_eq_true rfl) (by kernel_rfl) ?_
  repeat refine nx rfl ?_
  refine AA (AC (AB rfl ?_))
  repeat refine nx rfl ?_
  (refine AA (AF rfl (Blk.cell (by assumption) (by rfl)) ?_) <;> refine Cy rfl rfl (by first | exact AV (by omega) (by omega) | exact AY (by omega) (by omega) | exact AW (by omega) (by omega)) ?_)
  refine Aa (v := .int .i64 ((S : Int) - 1)) rfl rfl rfl b2 (by simp) (fun w1 p1 => ?_)
  repeat refine nx rfl ?_
  replace b2 := p1.blk
  replace b3 := b3.keep p1.keep (by simpa using hne)
  replace hf := hf.keep p1.keep (fun b hb => by simpa using hb)
  obtain ⟨aa, cc, _, hargs, hel⟩ := hf.arg
  have hln := CQ f.args
  by_cases hlen : (S : Int) - 1 < f.args.length
  ·refine Ad (.read 0 (.read 1 (.read 2 (.read 3 (.read 4 (.read 5 (.read 6 (.read 7 (.read 8 (.read 9 (.read 10 .done))))))))))) Ax (by kernel_rfl) (fun wd kd ed => ⟨Ext wd, ?_, ?_⟩)
   ·exact Ext.refl _
   have ca : ∀ V, Ext wd V → V.cell? ⟨c2, 0, none⟩ = some (.int .i64 ((S : Int) - 1)) := fun V e => (Blk.keep b2 (kd.trans e) (by simp)).cell rfl
   have cb : ∀ V, Ext wd V → V.cell? ⟨b, o + 4, none⟩ = some (.slice aa f.args.length cc) := fun V e => (kd.trans e).cell hargs (by simp)
   refine D_R rfl rfl (fun W hW => AF rfl (ca W hW) Z3) (D_R rfl rfl (fun W hW => AP rfl Z3) (D_R rfl rfl (fun W hW => AH rfl Z3) (D_R rfl rfl (fun W hW => AD rfl Z3) (D_R rfl rfl (fun W hW => AF rfl (cb W hW) Z3) (D_R rfl rfl (fun W hW => AZ rfl Z3) (D_lssT rfl rfl rfl rfl (by omega) (D_R rfl rfl (fun W hW => AB rfl Z3) (Am rfl rfl rfl rfl (Am rfl rfl rfl rfl (D_R rfl rfl (fun W hW => AK rfl (AB rfl Z3)) (Ah ?_)))))))))))
   all_goals
    repeat refine nx rfl ?_
    refine AA (AC (AB rfl ?_))
    repeat refine nx rfl ?_
    exact AI rfl ⟨(p1.keep.trans kd.any (fun _ h _ => h)), .inr ⟨by omega, rfl⟩⟩
  by_cases hd0 : (n : Int) + 1 < 1
  ·omega
  refine Ad (.read 0 (.read 1 (.read 2 (.read 3 (.read 4 (.read 5 (.read 6 (.read 7 (.read 8 (.read 9 (.read 10 .done))))))))))) Ax (by kernel_rfl) (fun wd kd ed => ⟨Ext wd, ?_, ?_⟩)
  ·exact Ext.refl _
  have ca : ∀ V, Ext wd V → V.cell? ⟨c2, 0, none⟩ = some (.int .i64 ((S : Int) - 1)) := fun V e => (Blk.keep b2 (kd.trans e) (by simp)).cell rfl
  have cb : ∀ V, Ext wd V → V.cell? ⟨b, o + 4, none⟩ = some (.slice aa f.args.length cc) := fun V e => (kd.trans e).cell hargs (by simp)
  refine D_R rfl rfl (fun W hW => AF rfl (ca W hW) Z3) (D_R rfl rfl (fun W hW => AP rfl Z3) (D_R rfl rfl (fun W hW => AH rfl Z3) (D_R rfl rfl (fun W hW => AD rfl Z3) (D_R rfl rfl (fun W hW => AF rfl (cb W hW) Z3) (D_R rfl rfl (fun W hW => AZ rfl Z3) (D_lssF rfl rfl rfl rfl (by omega) (D_R rfl rfl (fun W hW => AB rfl Z3) (D_R rfl rfl (fun W hW => AE rfl (AG rfl Z3)) (D_lssF rfl rfl rfl rfl (by omega) (D_R rfl rfl (fun W hW => AJ rfl (AB rfl Z3)) (Ah ?_)))))))))))
  repeat first | refine nx rfl ?_ | refine nf rfl ?_
  replace b2 := b2.keep kd (by simp)
  replace b3 := b3.keep kd (by simp)
  replace hf := hf.keep kd (fun _ _ => by simp)
  have k1 : Keep [c2] w wd := p1.keep.ext kd
  clear ca cb hel
  replace hargs := kd.cell hargs (by simp)
  (refine AA (AP rfl (AH rfl (AD rfl (AF rfl (by assumption) ?_)))) <;> refine AZ rfl (AG rfl ?_))
  repeat refine nx rfl ?_
  refine A3 (α := Nat) (fun k => [(0, .pointer (some ⟨b, o, none⟩)), (1, .int .i64 ((n + 1 : Nat) : Int)), (2, pt c2), (3, pt c3), (25, .int .i64 (f.args.length : Int)), (26, .int .i64 (k : Int))]) (fun k W => k ≤ f.args.length ∧ Keep [c2] w W ∧ szL (f.args.take k) + 1 ≤ S ∧ dpL (f.args.take k) ≤ n ∧ PF (fun b => b ≠ c2) W b o f ∧ Blk W c2 3 [.int .i64 (S - 1 - szL (f.args.take k) : Nat)] ∧ Blk W c3 127 [fitsV c2 c3]) (fun k => f.args.length - k) 0 ⟨rfl, rfl, rfl, rfl, rfl, rfl, trivial⟩ ⟨by omega, k1, by simp [szL]; omega, by simp [dpL], hf, by rw [show ((S - 1 - szL (f.args.take 0) : Nat) : Int) = (S : Int) - 1 by simp [szL]; omega]; exact b2, b3⟩ ?_
  rintro k W fr ⟨hk, kW, hsW, hdW, hfW, b2W, b3W⟩
  repeat refine nx rfl ?_
  by_cases hlt : k < f.args.length
  ·refine AA (At rfl rfl (by omega) ?_)
   repeat refine nx rfl ?_
   refine AA (AG rfl (AC (AG rfl ?_)))
   repeat refine nx rfl ?_
   obtain ⟨x, hx⟩ : ∃ x, f.args[k]? = some x := ⟨_, List.getElem?_eq_getElem hlt⟩
   obtain ⟨aa, cc, _, hargs, hel⟩ := hfW.arg
   obtain ⟨b', o', rfl, hfx⟩ := hel k x hx
   have hsx := szL_take hx
   have hsl := szL_take_le f.args (k + 1)
   have hdx := Bp (List.mem_of_getElem? hx)
   refine Ad (.read 0 (.read 1 (.read 2 (.read 3 (.read 4 (.read 5 (.read 6 (.read 7 (.read 8 (.alt 9 (.read 10 .done) .stop)))))))))) Ax (by kernel_rfl) (fun wd kd ed => ⟨Keep [c2] wd, ?_, ?_⟩)
   ·exact Keep.refl _ _
   have ca : ∀ V, Keep [c2] wd V → V.cell? ⟨c3, 0, none⟩ = some (fitsV c2 c3) := fun V e => ((b3W.keep kd (by simp)).keep e (by simpa using hne)).cell rfl
   have cb : ∀ V, Keep [c2] wd V → V.cell? ⟨b, o + 4, none⟩ = some (.slice (some ⟨b', o', none⟩) f.args.length cc) := fun V e => e.cell (kd.cell hargs (by simp)) (by simpa using hfW.1)
   (refine D_R rfl rfl (fun W hW => AF rfl (ca W hW) Z3) (D_R rfl rfl (fun W hW => AP rfl Z3) (D_R rfl rfl (fun W hW => AH rfl Z3) (D_R rfl rfl (fun W hW => AD rfl Z3) (D_R rfl rfl (fun W hW => AF rfl (cb W hW) Z3) (D_R rfl rfl (fun W hW => AG rfl Z3) (D_R rfl rfl (fun W hW => Au rfl rfl rfl (by omega) Z3) (D_R rfl rfl (fun W hW => AG rfl Z3) ?_))))))) <;> (apply D_R rfl rfl; (intro W hW; refine Cy rfl rfl (by first | exact AV (by omega) (by omega) | exact AY (by omega) (by omega) | exact AW (by omega) (by omega)) ?_; exact Z3)))
   refine D_E rfl ?_
   refine BO (v1 := []) (v2 := [pt c2, pt c3]) (vs := [.pointer (some ⟨b', o' + k * 5, none⟩), .int .i64 (((n + 1 : Nat) : Int) - 1)]) rfl (by rw [show ((n + 1 : Nat) : Int) - 1 = (n : Int) by omega]; exact ih wd b' (o' + k * 5) x (S - 1 - szL (f.args.take k)) (by omega) (by omega) (hfx.keep kd (fun _ _ => by simp)) (b2W.keep kd (by simp)) (b3W.keep kd (by simp))) rfl ?_
   rintro _ w4 ⟨k4, hr⟩
   refine AO ⟨Keep [c2] wd, fun _ e => e, k4, ?_⟩
   have kW4 : Keep [c2] w w4 := (kW.ext kd).trans k4 (fun _ hx _ => hx)
   rcases hr with ⟨hs4, hd4, rfl, b24⟩ | ⟨hno, rfl⟩
   ·refine D_R rfl rfl (fun W hW => Ak rfl Z3) (Ah ?_)
    repeat first | refine nx rfl ?_ | refine nf rfl ?_
    (refine AA (Av rfl rfl (by first | exact AV (by omega) (by omega) | exact AY (by omega) (by omega) | exact AW (by omega) (by omega)) ?_) <;> refine AG rfl ?_)
    repeat refine nx rfl ?_
    refine ⟨k + 1, ⟨rfl, ⟨rfl, rfl, rfl, rfl, rfl, ?_, trivial⟩, ⟨by omega, kW4, by omega, ?_, (hfW.keep kd (fun _ _ => by simp)).keep k4 (fun b hb => by simpa using hb), ?_, (b3W.keep kd (by simp)).keep k4 (by simpa using hne)⟩⟩, by omega⟩
    ·show Value.int .i64 ((k : Int) + 1) = _
     rw [Int.natCast_add]; rfl
    ·rw [List.take_add_one, hx]
     refine dpL_le_iff.2 fun a ha => ?_
     rcases List.mem_append.1 ha with ha | ha
     ·exact dpL_le_iff.1 hdW a ha
     ·obtain rfl : a = x := by simpa using ha
      exact hd4
    ·rw [show S - 1 - szL (f.args.take (k + 1)) = S - 1 - szL (f.args.take k) - szF x by omega]
     exact b24
   ·refine D_R rfl rfl (fun W hW => Ak rfl Z3) (Ah ?_)
    repeat refine nx rfl ?_
    refine AA (AC (AB rfl ?_))
    repeat refine nx rfl ?_
    exact AI rfl ⟨kW4, .inr ⟨by omega, rfl⟩⟩
  ·refine AA (Aj rfl rfl (by omega) ?_)
   repeat first | refine nx rfl ?_ | refine nf rfl ?_
   refine AA (AC (AB rfl ?_))
   repeat refine nx rfl ?_
   rw [List.take_of_length_le (by omega)] at hsW hdW b2W
   refine AI rfl ⟨kW, .inl ⟨by omega, by omega, rfl, ?_⟩⟩
   rw [show S - (szL f.args + 1) = S - 1 - szL f.args by omega]
   exact b2W
theorem within_ok (w : World) (b o : Nat) (f : Fml) (S D : Nat) (hS : S ≤ 1000) (hD : D ≤ 1000) (hf : PF (fun b => b < w.heap.size) w b o f) :
  Fn Tryz.prog 70 [.pointer (some ⟨b, o, none⟩), .int .i64 S, .int .i64 D] w fun v w' => v = .bool (decide (szF f ≤ S) && decide (dpF f ≤ D)) ∧ Ext w w' := by
 refine AR Tryz.func70 rfl Tryz.ntmps70 (Nat.le_of_ble_eq_true rfl) (by kernel_rfl) ?_
 repeat refine nx rfl ?_
 (refine AA ?_; refine A5 (L := [.int .i64 S]) rfl (fun w1 n1 => ?_))
 refine AC (AB rfl ?_)
 repeat refine nx rfl ?_
 (refine AA ?_; refine Ar (fun w2 n2 => ?_))
 repeat refine nx rfl ?_
 refine AA (Ae rfl rfl ?_)
 refine Aa (v := fitsV w.heap.size w1.heap.size) rfl rfl rfl n2.blk (by simp) (fun w3 p3 => ?_)
 repeat refine nx rfl ?_
 have z1 := n1.size
 have z2 := n2.size
 have b3 := p3.blk
 have k23 := n2.keep.keep p3.keep (by simp)
 have k3 : Ext w w3 := n1.keep.trans k23
 have b1 := n1.blk.keep k23 (by simp)
 (refine AA (AF rfl (Blk.cell (by assumption) (by rfl)) ?_) <;> refine AP rfl (AG rfl ?_))
 refine BO (v1 := []) (v2 := [pt w.heap.size, pt w1.heap.size]) (vs := [.pointer (some ⟨b, o, none⟩), .int .i64 D]) rfl (fits_ok w.heap.size w1.heap.size (by omega) D w3 b o f S hD hS ((hf.keep k3 (fun _ _ => by simp)).mono fun x hx => by omega) b1 b3) rfl ?_
 rintro v w4 ⟨k4, hr⟩
 obtain rfl : v = .bool (decide (szF f ≤ S) && decide (dpF f ≤ D)) := by
  rcases hr with ⟨h1, h2, rfl, _⟩ | ⟨h, rfl⟩
  ·simp [h1, h2]
  ·simp; exact fun h1 => by omega
 refine AC (AB rfl ?_)
 repeat refine nx rfl ?_
 exact AI rfl ⟨rfl, k3.keep k4 (by simp)⟩
end Go.Proofs.YtkhhjdjmhbdjfaaGreatDoor
namespace Go.Proofs.YtkhhjdjmhbdjfaaGreatDoor
open Go.RowKit
set_option linter.unusedVariables false
variable {mk : Prop} [MK mk]
def keyC : List Value := keysL.map An
def KY (w : World) : Prop := Cells w 1 0 keyC
def okAt (i : Nat) (c : UInt8) : Bool := Bg c || (decide (0 < i) && (isDig c || decide (c.toNat = 95)))
def shapeB (s : List UInt8) : Bool := Bg (s.getD 0 0) && s.all restB
theorem shapeB_iff (s : List UInt8) (h : 1 ≤ s.length) : shapeB s = true ↔ ∀ (i : Nat) (c : UInt8), s[i]? = some c → okAt i c = true := by
 match s, h with
 | d :: s, _ =>
  simp only [shapeB, List.getD_eq_getElem?_getD, List.getElem?_cons_zero, Option.getD_some, Bool.and_eq_true, List.all_eq_true]
  constructor
  ·rintro ⟨h1, h2⟩ i c hc
   cases i with
   | zero => simp at hc; subst hc; simp [okAt, h1]
   | succ i =>
    have := h2 c (List.mem_of_getElem? hc)
    simp [restB] at this
    simp [okAt]
    rcases this with (h | h) | h
    ·exact .inl h
    ·exact .inr (.inl h)
    ·exact .inr (.inr h)
  ·intro h
   have h0 := h 0 d rfl
   simp [okAt] at h0
   refine ⟨h0, fun c hc => ?_⟩
   obtain ⟨i, hi⟩ := List.getElem?_of_mem hc
   have := h i c hi
   simp only [okAt, restB, Bool.or_eq_true, Bool.and_eq_true, decide_eq_true_eq] at this ⊢
   rcases this with h | ⟨_, h | h⟩
   ·exact .inl (.inl h)
   ·exact .inl (.inr h)
   ·exact .inr h
theorem CU (s : List UInt8) : nameB s = (decide (1 ≤ s.length) && decide (s.length ≤ 12) && shapeB s && !decide (s ∈ keysL)) := by
 unfold nameB shapeB
 cases decide (1 ≤ s.length) <;> cases decide (s.length ≤ 12) <;> cases Bg (s.getD 0 0) <;> cases s.all restB <;> rfl
theorem sigNameK_ok (s : List UInt8) (w : World) (hG : KY w) : Fn Tryz.prog 108 [An s] w fun v w' => v = .bool (nameB s) ∧ w' = w := by
 refine AR Tryz.func108 rfl Tryz.ntmps108 (Nat.le_of_ble_eq_true rfl) (by kernel_rfl) ?_
 repeat refine nx rfl ?_
 refine AA (AC (AB rfl ?_))
 repeat refine nx rfl ?_
 by_cases h1 : s.length < 1
 ·refine AA (A1 rfl (Br rfl (At rfl rfl (by omega) (AB rfl (AL rfl (AL rfl (AL rfl (AK rfl (AB rfl ?_)))))))))
  repeat refine nx rfl ?_
  refine AA (AC (AB rfl ?_))
  repeat refine nx rfl ?_
  exact AI rfl ⟨by rw [CU, decide_eq_false (show ¬ 1 ≤ s.length by omega)]; rfl, rfl⟩
 by_cases h12 : 12 < s.length
 ·refine AA (A1 rfl (Br rfl (Aj rfl rfl (by omega) (AB rfl (AE rfl (A1 rfl (AE rfl (Br rfl (AE rfl (Co rfl rfl (by omega) (AJ rfl (AB rfl ?_))))))))))))
  repeat refine nx rfl ?_
  refine AA (AC (AB rfl ?_))
  repeat refine nx rfl ?_
  exact AI rfl ⟨by rw [CU, decide_eq_false (show ¬ s.length ≤ 12 by omega)]; simp [upd, Nat.beq], rfl⟩
 refine AA (A1 rfl (Br rfl (Aj rfl rfl (by omega) (AB rfl (AE rfl (A1 rfl (AE rfl (Br rfl (AE rfl (B9 rfl rfl (by omega) (AJ rfl (AB rfl ?_))))))))))))
 repeat first | refine nx rfl ?_ | refine nf rfl ?_
 refine AA (AC (AB rfl ?_))
 repeat refine nx rfl ?_
 refine AA (A1 rfl (Br rfl (AG rfl ?_)))
 repeat refine nx rfl ?_
 refine A3 (α := Nat) (fun k => [(0, An s), (3, .bool true), (17, .int .i64 (s.length : Int)), (18, .int .i64 (k : Int))]) (fun k w1 => k ≤ s.length ∧ (∀ (i : Nat) (c : UInt8), i < k → s[i]? = some c → okAt i c = true) ∧ w1 = w) (fun k => s.length - k) 0 ⟨rfl, rfl, rfl, rfl, trivial⟩ ⟨by omega, fun i c hi => by omega, rfl⟩ ?_
 rintro k w1 f1 ⟨hk, hok, rfl⟩
 repeat refine nx rfl ?_
 by_cases hlt : k < s.length
 ·have hc0 : s[k]? = some s[k] := List.getElem?_eq_getElem hlt
  generalize s[k] = c at hc0
  have cb := c.toNat_lt
  have step : okAt k c = true → ∀ (i : Nat) (d : UInt8), i < k + 1 → s[i]? = some d → okAt i d = true := fun hkc i d hi hd => by
   by_cases hik : i = k
   ·subst hik; rw [hc0] at hd; cases hd; exact hkc
   ·exact hok i d (by omega) hd
  refine AA (At rfl rfl (by omega) ?_)
  repeat refine nx rfl ?_
  refine AA (AG rfl (AC (AG rfl ?_)))
  repeat refine nx rfl ?_
  (refine AA (A1 rfl (AG rfl (BK rfl rfl (by assumption) ?_))) <;> refine AC (AG rfl ?_))
  repeat refine nx rfl ?_
  by_cases hs : 97 ≤ c.toNat ∧ c.toNat ≤ 122
  ·have hkc : okAt k c = true := by simp [okAt, Bg, hs.1, hs.2]
   refine AA (AG rfl (BZ rfl rfl (by omega) (AB rfl (AE rfl (AG rfl (AE rfl (BZ rfl rfl (by omega) (AK rfl (AB rfl (AC (AB rfl ?_)))))))))))
   repeat refine nx rfl ?_
   (refine AA (Av rfl rfl (by first | exact AV (by omega) (by omega) | exact AY (by omega) (by omega) | exact AW (by omega) (by omega)) ?_) <;> refine AG rfl ?_)
   repeat refine nx rfl ?_
   refine ⟨k + 1, ⟨rfl, ⟨rfl, rfl, rfl, ?_, trivial⟩, ⟨by omega, step hkc, rfl⟩⟩, by omega⟩
   show Value.int .i64 ((k : Int) + 1) = _
   rw [Int.natCast_add]; rfl
  ·have hns : Bg c = false := by simp [Bg]; omega
   by_cases hr : 0 < k ∧ ((48 ≤ c.toNat ∧ c.toNat ≤ 57) ∨ c.toNat = 95)
   ·have hkc : okAt k c = true := by
     simp only [okAt, isDig, Bool.or_eq_true, Bool.and_eq_true, decide_eq_true_eq]
     exact .inr hr
    refine AA (AG rfl (Bh rfl rfl (by omega) (AB rfl (AL rfl (AL rfl (AJ rfl (AB rfl (AC (AB rfl (AO ?_))))))))))
    all_goals
     repeat first | refine nx rfl ?_ | refine nf rfl ?_
     (refine AA (AG rfl (Co rfl rfl (by omega) (AB rfl (AE rfl (AG rfl (AE rfl (BZ rfl rfl (by omega) (AE rfl (AB rfl (AE rfl (AG rfl ?_))))))))))) <;> (refine AE rfl ?_; (refine W_leq rfl rfl (fun hc => ?_) (fun hc => ?_) <;> try omega)) <;> refine AE rfl (AK rfl (AB rfl (AE rfl (AB rfl ?_)))) <;> (first | refine AL rfl ?_ | (refine AE rfl ?_; refine AG rfl ?_)) <;> (first | refine AL rfl ?_ | (refine AE rfl ?_; refine Ai rfl rfl (by omega) ?_)) <;> (refine AE rfl ?_; ((first | refine AK rfl ?_ | refine AJ rfl ?_); refine AB rfl ?_)) <;> refine AK rfl (AB rfl (AC (AB rfl (AO ?_)))))
     all_goals
      repeat refine nx rfl ?_
      (refine AA (Av rfl rfl (by first | exact AV (by omega) (by omega) | exact AY (by omega) (by omega) | exact AW (by omega) (by omega)) ?_) <;> refine AG rfl ?_)
      repeat refine nx rfl ?_
      refine ⟨k + 1, ⟨rfl, ⟨rfl, rfl, rfl, ?_, trivial⟩, ⟨by omega, step hkc, rfl⟩⟩, by omega⟩
      show Value.int .i64 ((k : Int) + 1) = _
      rw [Int.natCast_add]; rfl
   ·have hsh : shapeB s = false := by
     cases hsb : shapeB s with
     | false => rfl
     | true =>
      have := (shapeB_iff s (by omega)).1 hsb k c hc0
      simp only [okAt, hns, isDig, Bool.false_or, Bool.or_eq_true, Bool.and_eq_true, decide_eq_true_eq] at this
      exact absurd this hr
    (refine AA (AG rfl ?_) <;> (refine W_leq rfl rfl (fun hc => ?_) (fun hc => ?_) <;> try omega) <;> refine AB rfl ?_ <;> (first | refine AL rfl ?_ | (refine AE rfl ?_; refine AG rfl ?_)) <;> (first | refine AL rfl ?_ | (refine AE rfl ?_; refine Bh rfl rfl (by omega) ?_)) <;> ((first | refine AK rfl ?_ | refine AJ rfl ?_); refine AB rfl ?_) <;> refine AC (AB rfl (AO ?_)))
    all_goals
     repeat first | refine nx rfl ?_ | refine nf rfl ?_
     (refine AA (AG rfl ?_) <;> (refine W_gtr rfl rfl (fun hc => ?_) (fun hc => ?_) <;> try omega) <;> refine AB rfl ?_ <;> (first | refine AL rfl ?_ | (refine AE rfl ?_; refine AG rfl ?_)) <;> (first | refine AL rfl ?_ | (refine AE rfl ?_; (refine W_leq rfl rfl (fun hc => ?_) (fun hc => ?_) <;> try omega))) <;> (first | refine AL rfl ?_ | (refine AE rfl ?_; refine AB rfl ?_)) <;> (first | refine AL rfl ?_ | (refine AE rfl ?_; refine AG rfl ?_)) <;> (first | refine AL rfl ?_ | (refine AE rfl ?_; refine Bh rfl rfl (by omega) ?_)) <;> (first | refine AL rfl ?_ | (refine AE rfl ?_; ((first | refine AK rfl ?_ | refine AJ rfl ?_); refine AB rfl ?_))) <;> (first | refine AL rfl ?_ | (refine AE rfl ?_; refine AB rfl ?_)) <;> (first | refine AL rfl ?_ | (refine AE rfl ?_; refine AG rfl ?_)) <;> (first | refine AL rfl ?_ | (refine AE rfl ?_; refine AT rfl rfl (by omega) ?_)) <;> (first | refine AL rfl ?_ | (refine AE rfl ?_; (refine AJ rfl ?_; refine AB rfl ?_))) <;> ((first | refine AK rfl ?_ | refine AJ rfl ?_); refine AB rfl ?_) <;> refine AC (AB rfl (AO ?_)))
     all_goals
      repeat first | refine nx rfl ?_ | refine nf rfl ?_
      refine AA (AC (AB rfl ?_))
      repeat refine nx rfl ?_
      refine AA (Ao (L := keyC) rfl rfl hG ?_)
      refine AG rfl ?_
      repeat refine nx rfl ?_
      refine A3 (α := Nat) (fun k => [(0, An s), (3, .bool false), (47, .agg keyC.toArray), (48, .int .i64 (k : Int))]) (fun k W => k ≤ 10 ∧ s ∉ keysL.take k ∧ W = w1) (fun k => 10 - k) 0 ⟨rfl, rfl, rfl, rfl, trivial⟩ ⟨by omega, by simp, rfl⟩ ?_
      rintro k w2 f2 ⟨hk, hn, rfl⟩
      repeat refine nx rfl ?_
      by_cases hlt : k < 10
      ·obtain ⟨y, hy⟩ : ∃ y, keysL[k]? = some y := ⟨_, List.getElem?_eq_getElem (by show k < 10; exact hlt)⟩
       have hyc : keyC[k]? = some (An y) := by unfold keyC; rw [List.getElem?_map, hy]; rfl
       have ht1 : keysL.take (k + 1) = keysL.take k ++ [y] := by rw [List.take_add_one, hy]; rfl
       refine AA (At rfl rfl (by omega) ?_)
       repeat refine nx rfl ?_
       refine AA ?_
       refine W_vidx1 (L := keyC) rfl rfl (by omega) hyc ?_
       refine AC (A1 rfl ?_)
       repeat refine nx rfl ?_
       by_cases hys : y = s
       ·(refine AA (A1 rfl (A1 rfl ?_)) <;> refine Bs rfl rfl (fun hc => ?_) (fun hc => ?_) <;> refine AO ?_)
        case refine_2 => exact absurd hys (by assumption)
        repeat refine nx rfl ?_
        refine AA (AC (AB rfl ?_))
        repeat refine nx rfl ?_
        exact AI rfl ⟨by rw [CU, decide_eq_true (List.mem_of_getElem? (hys ▸ hy) : s ∈ keysL)]; simp [upd, Nat.beq], rfl⟩
       ·(refine AA (A1 rfl (A1 rfl ?_)) <;> refine Bs rfl rfl (fun hc => ?_) (fun hc => ?_) <;> refine AO ?_)
        case refine_1 => exact absurd (by assumption) hys
        repeat first | refine nx rfl ?_ | refine nf rfl ?_
        (refine AA (Av rfl rfl (by first | exact AV (by omega) (by omega) | exact AY (by omega) (by omega) | exact AW (by omega) (by omega)) ?_) <;> refine AG rfl ?_)
        repeat refine nx rfl ?_
        refine ⟨k + 1, ⟨rfl, ⟨rfl, rfl, rfl, ?_, trivial⟩, ⟨by omega, by rw [ht1]; simp [hn]; exact fun e => hys e.symm, rfl⟩⟩, by omega⟩
        show Value.int .i64 ((k : Int) + 1) = _
        rw [Int.natCast_add]; rfl
      ·obtain rfl : k = 10 := by omega
       refine AA (Aj rfl rfl (by omega) ?_)
       repeat first | refine nx rfl ?_ | refine nf rfl ?_
       refine AA (AB rfl (AC (AB rfl ?_)))
       repeat refine nx rfl ?_
       have hn' : s ∉ keysL := hn
       exact AI rfl ⟨by rw [CU, hsh, decide_eq_false hn', decide_eq_true (show 1 ≤ s.length by omega), decide_eq_true (show s.length ≤ 12 by omega)]; rfl, rfl⟩
 ·obtain rfl : k = s.length := by omega
  have hsh : shapeB s = true := (shapeB_iff s (by omega)).2 fun i c hc => hok i c (List.getElem?_eq_some_iff.1 hc).1 hc
  refine AA (Aj rfl rfl (by omega) ?_)
  repeat first | refine nx rfl ?_ | refine nf rfl ?_
  refine AA (Ao (L := keyC) rfl rfl hG ?_)
  refine AG rfl ?_
  repeat refine nx rfl ?_
  refine A3 (α := Nat) (fun k => [(0, An s), (3, .bool true), (47, .agg keyC.toArray), (48, .int .i64 (k : Int))]) (fun k W => k ≤ 10 ∧ s ∉ keysL.take k ∧ W = w1) (fun k => 10 - k) 0 ⟨rfl, rfl, rfl, rfl, trivial⟩ ⟨by omega, by simp, rfl⟩ ?_
  rintro k w2 f2 ⟨hk, hn, rfl⟩
  repeat refine nx rfl ?_
  by_cases hlt : k < 10
  ·obtain ⟨y, hy⟩ : ∃ y, keysL[k]? = some y := ⟨_, List.getElem?_eq_getElem (by show k < 10; exact hlt)⟩
   have hyc : keyC[k]? = some (An y) := by unfold keyC; rw [List.getElem?_map, hy]; rfl
   have ht1 : keysL.take (k + 1) = keysL.take k ++ [y] := by rw [List.take_add_one, hy]; rfl
   refine AA (At rfl rfl (by omega) ?_)
   repeat refine nx rfl ?_
   refine AA ?_
   refine W_vidx1 (L := keyC) rfl rfl (by omega) hyc ?_
   refine AC (A1 rfl ?_)
   repeat refine nx rfl ?_
   by_cases hys : y = s
   ·(refine AA (A1 rfl (A1 rfl ?_)) <;> refine Bs rfl rfl (fun hc => ?_) (fun hc => ?_) <;> refine AO ?_)
    case refine_2 => exact absurd hys (by assumption)
    repeat refine nx rfl ?_
    refine AA (AC (AB rfl ?_))
    repeat refine nx rfl ?_
    exact AI rfl ⟨by rw [CU, decide_eq_true (List.mem_of_getElem? (hys ▸ hy) : s ∈ keysL)]; simp [upd, Nat.beq], rfl⟩
   ·(refine AA (A1 rfl (A1 rfl ?_)) <;> refine Bs rfl rfl (fun hc => ?_) (fun hc => ?_) <;> refine AO ?_)
    case refine_1 => exact absurd (by assumption) hys
    repeat first | refine nx rfl ?_ | refine nf rfl ?_
    (refine AA (Av rfl rfl (by first | exact AV (by omega) (by omega) | exact AY (by omega) (by omega) | exact AW (by omega) (by omega)) ?_) <;> refine AG rfl ?_)
    repeat refine nx rfl ?_
    refine ⟨k + 1, ⟨rfl, ⟨rfl, rfl, rfl, ?_, trivial⟩, ⟨by omega, by rw [ht1]; simp [hn]; exact fun e => hys e.symm, rfl⟩⟩, by omega⟩
    show Value.int .i64 ((k : Int) + 1) = _
    rw [Int.natCast_add]; rfl
  ·obtain rfl : k = 10 := by omega
   refine AA (Aj rfl rfl (by omega) ?_)
   repeat first | refine nx rfl ?_ | refine nf rfl ?_
   refine AA (AB rfl (AC (AB rfl ?_)))
   repeat refine nx rfl ?_
   have hn' : s ∉ keysL := hn
   exact AI rfl ⟨by rw [CU, hsh, decide_eq_false hn', decide_eq_true (show 1 ≤ s.length by omega), decide_eq_true (show s.length ≤ 12 by omega)]; rfl, rfl⟩
end Go.Proofs.YtkhhjdjmhbdjfaaGreatDoor
namespace Go.Proofs.YtkhhjdjmhbdjfaaGreatDoor
set_option linter.unusedVariables false
variable {mk : Prop} [MK mk]
abbrev Wd := Nat → List UInt8 → Int
def yestS (v : Int) (p : Nat → Prop) : Nat → Prop
 | 0 => v = 1
 | t + 1 => p t
def sinceS (v : Int) (p q : Nat → Prop) : Nat → Prop
 | 0 => q 0 ∨ p 0 ∧ v = 1
 | t + 1 => q (t + 1) ∨ p (t + 1) ∧ sinceS v p q t
def trigS (v : Int) (p q : Nat → Prop) : Nat → Prop
 | 0 => q 0 ∧ (p 0 ∨ v = 1)
 | t + 1 => q (t + 1) ∧ (p (t + 1) ∨ trigS v p q t)
def untilS (p q : Nat → Prop) (t : Nat) : Prop := ∃ k, t ≤ k ∧ q k ∧ ∀ j, t ≤ j → j < k → p j
def relS (p q : Nat → Prop) (t : Nat) : Prop := ∀ k, t ≤ k → q k ∨ ∃ j, t ≤ j ∧ j < k ∧ p j
def opP (s : Wd) (op : Int) (nm : List UInt8) (v b : Int) (ps : List (Nat → Prop)) (p q : Nat → Prop) : Nat → Prop :=
 if op = 1 then fun _ => True
 else if op = 3 then fun t => s t nm = v
 else if op = 4 then fun t => ¬ p t
 else if op = 5 then fun t => ∀ a ∈ ps, a t
 else if op = 6 then fun t => ∃ a ∈ ps, a t
 else if op = 7 then fun t => p t → q t
 else if op = 8 then fun t => p (t + 1)
 else if op = 9 then untilS p q
 else if op = 10 then relS p q
 else if op = 11 then untilS (fun _ => True) p
 else if op = 12 then relS (fun _ => False) p
 else if op = 13 then fun t => ∃ k : Nat, (k : Int) ≤ b ∧ p (t + k)
 else if op = 14 then fun t => ∀ k : Nat, (k : Int) ≤ b → p (t + k)
 else if op = 15 then yestS v p
 else if op = 16 then sinceS v p q
 else if op = 17 then trigS v p q
 else if op = 18 then sinceS 0 (fun _ => True) p
 else if op = 19 then trigS 1 (fun _ => False) p
 else fun _ => False
def opS (s : Wd) (op : Int) (nm : List UInt8) (v b : Int) (ps : List (Nat → Prop)) : Nat → Prop := opP s op nm v b ps (ps.getD 0 fun _ => False) (ps.getD 1 fun _ => False)
end Go.Proofs.YtkhhjdjmhbdjfaaGreatDoor
namespace Go.Proofs.YtkhhjdjmhbdjfaaGreatDoor
set_option linter.unusedVariables false
variable {mk : Prop} [MK mk]
abbrev Vl := List UInt8 → Int
def futB (op : Int) : Bool := decide (8 ≤ op) && decide (op ≤ 14)
def pstB (op : Int) : Bool := decide (15 ≤ op) && decide (op ≤ 19)
def C2 (op : Int) : Bool := (decide (1 ≤ op) && decide (op ≤ 6)) || (decide (8 ≤ op) && decide (op ≤ 10)) || (decide (15 ≤ op) && decide (op ≤ 17))
def A8 (op : Int) (n : Nat) : Bool :=
 if op = 1 ∨ op = 2 ∨ op = 3 then decide (n = 0)
 else if op = 5 ∨ op = 6 then decide (2 ≤ n)
 else if op = 7 ∨ op = 9 ∨ op = 10 ∨ op = 16 ∨ op = 17 then decide (n = 2)
 else decide (n = 1)
def BX (op : Int) (nm : List UInt8) (v b : Int) (n : Nat) : Bool :=
 decide (1 ≤ op) && decide (op ≤ 19) && A8 op n && decide (0 ≤ v) && decide (v ≤ if op = 3 then 3 else if op = 15 ∨ op = 16 ∨ op = 17 then 1 else 0) &&
 decide (0 ≤ b) && decide (b ≤ if op = 13 ∨ op = 14 then 9 else 0) && (if op = 3 then nameB nm else nm.isEmpty)
mutual
def A9 : Bool → Fml → Bool
 | i, .mk op nm v b args => C2 op && BX op nm v b args.length && !(i && futB op) && (if op = 4 then (match args with | a :: _ => decide (a.op = 3) | [] => false) else true) && bareL (i || pstB op) args
def bareL : Bool → List Fml → Bool
 | _, [] => true
 | i, a :: l => A9 i a && bareL i l
end
mutual
def Bv : Fml → Bool
 | .mk op _ _ _ args => !(decide (op = 8) || decide (op = 9) || decide (op = 10)) && pastL args
def pastL : List Fml → Bool
 | [] => true
 | a :: l => Bv a && pastL l
end
theorem bareL_mem : ∀ {l : List Fml} {i : Bool} {a : Fml}, bareL i l = true → a ∈ l → A9 i a = true
 | [], _, _, _, h => by cases h
 | c :: l, i, a, h, ha => by
  simp only [bareL, Bool.and_eq_true] at h
  rcases List.mem_cons.1 ha with rfl | ha
  ·exact h.1
  ·exact bareL_mem h.2 ha
theorem pastL_mem : ∀ {l : List Fml} {a : Fml}, pastL l = true → a ∈ l → Bv a = true
 | [], _, _, h => by cases h
 | c :: l, a, h, ha => by
  simp only [pastL, Bool.and_eq_true] at h
  rcases List.mem_cons.1 ha with rfl | ha
  ·exact h.1
  ·exact pastL_mem h.2 ha
theorem pastL_of : ∀ {l : List Fml}, (∀ a ∈ l, Bv a = true) → pastL l = true
 | [], _ => rfl
 | c :: l, h => by
  simp only [pastL, Bool.and_eq_true]
  exact ⟨h c (by simp), pastL_of fun a ha => h a (by simp [ha])⟩
theorem bare_past : ∀ f : Fml, A9 true f = true → Bv f = true
 | .mk op nm v b args, h => by
  simp only [A9, Bool.and_eq_true, Bool.true_and, Bool.true_or, Bool.not_eq_true'] at h
  have hl := h.2
  have hf := h.1.1.2
  simp only [Bv, Bool.and_eq_true, Bool.not_eq_true', Bool.or_eq_false_iff, decide_eq_false_iff_not]
  refine ⟨?_, pastL_of fun a ha => bare_past a (bareL_mem hl ha)⟩
  simp only [futB, Bool.and_eq_false_iff, decide_eq_false_iff_not] at hf
  omega
theorem CP {op : Int} (h : C2 op = true) : op = 1 ∨ op = 2 ∨ op = 3 ∨ op = 4 ∨ op = 5 ∨ op = 6 ∨ op = 8 ∨ op = 9 ∨ op = 10 ∨ op = 15 ∨ op = 16 ∨ op = 17 := by
 simp only [C2, Bool.or_eq_true, Bool.and_eq_true, decide_eq_true_eq] at h
 omega
def CO (x : Vl) (op : Int) (nm : List UInt8) (v : Int) (m : Bool) (ps : List Bool) : Bool :=
 if op = 1 then true
 else if op = 3 then decide (x nm = v)
 else if op = 4 then !(ps.getD 0 false)
 else if op = 5 then ps.all id
 else if op = 6 then ps.any id
 else if op = 15 then m
 else if op = 16 then ps.getD 1 false || (m && ps.getD 0 false)
 else if op = 17 then ps.getD 1 false && (m || ps.getD 0 false)
 else false
mutual
def B5 (x : Vl) (says : Fml → Bool) : Fml → Bool
 | .mk op nm v b args => CO x op nm v (says (.mk op nm v b args)) (nowGL x says args)
def nowGL (x : Vl) (says : Fml → Bool) : List Fml → List Bool
 | [] => []
 | a :: l => B5 x says a :: nowGL x says l
end
theorem nowGL_eq (x : Vl) (says : Fml → Bool) : ∀ l, nowGL x says l = l.map (B5 x says)
 | [] => rfl
 | a :: l => by rw [nowGL, nowGL_eq x says l]; rfl
def saysV (f : Fml) : Bool := decide (f.val = 1)
def BH (x : Vl) : Fml → Bool := B5 x saysV
theorem nowM_eq (x : Vl) (op : Int) (nm : List UInt8) (v b : Int) (args : List Fml) : BH x (.mk op nm v b args) = CO x op nm v (decide (v = 1)) (args.map (BH x)) := by
 unfold BH
 rw [B5, nowGL_eq]; rfl
theorem two_args {l : List Fml} (h : l.length = 2) : ∃ a c, l = [a, c] := by
 match l, h with
 | [a, c], _ => exact ⟨a, c, rfl⟩
theorem Ck {l : List Fml} (h : l.length = 1) : ∃ a, l = [a] := by
 match l, h with
 | [a], _ => exact ⟨a, rfl⟩
theorem Bk {op v b : Int} {nm : List UInt8} {n : Nat} (h : BX op nm v b n = true) : A8 op n = true := by
 simp only [BX, Bool.and_eq_true] at h
 exact h.1.1.1.1.1.2
def bitI (b : Bool) : Int := if b then 1 else 0
def agedV (x : Vl) (op : Int) (v : Int) (first self : Bool) : Int := if op = 15 then bitI first else if op = 16 ∨ op = 17 then bitI self else v
mutual
def CG (x : Vl) : Fml → Fml
 | .mk op nm v b args => .mk op nm (agedV x op v ((args.map (BH x)).getD 0 false) (BH x (.mk op nm v b args))) 0 (agedL x args)
def agedL (x : Vl) : List Fml → List Fml
 | [] => []
 | a :: l => CG x a :: agedL x l
end
theorem agedL_eq (x : Vl) : ∀ l, agedL x l = l.map (CG x)
 | [] => rfl
 | a :: l => by rw [agedL, agedL_eq x l]; rfl
def trueF : Fml := ⟨1, [], 0, 0, []⟩
def falseF : Fml := ⟨2, [], 0, 0, []⟩
def constF (b : Bool) : Fml := if b then trueF else falseF
def opF (op : Int) (l : List Fml) : Fml := ⟨op, [], 0, 0, l⟩
def rawOp (op : Int) (self : Fml) (raws ageds : List Fml) : Fml :=
 if op = 5 ∨ op = 6 then opF op raws
 else if op = 8 then ageds.getD 0 Af
 else if op = 9 then opF 6 [raws.getD 1 Af, opF 5 [raws.getD 0 Af, self]]
 else if op = 10 then opF 5 [raws.getD 1 Af, opF 6 [raws.getD 0 Af, self]]
 else Af
mutual
def rawF (x : Vl) : Fml → Fml
 | .mk op nm v b args => if Bv (.mk op nm v b args) then constF (BH x (.mk op nm v b args)) else rawOp op (CG x (.mk op nm v b args)) (rawL x args) (agedL x args)
def rawL (x : Vl) : List Fml → List Fml
 | [] => []
 | a :: l => rawF x a :: rawL x l
end
theorem rawL_eq (x : Vl) : ∀ l, rawL x l = l.map (rawF x)
 | [] => rfl
 | a :: l => by rw [rawL, rawL_eq x l]; rfl
end Go.Proofs.YtkhhjdjmhbdjfaaGreatDoor
