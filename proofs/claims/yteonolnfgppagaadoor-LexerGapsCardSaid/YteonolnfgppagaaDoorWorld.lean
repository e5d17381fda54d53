/- Facts about a world's blocks: what stays, what a block holds, slices that read as cells. Conditions: none. -/
import Derived.Test.YteonolnfgppagaaDoorSh
import Derived.Laws.AppendOwn
import Derived.Laws.MakeOwn
import Derived.Laws.CopyRow
import Derived.Deep.Draws
namespace Go.Proofs.YteonolnfgppagaaDoor
open Go.RowKit

/-- all blocks are there; those that are not listed are as they were -/
structure Keep (X : List Nat) (w w' : World) : Prop where
  os : w'.os = w.os
  tape : w'.tape = w.tape
  output : w'.output = w.output
  size : w.heap.size ≤ w'.heap.size
  block : ∀ b, b < w.heap.size → b ∉ X → w'.heap[b]? = w.heap[b]?

abbrev Ext (w w' : World) : Prop := Keep [] w w'

theorem Keep.refl (X : List Nat) (w : World) : Keep X w w := ⟨rfl, rfl, rfl, Nat.le_refl _, fun _ _ _ => rfl⟩
theorem Ext.refl (w : World) : Ext w w := Keep.refl [] w
theorem Keep.trans {X Y : List Nat} {a b c : World} (h : Keep X a b) (k : Keep Y b c) (hY : ∀ x ∈ Y, x < a.heap.size → x ∈ X) : Keep X a c :=
  ⟨k.os.trans h.os, k.tape.trans h.tape, k.output.trans h.output, Nat.le_trans h.size k.size, fun i hi hx =>
    (k.block i (Nat.lt_of_lt_of_le hi h.size) fun hy => hx (hY i hy hi)).trans (h.block i hi hx)⟩
theorem Keep.ext {X : List Nat} {a b c : World} (h : Keep X a b) (k : Ext b c) : Keep X a c := h.trans k (fun _ hx => by cases hx)
theorem Keep.mono {X Y : List Nat} {a b : World} (h : Keep X a b) (hxy : ∀ x ∈ X, x ∈ Y) : Keep Y a b :=
  ⟨h.os, h.tape, h.output, h.size, fun i hi hx => h.block i hi fun hm => hx (hxy i hm)⟩
theorem Ext.any {X : List Nat} {a b : World} (h : Ext a b) : Keep X a b := h.mono fun _ hx => by cases hx
/-- a change of blocks that are new since a -/
theorem Ext.keep {Y : List Nat} {a b c : World} (h : Ext a b) (k : Keep Y b c) (hY : ∀ x ∈ Y, a.heap.size ≤ x) : Ext a c :=
  h.trans k fun x hx hlt => absurd (hY x hx) (by omega)
theorem Ext.trans {a b c : World} (h : Ext a b) (k : Ext b c) : Ext a c := Keep.ext h k
theorem Ext.below {a b : World} (h : Ext a b) : Below a.heap.size a b := ⟨h.os, h.tape, h.output, h.size, fun k hk => h.block k hk (by simp)⟩
theorem Ext.of_below {a b : World} (h : Below a.heap.size a b) : Ext a b := ⟨h.os, h.tape, h.output, h.size, fun k hk _ => h.block k hk⟩
theorem Ext.drawn {a b : World} (h : Ext a b) (n : Nat) : Ext a { b with drawn := n } := ⟨h.os, h.tape, h.output, h.size, h.block⟩
theorem Keep.of_grown {w w' : World} {row : Option Nat} (h : w.grownBy w' row) : Keep row.toList w w' :=
  ⟨h.os, h.tape, h.output, h.size, fun k hk hx => h.block k hk fun e => hx (by rw [← e]; simp)⟩

theorem Keep.cell {X : List Nat} {w w' : World} (h : Keep X w w') {b o : Nat} {v : Value} (hc : w.cell? ⟨b, o, none⟩ = some v) (hb : b ∉ X) : w'.cell? ⟨b, o, none⟩ = some v := by
  have hlt := World.block_lt_of_cell? w _ hc
  exact (World.cell?_of_block (w := w) (h.block b hlt hb)).trans hc

/-- block b holds these cells, and may be written -/
def Blk (w : World) (b : Nat) (T : TypeId) (L : List Value) : Prop := w.heap[b]? = some (.cells L.toArray T (0, 0))

theorem Blk.lt {w : World} {b : Nat} {T : TypeId} {L : List Value} (h : Blk w b T L) : b < w.heap.size := (Array.getElem?_eq_some_iff.1 h).1
theorem Blk.keep {X : List Nat} {w w' : World} {b : Nat} {T : TypeId} {L : List Value} (h : Blk w b T L) (k : Keep X w w') (hb : b ∉ X) : Blk w' b T L := (k.block b h.lt hb).trans h
theorem Blk.cell {w : World} {b : Nat} {T : TypeId} {L : List Value} (h : Blk w b T L) {o : Nat} {v : Value} (ho : L[o]? = some v) : w.cell? ⟨b, o, none⟩ = some v := by
  unfold Blk at h
  simp [World.cell?, h, ho]
theorem Blk.frozen {w : World} {b : Nat} {T : TypeId} {L : List Value} (h : Blk w b T L) (o : Nat) : w.frozen? ⟨b, o, none⟩ = false := by
  unfold Blk at h
  simp [World.frozen?, h]

/-- a new block -/
structure New (w w' : World) (T : TypeId) (L : List Value) : Prop where
  keep : Ext w w'
  size : w'.heap.size = w.heap.size + 1
  blk : Blk w' w.heap.size T L

theorem New.mk_alloc (w : World) (L : List Value) (T : TypeId) : New w (w.alloc (.cells L.toArray T)) T L :=
  ⟨⟨rfl, rfl, rfl, by simp, fun k hk _ => heap_alloc_old w _ hk⟩, by simp, heap_alloc_new w _⟩

/-- a store into block b -/
structure Put (w w' : World) (b : Nat) (T : TypeId) (L : List Value) : Prop where
  keep : Keep [b] w w'
  size : w'.heap.size = w.heap.size
  blk : Blk w' b T L

theorem Put.mk_setCell {w : World} {b : Nat} {T : TypeId} {L : List Value} (h : Blk w b T L) (o : Nat) (v : Value) : Put w (w.setCell ⟨b, o, none⟩ v) b T (L.set o v) := by
  unfold Blk at h
  refine ⟨⟨rfl, rfl, rfl, by simp [World.setCell], fun k _ hk => ?_⟩, by simp [World.setCell], ?_⟩
  · exact Below.heap_setCell w ⟨b, o, none⟩ v k (by simpa using hk)
  · simp only [Blk, World.setCell, Array.getElem?_modify, h]
    simp

/-! ### Slices -/
/-- the cells of block b from off on -/
def Cells (w : World) (b off : Nat) (cs : List Value) : Prop := ∀ (i : Nat) (u : Value), cs[i]? = some u → w.cell? ⟨b, off + i, none⟩ = some u

theorem Cells.keep {X : List Nat} {w w' : World} {b off : Nat} {cs : List Value} (h : Cells w b off cs) (k : Keep X w w') (hb : b ∉ X) : Cells w' b off cs :=
  fun i u hu => k.cell (h i u hu) hb
theorem Blk.cells {w : World} {b : Nat} {T : TypeId} {L : List Value} (h : Blk w b T L) : Cells w b 0 L := fun i u hu => by rw [Nat.zero_add]; exact h.cell hu
theorem Cells.part {w : World} {b off : Nat} {cs : List Value} (h : Cells w b off cs) (k n : Nat) : Cells w b (off + k) ((cs.drop k).take n) := by
  intro i u hu
  rw [List.getElem?_take] at hu
  split at hu
  · rw [List.getElem?_drop] at hu
    rw [Nat.add_assoc]
    exact h (k + i) u hu
  · cases hu

/-- the place where a slice lies, k cells further on, where c of its places are left out of cap -/
def adv (cap l size : Nat) (a : Option Addr) : Option Addr := if cap = l then a else a.map (·.add (l * size))

/-- v is a slice of n elements whose cells are cs, in blocks that ok allows -/
def Sl (ok : Nat → Prop) (w : World) (v : Value) (n : Nat) (cs : List Value) : Prop :=
  ∃ a cap, v = .slice a n cap ∧ n ≤ cap ∧ cap ≤ 9223372036854775807 ∧ (a = none → cap = 0) ∧
    (n = 0 ∨ ∃ b off, a = some ⟨b, off, none⟩ ∧ ok b ∧ Cells w b off cs)

theorem Sl.keep {ok : Nat → Prop} {X : List Nat} {w w' : World} {v : Value} {n : Nat} {cs : List Value} (h : Sl ok w v n cs) (k : Keep X w w') (hX : ∀ b, ok b → b ∉ X) : Sl ok w' v n cs := by
  obtain ⟨a, cap, hv, h1, h2, h3, h4⟩ := h
  refine ⟨a, cap, hv, h1, h2, h3, h4.imp id ?_⟩
  rintro ⟨b, off, ha, hb, hc⟩
  exact ⟨b, off, ha, hb, hc.keep k (hX b hb)⟩
theorem Sl.ext {ok : Nat → Prop} {w w' : World} {v : Value} {n : Nat} {cs : List Value} (h : Sl ok w v n cs) (k : Ext w w') : Sl ok w' v n cs := h.keep k fun _ _ => by simp
theorem Sl.mono {ok ok' : Nat → Prop} {w : World} {v : Value} {n : Nat} {cs : List Value} (h : Sl ok w v n cs) (hk : ∀ b, ok b → ok' b) : Sl ok' w v n cs := by
  obtain ⟨a, cap, hv, h1, h2, h3, h4⟩ := h
  refine ⟨a, cap, hv, h1, h2, h3, h4.imp id ?_⟩
  rintro ⟨b, off, ha, hb, hc⟩
  exact ⟨b, off, ha, hk b hb, hc⟩

/-- a new row is the call's own -/
theorem New.own {w w' : World} {e size n B : Nat} {out : List Value} (h : New w w' e out) (hl : out.length = n * size) (hn : n ≤ maxLen) (hB : B ≤ w.heap.size) : w'.ownsRow B e size (.slice (some ⟨w.heap.size, 0, none⟩) n n) n out :=
  ⟨hl, .inr ⟨w.heap.size, n, out.toArray, rfl, hB, h.blk, Nat.le_refl _, hn, by simpa using hl, by rw [← hl]; simp⟩⟩
theorem ownsRow_mono {w : World} {B B' e size n : Nat} {v : Value} {xs : List Value} (h : w.ownsRow B e size v n xs) (hB : B' ≤ B) : w.ownsRow B' e size v n xs := by
  refine ⟨h.1, h.2.imp id ?_⟩
  rintro ⟨g, cap, cur, hv, hg, r⟩
  exact ⟨g, cap, cur, hv, Nat.le_trans hB hg, r⟩
theorem ownsRow_keep {X : List Nat} {w w' : World} {B e size n : Nat} {v : Value} {xs : List Value} (h : w.ownsRow B e size v n xs) (k : Keep X w w') (hX : ∀ g, v.ownBlock = some g → g ∉ X) : w'.ownsRow B e size v n xs := by
  refine ⟨h.1, h.2.imp id ?_⟩
  rintro ⟨g, cap, cur, rfl, hg, hh, r⟩
  exact ⟨g, cap, cur, rfl, hg, (k.block g (Array.getElem?_eq_some_iff.1 hh).1 (hX g rfl)).trans hh, r⟩
theorem ownsRow_ext {w w' : World} {B e size n : Nat} {v : Value} {xs : List Value} (h : w.ownsRow B e size v n xs) (k : Ext w w') : w'.ownsRow B e size v n xs := ownsRow_keep h k fun _ _ => by simp
/-- a row of the call's own, read -/
theorem Sl_of_own {w : World} {B e size n : Nat} {v : Value} {xs : List Value} {ok : Nat → Prop} (h : w.ownsRow B e size v n xs) (hok : ∀ g, v.ownBlock = some g → ok g) : Sl ok w v n xs := by
  obtain ⟨hl, hv⟩ := h
  rcases hv with ⟨rfl, rfl⟩ | ⟨g, cap, cur, rfl, hb, hg, hnc, hcm, hcs, ht⟩
  · exact ⟨none, 0, rfl, by omega, by omega, fun _ => rfl, .inl rfl⟩
  · refine ⟨_, cap, rfl, hnc, by unfold maxLen at hcm; omega, (fun h => by cases h), .inr ⟨g, 0, rfl, hok g rfl, ?_⟩⟩
    intro i u hu
    have hlt : i < n * size := by rw [← hl]; exact (List.getElem?_eq_some_iff.1 hu).1
    rw [← ht, List.getElem?_take, if_pos hlt] at hu
    simp only [World.cell?, hg, Nat.zero_add]
    simpa using hu

/-- any block -/
def anyB : Nat → Prop := fun _ => True

/-! ### Bytes -/
def enc8 (c : UInt8) : Value := .int .u8 (c.toNat : Int)
def cells8 (l : List UInt8) : List Value := l.map enc8
theorem cells8_length (l : List UInt8) : (cells8 l).length = l.length := by simp [cells8]
theorem cells8_append (l m : List UInt8) : cells8 (l ++ m) = cells8 l ++ cells8 m := by simp [cells8]
theorem cells8_get {l : List UInt8} {i : Nat} (h : i < l.length) : (cells8 l)[i]? = some (enc8 (l.getD i 0)) := by
  simp [cells8, h]

/-- v is a slice of bytes that reads as l -/
def BytesAt (ok : Nat → Prop) (w : World) (v : Value) (l : List UInt8) : Prop := Sl ok w v l.length (cells8 l)

/-- v is a slice of slices of bytes that reads as ls -/
def LB (ok : Nat → Prop) (w : World) (v : Value) (ls : List (List UInt8)) : Prop :=
  ∃ vs : List Value, Sl ok w v ls.length vs ∧ vs.length = ls.length ∧ ∀ (i : Nat) (u : Value) (l : List UInt8), vs[i]? = some u → ls[i]? = some l → BytesAt ok w u l
theorem LB.keep {ok : Nat → Prop} {X : List Nat} {w w' : World} {v : Value} {ls : List (List UInt8)} (h : LB ok w v ls) (k : Keep X w w') (hX : ∀ b, ok b → b ∉ X) : LB ok w' v ls := by
  obtain ⟨vs, h1, h2, h3⟩ := h
  exact ⟨vs, h1.keep k hX, h2, fun i u l hu hl => (h3 i u l hu hl).keep k hX⟩

end Go.Proofs.YteonolnfgppagaaDoor
