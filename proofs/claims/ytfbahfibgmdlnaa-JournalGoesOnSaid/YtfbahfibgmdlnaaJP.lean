/- The journal, as plain functions on lists of bytes. Conditions: none. -/
import Derived.Test.YtfbahfibgmdlnaaDraw
namespace Go.Proofs.Ytfbahfibgmdlnaa

def b8 (n : Nat) : UInt8 := UInt8.ofNat n
theorem b8_toNat {n : Nat} (h : n ≤ 255) : (b8 n).toNat = n := by simp [b8, UInt8.toNat_ofNat']; omega
theorem enc8_b8 {n : Nat} (h : n ≤ 255) : enc8 (b8 n) = .int .u8 (n : Int) := by simp [enc8, b8_toNat h]

/-- a number of two bytes -/
def two (n : Nat) : List UInt8 := [b8 (n / 256), b8 (n % 256)]
theorem two_length (n : Nat) : (two n).length = 2 := rfl
def un (a b : UInt8) : Nat := a.toNat * 256 + b.toNat
theorem un_le (a b : UInt8) : un a b ≤ 65535 := by have := a.toNat_lt; have := b.toNat_lt; unfold un; omega
theorem un_two {n : Nat} (h : n ≤ 65535) : un (b8 (n / 256)) (b8 (n % 256)) = n := by
  unfold un; rw [b8_toNat (by omega), b8_toNat (by omega)]; omega

/-- the two numbers of a checksum -/
def stp (s : Nat × Nat) (c : UInt8) : Nat × Nat := ((s.1 + c.toNat) % 65521, (s.2 + (s.1 + c.toNat) % 65521) % 65521)
def sums (s : Nat × Nat) (l : List UInt8) : Nat × Nat := l.foldl stp s
def chk (l : List UInt8) : List UInt8 := two (sums (1, 0) l).2 ++ two (sums (1, 0) l).1
theorem chk_length (l : List UInt8) : (chk l).length = 4 := rfl
theorem stp_lt (s : Nat × Nat) (c : UInt8) : (stp s c).1 < 65521 ∧ (stp s c).2 < 65521 := ⟨Nat.mod_lt _ (by omega), Nat.mod_lt _ (by omega)⟩
theorem sums_lt (l : List UInt8) : ∀ s : Nat × Nat, s.1 < 65521 → s.2 < 65521 → (sums s l).1 < 65521 ∧ (sums s l).2 < 65521 := by
  induction l with
  | nil => intro s h1 h2; exact ⟨h1, h2⟩
  | cons c l ih => intro s _ _; exact ih _ (stp_lt s c).1 (stp_lt s c).2
theorem sums_append (s : Nat × Nat) (l m : List UInt8) : sums s (l ++ m) = sums (sums s l) m := List.foldl_append
theorem sums_snoc (s : Nat × Nat) (l : List UInt8) (c : UInt8) : sums s (l ++ [c]) = stp (sums s l) c := by rw [sums_append]; rfl

structure Ent where
  kind : Int
  n : Int
  text : List UInt8
def entV (e : Ent) : Value := .agg #[.int .i64 e.kind, .int .i64 e.n, strV e.text]
def zeroE : Ent := ⟨0, 0, []⟩
def writable (e : Ent) : Bool := decide (1 ≤ e.kind) && decide (e.kind ≤ 4) && decide (0 ≤ e.n) && decide (e.n ≤ 65535) && decide (e.text.length ≤ 3997)
def encode (e : Ent) : List UInt8 := if writable e then b8 e.kind.toNat :: (two e.n.toNat ++ e.text) else []
def decode : List UInt8 → Option Ent
  | a :: b :: c :: t => let e : Ent := ⟨a.toNat, un b c, t⟩; if writable e then some e else none
  | _ => none

/-- the frame of a record -/
def frm (r : List UInt8) : List UInt8 := two r.length ++ chk (two r.length ++ r) ++ r
theorem frm_length (r : List UInt8) : (frm r).length = 6 + r.length := by simp [frm, two_length, chk_length]; omega
/-- the record of the frame at the beginning -/
def first (b : List UInt8) : Option (List UInt8) :=
  if b.length < 6 then none else
  let n := un (b.getD 0 0) (b.getD 1 0)
  if n < 1 ∨ 4000 < n ∨ b.length < 6 + n then none else
  let r := (b.drop 6).take n
  if frm r = b.take (6 + n) then some r else none
/-- at most k complete records, and how many bytes they take -/
def recs : Nat → List UInt8 → List (List UInt8) × Nat
  | 0, _ => ([], 0)
  | k + 1, b => match first b with
    | none => ([], 0)
    | some r => (r :: (recs k (b.drop (6 + r.length))).1, 6 + r.length + (recs k (b.drop (6 + r.length))).2)

theorem first_length {b r : List UInt8} (h : first b = some r) : 1 ≤ r.length ∧ r.length ≤ 4000 ∧ 6 + r.length ≤ b.length := by
  unfold first at h
  split at h
  · cases h
  · simp only at h
    split at h
    · cases h
    · rename_i h1 h2
      simp only [not_or, Nat.not_lt] at h2
      split at h
      · cases h
        simp only [List.length_take, List.length_drop]
        omega
      · cases h

end Go.Proofs.Ytfbahfibgmdlnaa
