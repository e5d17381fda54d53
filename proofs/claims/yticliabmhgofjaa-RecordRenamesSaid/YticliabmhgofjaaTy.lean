/- The facts on this seat's types and functions, by program (ty.py). Conditions: none. -/
import Derived.Test.YticliabmhgofjaaMaps
import Derived.Test.YticliabmhgofjaaTyHelp
import Derived.Test.YticliabmhgofjaaOps4
import Derived.Test.YticliabmhgofjaaRows
namespace Go.Proofs.Yticliabmhgofjaa
instance : BoolT Try.prog 4 := ⟨Try.underlying4⟩
instance : FieldT Try.prog 24 0 0 22 := fieldT_of (s := 0) Try.underlying24 rfl rfl rfl (by kernel_rfl)
instance : FieldT Try.prog 24 1 1 22 := fieldT_of (s := 0) Try.underlying24 rfl rfl rfl (by kernel_rfl)
instance : IntT Try.prog 3 .i64 := ⟨Try.underlying3⟩
instance : OneT Try.prog 22 := ⟨_, Try.underlying22, rfl⟩
instance : AggT Try.prog 24 2 := aggT_of Try.underlying24 rfl (by kernel_rfl)
instance : OneT Try.prog 3 := ⟨_, Try.underlying3, rfl⟩
instance : OneT Try.prog 4 := ⟨_, Try.underlying4, rfl⟩
instance : OneT Try.prog 44 := ⟨_, Try.underlying44, rfl⟩
instance : MapT Try.prog 44 := mapT_of Try.underlying44 Try.underlying3 (by kernel_rfl)
instance : SizeT Try.prog 22 1 := sizeT_of (by kernel_rfl)
instance : SizeT Try.prog 24 2 := sizeT_of (by kernel_rfl)
instance : SizeT Try.prog 3 1 := sizeT_of (by kernel_rfl)
instance : SizeT Try.prog 4 1 := sizeT_of (by kernel_rfl)
instance : SizeT Try.prog 44 1 := sizeT_of (by kernel_rfl)
instance : SlT Try.prog 22 3 1 8 (.int .i64 0) := slT_of Try.underlying22 (by kernel_rfl)
instance : SlT Try.prog 25 24 2 48 (.agg #[(.slice none 0 0), (.slice none 0 0)]) := slT_of Try.underlying25 (by kernel_rfl)
instance : SlT Try.prog 48 4 1 1 (.bool false) := slT_of Try.underlying48 (by kernel_rfl)
instance : StT Try.prog 24 [(0, 1), (1, 1)] [(.slice none 0 0), (.slice none 0 0)] := stT_of (z := (.agg #[(.slice none 0 0), (.slice none 0 0)])) Try.underlying24 (by kernel_rfl) rfl (by kernel_rfl)
instance : ZeroT Try.prog 24 [(.slice none 0 0), (.slice none 0 0)] := zeroT_of (z := (.agg #[(.slice none 0 0), (.slice none 0 0)])) (by kernel_rfl) rfl
instance : ZeroT Try.prog 44 [(.map none)] := zeroT_of (z := (.map none)) (by kernel_rfl) rfl
instance : PlainFn Try.prog 2 := plainFn_of Try.func2 (by kernel_rfl) (by kernel_rfl)
instance : PlainFn Try.prog 3 := plainFn_of Try.func3 (by kernel_rfl) (by kernel_rfl)
instance : PlainFn Try.prog 4 := plainFn_of Try.func4 (by kernel_rfl) (by kernel_rfl)
instance : PlainFn Try.prog 5 := plainFn_of Try.func5 (by kernel_rfl) (by kernel_rfl)
instance : PlainFn Try.prog 6 := plainFn_of Try.func6 (by kernel_rfl) (by kernel_rfl)
instance : PlainFn Try.prog 7 := plainFn_of Try.func7 (by kernel_rfl) (by kernel_rfl)
instance : PlainFn Try.prog 8 := plainFn_of Try.func8 (by kernel_rfl) (by kernel_rfl)
instance : PlainFn Try.prog 9 := plainFn_of Try.func9 (by kernel_rfl) (by kernel_rfl)
instance : PlainFn Try.prog 10 := plainFn_of Try.func10 (by kernel_rfl) (by kernel_rfl)
instance : PlainFn Try.prog 11 := plainFn_of Try.func11 (by kernel_rfl) (by kernel_rfl)
instance : PlainFn Try.prog 12 := plainFn_of Try.func12 (by kernel_rfl) (by kernel_rfl)
instance : PlainFn Try.prog 13 := plainFn_of Try.func13 (by kernel_rfl) (by kernel_rfl)
instance : PlainFn Try.prog 14 := plainFn_of Try.func14 (by kernel_rfl) (by kernel_rfl)
instance : PlainFn Try.prog 15 := plainFn_of Try.func15 (by kernel_rfl) (by kernel_rfl)
instance : PlainFn Try.prog 16 := plainFn_of Try.func16 (by kernel_rfl) (by kernel_rfl)
instance : PlainFn Try.prog 17 := plainFn_of Try.func17 (by kernel_rfl) (by kernel_rfl)
instance : PlainFn Try.prog 18 := plainFn_of Try.func18 (by kernel_rfl) (by kernel_rfl)
instance : PlainFn Try.prog 19 := plainFn_of Try.func19 (by kernel_rfl) (by kernel_rfl)
instance : PlainFn Try.prog 20 := plainFn_of Try.func20 (by kernel_rfl) (by kernel_rfl)
instance : PlainFn Try.prog 21 := plainFn_of Try.func21 (by kernel_rfl) (by kernel_rfl)
instance : PlainFn Try.prog 22 := plainFn_of Try.func22 (by kernel_rfl) (by kernel_rfl)
instance : PlainFn Try.prog 23 := plainFn_of Try.func23 (by kernel_rfl) (by kernel_rfl)
instance : PlainFn Try.prog 24 := plainFn_of Try.func24 (by kernel_rfl) (by kernel_rfl)
instance : PlainFn Try.prog 25 := plainFn_of Try.func25 (by kernel_rfl) (by kernel_rfl)
instance : PlainFn Try.prog 26 := plainFn_of Try.func26 (by kernel_rfl) (by kernel_rfl)
instance : PlainFn Try.prog 27 := plainFn_of Try.func27 (by kernel_rfl) (by kernel_rfl)
instance : PlainFn Try.prog 28 := plainFn_of Try.func28 (by kernel_rfl) (by kernel_rfl)
instance : PlainFn Try.prog 29 := plainFn_of Try.func29 (by kernel_rfl) (by kernel_rfl)
instance : PlainFn Try.prog 30 := plainFn_of Try.func30 (by kernel_rfl) (by kernel_rfl)
theorem depth2 : 2 ≤ Try.prog.depth := Nat.le_of_ble_eq_true (by kernel_rfl)
theorem mixed : Try.prog.follows .mixedOrders = true := by kernel_rfl
end Go.Proofs.Yticliabmhgofjaa
