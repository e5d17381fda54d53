/- The facts on this seat's types and functions, by program (ty.py). Conditions: none. -/
import Derived.Test.YtfbahfibgmdlnaaTyHelp
import Derived.Test.YtfbahfibgmdlnaaOps4
import Derived.Test.YtfbahfibgmdlnaaRows
namespace Go.Proofs.Ytfbahfibgmdlnaa
instance : BoolT Try.prog 4 := ⟨Try.underlying4⟩
instance : FieldT Try.prog 23 0 0 3 := fieldT_of (s := 0) Try.underlying23 rfl rfl rfl (by kernel_rfl)
instance : FieldT Try.prog 23 1 1 3 := fieldT_of (s := 0) Try.underlying23 rfl rfl rfl (by kernel_rfl)
instance : FieldT Try.prog 23 2 2 9 := fieldT_of (s := 0) Try.underlying23 rfl rfl rfl (by kernel_rfl)
instance : FlT Try.prog 23 [(0, 3), (1, 3), (2, 9)] := ⟨by kernel_rfl, by kernel_rfl, by kernel_rfl, by kernel_rfl, by kernel_rfl⟩
instance : SlT Try.prog 24 5 1 1 (.int .u8 0) := slT_of Try.underlying24 (by kernel_rfl)
instance : IntT Try.prog 3 .i64 := ⟨Try.underlying3⟩
instance : IntT Try.prog 40 .u16 := ⟨Try.underlying40⟩
instance : IntT Try.prog 5 .u8 := ⟨Try.underlying5⟩
instance : StrT Try.prog 9 := ⟨Try.underlying9⟩
instance : AggT Try.prog 23 3 := aggT_of Try.underlying23 rfl (by kernel_rfl)
instance : OneT Try.prog 24 := ⟨_, Try.underlying24, rfl⟩
instance : OneT Try.prog 3 := ⟨_, Try.underlying3, rfl⟩
instance : OneT Try.prog 31 := ⟨_, Try.underlying31, rfl⟩
instance : OneT Try.prog 5 := ⟨_, Try.underlying5, rfl⟩
instance : AggT Try.prog 52 4 := aggT_of Try.underlying52 rfl (by kernel_rfl)
instance : OneT Try.prog 9 := ⟨_, Try.underlying9, rfl⟩
instance : SizeT Try.prog 23 3 := sizeT_of (by kernel_rfl)
instance : SizeT Try.prog 3 1 := sizeT_of (by kernel_rfl)
instance : SizeT Try.prog 31 1 := sizeT_of (by kernel_rfl)
instance : SizeT Try.prog 5 1 := sizeT_of (by kernel_rfl)
instance : SizeT Try.prog 52 4 := sizeT_of (by kernel_rfl)
instance : SizeT Try.prog 59 2 := sizeT_of (by kernel_rfl)
instance : SlT Try.prog 31 24 1 24 (.slice none 0 0) := slT_of Try.underlying31 (by kernel_rfl)
instance : ArrT Try.prog 52 4 5 1 := arrT_of Try.underlying52 (by kernel_rfl)
instance : ArrT Try.prog 59 2 3 1 := arrT_of Try.underlying59 (by kernel_rfl)
instance : StT Try.prog 23 [(0, 1), (1, 1), (2, 1)] [(.int .i64 0), (.int .i64 0), (strV [])] := stT_of (z := (.agg #[(.int .i64 0), (.int .i64 0), (strV [])])) Try.underlying23 (by kernel_rfl) rfl (by kernel_rfl)
instance : ZeroT Try.prog 59 [(.int .i64 0), (.int .i64 0)] := zeroT_of (z := (.agg #[(.int .i64 0), (.int .i64 0)])) (by kernel_rfl) rfl
instance : ZeroT Try.prog 23 [(.int .i64 0), (.int .i64 0), (strV [])] := zeroT_of (z := (.agg #[(.int .i64 0), (.int .i64 0), (strV [])])) (by kernel_rfl) rfl
instance : ZeroT Try.prog 3 [(.int .i64 0)] := zeroT_of (z := (.int .i64 0)) (by kernel_rfl) rfl
instance : ZeroT Try.prog 31 [(.slice none 0 0)] := zeroT_of (z := (.slice none 0 0)) (by kernel_rfl) rfl
instance : ZeroT Try.prog 52 [(.int .u8 0), (.int .u8 0), (.int .u8 0), (.int .u8 0)] := zeroT_of (z := (.agg #[(.int .u8 0), (.int .u8 0), (.int .u8 0), (.int .u8 0)])) (by kernel_rfl) rfl
instance : PlainFn Try.prog 2 := plainFn_of Try.func2 (by kernel_rfl) (by kernel_rfl)
instance : PlainFn Try.prog 3 := plainFn_of Try.func3 (by kernel_rfl) (by kernel_rfl)
instance : PlainFn Try.prog 4 := plainFn_of Try.func4 (by kernel_rfl) (by kernel_rfl)
instance : PlainFn Try.prog 5 := plainFn_of Try.func5 (by kernel_rfl) (by kernel_rfl)
instance : PlainFn Try.prog 6 := plainFn_of Try.func6 (by kernel_rfl) (by kernel_rfl)
instance : PlainFn Try.prog 7 := plainFn_of Try.func7 (by kernel_rfl) (by kernel_rfl)
instance : PlainFn Try.prog 8 := plainFn_of Try.func8 (by kernel_rfl) (by kernel_rfl)
instance : PlainFn Try.prog 9 := plainFn_of Try.func9 (by kernel_rfl) (by kernel_rfl)
instance : PlainFn Try.prog 10 := plainFn_of Try.func10 (by kernel_rfl) (by kernel_rfl)
instance : PlainFn Try.prog 11 := plainFn_of Try.func11 (by kernel_rfl) (by kernel_rfl)
instance : PlainFn Try.prog 12 := plainFn_of Try.func12 (by kernel_rfl) (by kernel_rfl)
instance : PlainFn Try.prog 13 := plainFn_of Try.func13 (by kernel_rfl) (by kernel_rfl)
instance : PlainFn Try.prog 14 := plainFn_of Try.func14 (by kernel_rfl) (by kernel_rfl)
instance : PlainFn Try.prog 15 := plainFn_of Try.func15 (by kernel_rfl) (by kernel_rfl)
instance : PlainFn Try.prog 16 := plainFn_of Try.func16 (by kernel_rfl) (by kernel_rfl)
instance : PlainFn Try.prog 17 := plainFn_of Try.func17 (by kernel_rfl) (by kernel_rfl)
instance : PlainFn Try.prog 18 := plainFn_of Try.func18 (by kernel_rfl) (by kernel_rfl)
instance : PlainFn Try.prog 19 := plainFn_of Try.func19 (by kernel_rfl) (by kernel_rfl)
instance : PlainFn Try.prog 20 := plainFn_of Try.func20 (by kernel_rfl) (by kernel_rfl)
instance : PlainFn Try.prog 21 := plainFn_of Try.func21 (by kernel_rfl) (by kernel_rfl)
instance : PlainFn Try.prog 22 := plainFn_of Try.func22 (by kernel_rfl) (by kernel_rfl)
instance : PlainFn Try.prog 23 := plainFn_of Try.func23 (by kernel_rfl) (by kernel_rfl)
instance : PlainFn Try.prog 24 := plainFn_of Try.func24 (by kernel_rfl) (by kernel_rfl)
instance : PlainFn Try.prog 25 := plainFn_of Try.func25 (by kernel_rfl) (by kernel_rfl)
instance : PlainFn Try.prog 26 := plainFn_of Try.func26 (by kernel_rfl) (by kernel_rfl)
instance : PlainFn Try.prog 27 := plainFn_of Try.func27 (by kernel_rfl) (by kernel_rfl)
instance : PlainFn Try.prog 28 := plainFn_of Try.func28 (by kernel_rfl) (by kernel_rfl)
instance : PlainFn Try.prog 29 := plainFn_of Try.func29 (by kernel_rfl) (by kernel_rfl)
instance : PlainFn Try.prog 30 := plainFn_of Try.func30 (by kernel_rfl) (by kernel_rfl)
instance : PlainFn Try.prog 31 := plainFn_of Try.func31 (by kernel_rfl) (by kernel_rfl)
instance : PlainFn Try.prog 32 := plainFn_of Try.func32 (by kernel_rfl) (by kernel_rfl)
theorem depth2 : 2 ≤ Try.prog.depth := Nat.le_of_ble_eq_true (by kernel_rfl)
theorem mixed : Try.prog.follows .mixedOrders = true := by kernel_rfl
end Go.Proofs.Ytfbahfibgmdlnaa
