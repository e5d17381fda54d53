/- The facts on this seat's types and functions, by program (ty.py). Conditions: none. -/
import Derived.Test.YteonolnfgppagaaDoorTyHelp
import Derived.Test.YteonolnfgppagaaDoorOps5
import Derived.Test.YteonolnfgppagaaDoorRows
namespace Go.Proofs.YteonolnfgppagaaDoor
instance : ConcT Tryd.prog 39 := ⟨_, Tryd.underlying39, rfl⟩
instance : FieldT Tryd.prog 28 0 0 3 := fieldT_of (s := 0) Tryd.underlying28 rfl rfl rfl (by kernel_rfl)
instance : FieldT Tryd.prog 28 1 1 9 := fieldT_of (s := 0) Tryd.underlying28 rfl rfl rfl (by kernel_rfl)
instance : FieldT Tryd.prog 28 2 2 3 := fieldT_of (s := 0) Tryd.underlying28 rfl rfl rfl (by kernel_rfl)
instance : FieldT Tryd.prog 39 0 0 24 := fieldT_of (s := 0) Tryd.underlying39 rfl rfl rfl (by kernel_rfl)
instance : FieldT Tryd.prog 39 1 1 3 := fieldT_of (s := 0) Tryd.underlying39 rfl rfl rfl (by kernel_rfl)
instance : FieldT Tryd.prog 43 0 0 9 := fieldT_of (s := 0) Tryd.underlying43 rfl rfl rfl (by kernel_rfl)
instance : FieldT Tryd.prog 43 1 1 3 := fieldT_of (s := 0) Tryd.underlying43 rfl rfl rfl (by kernel_rfl)
instance : FieldT Tryd.prog 43 2 2 23 := fieldT_of (s := 0) Tryd.underlying43 rfl rfl rfl (by kernel_rfl)
instance : FieldT Tryd.prog 48 0 0 5 := fieldT_of (s := 0) Tryd.underlying48 rfl rfl rfl (by kernel_rfl)
instance : FieldT Tryd.prog 48 1 1 5 := fieldT_of (s := 0) Tryd.underlying48 rfl rfl rfl (by kernel_rfl)
instance : FieldT Tryd.prog 48 2 2 3 := fieldT_of (s := 0) Tryd.underlying48 rfl rfl rfl (by kernel_rfl)
instance : FlT Tryd.prog 28 [(0, 3), (1, 9), (2, 3)] := ⟨by kernel_rfl, by kernel_rfl, by kernel_rfl, by kernel_rfl, by kernel_rfl⟩
instance : IntT Tryd.prog 3 .i64 := ⟨Tryd.underlying3⟩
instance : IntT Tryd.prog 5 .u8 := ⟨Tryd.underlying5⟩
instance : OneT Tryd.prog 1 := ⟨_, Tryd.underlying1, rfl⟩
instance : OneT Tryd.prog 23 := ⟨_, Tryd.underlying23, rfl⟩
instance : OneT Tryd.prog 24 := ⟨_, Tryd.underlying24, rfl⟩
instance : AggT Tryd.prog 28 3 := aggT_of Tryd.underlying28 rfl (by kernel_rfl)
instance : OneT Tryd.prog 3 := ⟨_, Tryd.underlying3, rfl⟩
instance : AggT Tryd.prog 48 3 := aggT_of Tryd.underlying48 rfl (by kernel_rfl)
instance : AggT Tryd.prog 49 48 := aggT_of Tryd.underlying49 rfl (by kernel_rfl)
instance : OneT Tryd.prog 5 := ⟨_, Tryd.underlying5, rfl⟩
instance : AggT Tryd.prog 53 15 := aggT_of Tryd.underlying53 rfl (by kernel_rfl)
instance : OneT Tryd.prog 9 := ⟨_, Tryd.underlying9, rfl⟩
instance : SizeT Tryd.prog 23 1 := sizeT_of (by kernel_rfl)
instance : SizeT Tryd.prog 24 1 := sizeT_of (by kernel_rfl)
instance : SizeT Tryd.prog 28 3 := sizeT_of (by kernel_rfl)
instance : SizeT Tryd.prog 3 1 := sizeT_of (by kernel_rfl)
instance : SizeT Tryd.prog 39 2 := sizeT_of (by kernel_rfl)
instance : SizeT Tryd.prog 46 5 := sizeT_of (by kernel_rfl)
instance : SizeT Tryd.prog 48 3 := sizeT_of (by kernel_rfl)
instance : SizeT Tryd.prog 49 48 := sizeT_of (by kernel_rfl)
instance : SizeT Tryd.prog 53 15 := sizeT_of (by kernel_rfl)
instance : SlT Tryd.prog 23 28 3 32 (.agg #[(.int .i64 0), (strV []), (.int .i64 0)]) := slT_of Tryd.underlying23 (by kernel_rfl)
instance : SlT Tryd.prog 30 5 1 1 (.int .u8 0) := slT_of Tryd.underlying30 (by kernel_rfl)
instance : SlT Tryd.prog 37 3 1 8 (.int .i64 0) := slT_of Tryd.underlying37 (by kernel_rfl)
instance : SlT Tryd.prog 45 9 1 16 (strV []) := slT_of Tryd.underlying45 (by kernel_rfl)
instance : ArrT Tryd.prog 46 5 1 1 := arrT_of Tryd.underlying46 (by kernel_rfl)
instance : ArrT Tryd.prog 49 16 48 3 := arrT_of Tryd.underlying49 (by kernel_rfl)
instance : ArrT Tryd.prog 53 15 9 1 := arrT_of Tryd.underlying53 (by kernel_rfl)
instance : StrT Tryd.prog 9 := ⟨Tryd.underlying9⟩
instance : StT Tryd.prog 28 [(0, 1), (1, 1), (2, 1)] [(.int .i64 0), (strV []), (.int .i64 0)] := stT_of (z := (.agg #[(.int .i64 0), (strV []), (.int .i64 0)])) Tryd.underlying28 (by kernel_rfl) rfl (by kernel_rfl)
instance : StT Tryd.prog 39 [(0, 1), (1, 1)] [(.int .i64 0), (.int .i64 0)] := stT_of (z := (.agg #[(.int .i64 0), (.int .i64 0)])) Tryd.underlying39 (by kernel_rfl) rfl (by kernel_rfl)
instance : StT Tryd.prog 43 [(0, 1), (1, 1), (2, 1)] [(strV []), (.int .i64 0), (.slice none 0 0)] := stT_of (z := (.agg #[(strV []), (.int .i64 0), (.slice none 0 0)])) Tryd.underlying43 (by kernel_rfl) rfl (by kernel_rfl)
instance : ZeroT Tryd.prog 46 [.nilFunc, .nilFunc, .nilFunc, .nilFunc, .nilFunc] := zeroT_of (z := (.agg #[.nilFunc, .nilFunc, .nilFunc, .nilFunc, .nilFunc])) (by kernel_rfl) rfl
instance : StT Tryd.prog 48 [(0, 1), (1, 1), (2, 1)] [(.int .u8 0), (.int .u8 0), (.int .i64 0)] := stT_of (z := (.agg #[(.int .u8 0), (.int .u8 0), (.int .i64 0)])) Tryd.underlying48 (by kernel_rfl) rfl (by kernel_rfl)
instance : ZeroT Tryd.prog 49 [(.int .u8 0), (.int .u8 0), (.int .i64 0), (.int .u8 0), (.int .u8 0), (.int .i64 0), (.int .u8 0), (.int .u8 0), (.int .i64 0), (.int .u8 0), (.int .u8 0), (.int .i64 0), (.int .u8 0), (.int .u8 0), (.int .i64 0), (.int .u8 0), (.int .u8 0), (.int .i64 0), (.int .u8 0), (.int .u8 0), (.int .i64 0), (.int .u8 0), (.int .u8 0), (.int .i64 0), (.int .u8 0), (.int .u8 0), (.int .i64 0), (.int .u8 0), (.int .u8 0), (.int .i64 0), (.int .u8 0), (.int .u8 0), (.int .i64 0), (.int .u8 0), (.int .u8 0), (.int .i64 0), (.int .u8 0), (.int .u8 0), (.int .i64 0), (.int .u8 0), (.int .u8 0), (.int .i64 0), (.int .u8 0), (.int .u8 0), (.int .i64 0), (.int .u8 0), (.int .u8 0), (.int .i64 0)] := zeroT_of (z := (.agg #[(.int .u8 0), (.int .u8 0), (.int .i64 0), (.int .u8 0), (.int .u8 0), (.int .i64 0), (.int .u8 0), (.int .u8 0), (.int .i64 0), (.int .u8 0), (.int .u8 0), (.int .i64 0), (.int .u8 0), (.int .u8 0), (.int .i64 0), (.int .u8 0), (.int .u8 0), (.int .i64 0), (.int .u8 0), (.int .u8 0), (.int .i64 0), (.int .u8 0), (.int .u8 0), (.int .i64 0), (.int .u8 0), (.int .u8 0), (.int .i64 0), (.int .u8 0), (.int .u8 0), (.int .i64 0), (.int .u8 0), (.int .u8 0), (.int .i64 0), (.int .u8 0), (.int .u8 0), (.int .i64 0), (.int .u8 0), (.int .u8 0), (.int .i64 0), (.int .u8 0), (.int .u8 0), (.int .i64 0), (.int .u8 0), (.int .u8 0), (.int .i64 0), (.int .u8 0), (.int .u8 0), (.int .i64 0)])) (by kernel_rfl) rfl
instance : ZeroT Tryd.prog 53 [(strV []), (strV []), (strV []), (strV []), (strV []), (strV []), (strV []), (strV []), (strV []), (strV []), (strV []), (strV []), (strV []), (strV []), (strV [])] := zeroT_of (z := (.agg #[(strV []), (strV []), (strV []), (strV []), (strV []), (strV []), (strV []), (strV []), (strV []), (strV []), (strV []), (strV []), (strV []), (strV []), (strV [])])) (by kernel_rfl) rfl
instance : ZeroT Tryd.prog 23 [(.slice none 0 0)] := zeroT_of (z := (.slice none 0 0)) (by kernel_rfl) rfl
instance : ZeroT Tryd.prog 24 [(.int .i64 0)] := zeroT_of (z := (.int .i64 0)) (by kernel_rfl) rfl
instance : ZeroT Tryd.prog 28 [(.int .i64 0), (strV []), (.int .i64 0)] := zeroT_of (z := (.agg #[(.int .i64 0), (strV []), (.int .i64 0)])) (by kernel_rfl) rfl
instance : ZeroT Tryd.prog 3 [(.int .i64 0)] := zeroT_of (z := (.int .i64 0)) (by kernel_rfl) rfl
instance : ZeroT Tryd.prog 39 [(.int .i64 0), (.int .i64 0)] := zeroT_of (z := (.agg #[(.int .i64 0), (.int .i64 0)])) (by kernel_rfl) rfl
instance : ZeroT Tryd.prog 48 [(.int .u8 0), (.int .u8 0), (.int .i64 0)] := zeroT_of (z := (.agg #[(.int .u8 0), (.int .u8 0), (.int .i64 0)])) (by kernel_rfl) rfl
instance : PlainFn Tryd.prog 2 := plainFn_of Tryd.func2 (by kernel_rfl) (by kernel_rfl)
instance : PlainFn Tryd.prog 3 := plainFn_of Tryd.func3 (by kernel_rfl) (by kernel_rfl)
instance : PlainFn Tryd.prog 4 := plainFn_of Tryd.func4 (by kernel_rfl) (by kernel_rfl)
instance : PlainFn Tryd.prog 5 := plainFn_of Tryd.func5 (by kernel_rfl) (by kernel_rfl)
instance : PlainFn Tryd.prog 6 := plainFn_of Tryd.func6 (by kernel_rfl) (by kernel_rfl)
instance : PlainFn Tryd.prog 7 := plainFn_of Tryd.func7 (by kernel_rfl) (by kernel_rfl)
instance : PlainFn Tryd.prog 8 := plainFn_of Tryd.func8 (by kernel_rfl) (by kernel_rfl)
instance : PlainFn Tryd.prog 9 := plainFn_of Tryd.func9 (by kernel_rfl) (by kernel_rfl)
instance : PlainFn Tryd.prog 10 := plainFn_of Tryd.func10 (by kernel_rfl) (by kernel_rfl)
instance : PlainFn Tryd.prog 11 := plainFn_of Tryd.func11 (by kernel_rfl) (by kernel_rfl)
instance : PlainFn Tryd.prog 12 := plainFn_of Tryd.func12 (by kernel_rfl) (by kernel_rfl)
instance : PlainFn Tryd.prog 13 := plainFn_of Tryd.func13 (by kernel_rfl) (by kernel_rfl)
instance : PlainFn Tryd.prog 14 := plainFn_of Tryd.func14 (by kernel_rfl) (by kernel_rfl)
instance : PlainFn Tryd.prog 15 := plainFn_of Tryd.func15 (by kernel_rfl) (by kernel_rfl)
instance : PlainFn Tryd.prog 16 := plainFn_of Tryd.func16 (by kernel_rfl) (by kernel_rfl)
instance : PlainFn Tryd.prog 17 := plainFn_of Tryd.func17 (by kernel_rfl) (by kernel_rfl)
instance : PlainFn Tryd.prog 18 := plainFn_of Tryd.func18 (by kernel_rfl) (by kernel_rfl)
instance : PlainFn Tryd.prog 19 := plainFn_of Tryd.func19 (by kernel_rfl) (by kernel_rfl)
instance : PlainFn Tryd.prog 20 := plainFn_of Tryd.func20 (by kernel_rfl) (by kernel_rfl)
instance : PlainFn Tryd.prog 21 := plainFn_of Tryd.func21 (by kernel_rfl) (by kernel_rfl)
instance : PlainFn Tryd.prog 22 := plainFn_of Tryd.func22 (by kernel_rfl) (by kernel_rfl)
instance : PlainFn Tryd.prog 23 := plainFn_of Tryd.func23 (by kernel_rfl) (by kernel_rfl)
instance : PlainFn Tryd.prog 24 := plainFn_of Tryd.func24 (by kernel_rfl) (by kernel_rfl)
instance : PlainFn Tryd.prog 25 := plainFn_of Tryd.func25 (by kernel_rfl) (by kernel_rfl)
instance : PlainFn Tryd.prog 26 := plainFn_of Tryd.func26 (by kernel_rfl) (by kernel_rfl)
instance : PlainFn Tryd.prog 27 := plainFn_of Tryd.func27 (by kernel_rfl) (by kernel_rfl)
instance : PlainFn Tryd.prog 28 := plainFn_of Tryd.func28 (by kernel_rfl) (by kernel_rfl)
instance : PlainFn Tryd.prog 29 := plainFn_of Tryd.func29 (by kernel_rfl) (by kernel_rfl)
instance : PlainFn Tryd.prog 30 := plainFn_of Tryd.func30 (by kernel_rfl) (by kernel_rfl)
instance : PlainFn Tryd.prog 31 := plainFn_of Tryd.func31 (by kernel_rfl) (by kernel_rfl)
instance : PlainFn Tryd.prog 32 := plainFn_of Tryd.func32 (by kernel_rfl) (by kernel_rfl)
instance : PlainFn Tryd.prog 54 := plainFn_of Tryd.func54 (by kernel_rfl) (by kernel_rfl)
theorem depth2 : 2 ≤ Tryd.prog.depth := Nat.le_of_ble_eq_true (by kernel_rfl)
theorem mixed : Tryd.prog.follows .mixedOrders = true := by kernel_rfl
end Go.Proofs.YteonolnfgppagaaDoor
