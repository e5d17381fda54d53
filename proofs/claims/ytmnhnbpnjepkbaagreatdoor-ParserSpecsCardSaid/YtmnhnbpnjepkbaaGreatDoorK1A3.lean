/- The facts on this seat's types and functions, by program (ty.py). The lexer: kinds of bytes, prefixes. The lexer: the state of a scanner, bytes in a row, a token added. Conditions: none. -/
import Derived.Test.YtmnhnbpnjepkbaaGreatDoorK1A2
import Derived.Test.YtmnhnbpnjepkbaaGreatDoorRows

namespace Go.Proofs.YtmnhnbpnjepkbaaGreatDoor
instance : BoolT Tryz.prog 4 := ⟨Tryz.underlying4⟩
instance : ConcT Tryz.prog 107 := ⟨_, Tryz.underlying107, rfl⟩
instance : ConcT Tryz.prog 144 := ⟨_, Tryz.underlying144, rfl⟩
instance : ConcT Tryz.prog 147 := ⟨_, Tryz.underlying147, rfl⟩
instance : ConcT Tryz.prog 160 := ⟨_, Tryz.underlying160, rfl⟩
instance : ConcT Tryz.prog 9 := ⟨_, Tryz.underlying9, rfl⟩
instance : ConcT Tryz.prog 98 := ⟨_, Tryz.underlying98, rfl⟩
instance : FieldT Tryz.prog 102 0 0 9 := fieldT_of (s := 0) Tryz.underlying102 rfl rfl rfl (by kernel_rfl)
instance : FieldT Tryz.prog 102 1 1 3 := fieldT_of (s := 0) Tryz.underlying102 rfl rfl rfl (by kernel_rfl)
instance : FieldT Tryz.prog 102 2 2 24 := fieldT_of (s := 0) Tryz.underlying102 rfl rfl rfl (by kernel_rfl)
instance : FieldT Tryz.prog 107 0 0 25 := fieldT_of (s := 0) Tryz.underlying107 rfl rfl rfl (by kernel_rfl)
instance : FieldT Tryz.prog 107 1 1 3 := fieldT_of (s := 0) Tryz.underlying107 rfl rfl rfl (by kernel_rfl)
instance : FieldT Tryz.prog 112 0 0 24 := fieldT_of (s := 0) Tryz.underlying112 rfl rfl rfl (by kernel_rfl)
instance : FieldT Tryz.prog 112 1 1 3 := fieldT_of (s := 0) Tryz.underlying112 rfl rfl rfl (by kernel_rfl)
instance : FieldT Tryz.prog 112 2 2 109 := fieldT_of (s := 0) Tryz.underlying112 rfl rfl rfl (by kernel_rfl)
instance : FieldT Tryz.prog 112 3 3 109 := fieldT_of (s := 0) Tryz.underlying112 rfl rfl rfl (by kernel_rfl)
instance : FieldT Tryz.prog 123 0 0 5 := fieldT_of (s := 0) Tryz.underlying123 rfl rfl rfl (by kernel_rfl)
instance : FieldT Tryz.prog 123 1 1 5 := fieldT_of (s := 0) Tryz.underlying123 rfl rfl rfl (by kernel_rfl)
instance : FieldT Tryz.prog 123 2 2 3 := fieldT_of (s := 0) Tryz.underlying123 rfl rfl rfl (by kernel_rfl)
instance : FieldT Tryz.prog 127 0 0 3 := fieldT_of (s := 0) Tryz.underlying127 rfl rfl rfl (by kernel_rfl)
instance : FieldT Tryz.prog 127 1 1 3 := fieldT_of (s := 0) Tryz.underlying127 rfl rfl rfl (by kernel_rfl)
instance : FieldT Tryz.prog 127 2 2 3 := fieldT_of (s := 0) Tryz.underlying127 rfl rfl rfl (by kernel_rfl)
instance : FieldT Tryz.prog 32 0 0 3 := fieldT_of (s := 0) Tryz.underlying32 rfl rfl rfl (by kernel_rfl)
instance : FieldT Tryz.prog 32 1 1 9 := fieldT_of (s := 0) Tryz.underlying32 rfl rfl rfl (by kernel_rfl)
instance : FieldT Tryz.prog 32 2 2 3 := fieldT_of (s := 0) Tryz.underlying32 rfl rfl rfl (by kernel_rfl)
instance : FieldT Tryz.prog 36 0 0 33 := fieldT_of (s := 0) Tryz.underlying36 rfl rfl rfl (by kernel_rfl)
instance : FieldT Tryz.prog 36 1 1 34 := fieldT_of (s := 0) Tryz.underlying36 rfl rfl rfl (by kernel_rfl)
instance : FieldT Tryz.prog 39 0 0 3 := fieldT_of (s := 0) Tryz.underlying39 rfl rfl rfl (by kernel_rfl)
instance : FieldT Tryz.prog 39 1 1 9 := fieldT_of (s := 0) Tryz.underlying39 rfl rfl rfl (by kernel_rfl)
instance : FieldT Tryz.prog 39 2 2 3 := fieldT_of (s := 0) Tryz.underlying39 rfl rfl rfl (by kernel_rfl)
instance : FieldT Tryz.prog 39 3 3 3 := fieldT_of (s := 0) Tryz.underlying39 rfl rfl rfl (by kernel_rfl)
instance : FieldT Tryz.prog 39 4 4 37 := fieldT_of (s := 0) Tryz.underlying39 rfl rfl rfl (by kernel_rfl)
instance : FieldT Tryz.prog 41 0 0 9 := fieldT_of (s := 0) Tryz.underlying41 rfl rfl rfl (by kernel_rfl)
instance : FieldT Tryz.prog 41 1 1 9 := fieldT_of (s := 0) Tryz.underlying41 rfl rfl rfl (by kernel_rfl)
instance : FieldT Tryz.prog 41 2 2 3 := fieldT_of (s := 0) Tryz.underlying41 rfl rfl rfl (by kernel_rfl)
instance : FieldT Tryz.prog 41 3 3 39 := fieldT_of (s := 4) Tryz.underlying41 rfl rfl rfl (by kernel_rfl)
instance : FieldT Tryz.prog 43 0 0 3 := fieldT_of (s := 0) Tryz.underlying43 rfl rfl rfl (by kernel_rfl)
instance : FieldT Tryz.prog 43 1 1 41 := fieldT_of (s := 7) Tryz.underlying43 rfl rfl rfl (by kernel_rfl)
instance : FieldT Tryz.prog 45 0 0 36 := fieldT_of (s := 1) Tryz.underlying45 rfl rfl rfl (by kernel_rfl)
instance : FieldT Tryz.prog 45 1 2 39 := fieldT_of (s := 4) Tryz.underlying45 rfl rfl rfl (by kernel_rfl)
instance : FieldT Tryz.prog 45 2 7 43 := fieldT_of (s := 8) Tryz.underlying45 rfl rfl rfl (by kernel_rfl)
instance : FieldT Tryz.prog 45 3 16 25 := fieldT_of (s := 0) Tryz.underlying45 rfl rfl rfl (by kernel_rfl)
instance : FieldT Tryz.prog 45 4 17 25 := fieldT_of (s := 0) Tryz.underlying45 rfl rfl rfl (by kernel_rfl)
instance : FieldT Tryz.prog 45 5 18 25 := fieldT_of (s := 0) Tryz.underlying45 rfl rfl rfl (by kernel_rfl)
instance : FieldT Tryz.prog 45 6 19 3 := fieldT_of (s := 0) Tryz.underlying45 rfl rfl rfl (by kernel_rfl)
instance : FieldT Tryz.prog 45 7 20 3 := fieldT_of (s := 0) Tryz.underlying45 rfl rfl rfl (by kernel_rfl)
instance : FieldT Tryz.prog 45 8 21 3 := fieldT_of (s := 0) Tryz.underlying45 rfl rfl rfl (by kernel_rfl)
instance : FieldT Tryz.prog 78 0 0 9 := fieldT_of (s := 0) Tryz.underlying78 rfl rfl rfl (by kernel_rfl)
instance : FieldT Tryz.prog 78 1 1 4 := fieldT_of (s := 0) Tryz.underlying78 rfl rfl rfl (by kernel_rfl)
instance : FieldT Tryz.prog 78 2 2 3 := fieldT_of (s := 0) Tryz.underlying78 rfl rfl rfl (by kernel_rfl)
instance : FieldT Tryz.prog 98 0 0 25 := fieldT_of (s := 0) Tryz.underlying98 rfl rfl rfl (by kernel_rfl)
instance : FieldT Tryz.prog 98 1 1 3 := fieldT_of (s := 0) Tryz.underlying98 rfl rfl rfl (by kernel_rfl)
instance : FlT Tryz.prog 78 [(0, 9), (1, 4), (2, 3)] := ⟨by kernel_rfl, by kernel_rfl, by kernel_rfl, by kernel_rfl, by kernel_rfl⟩
instance : IntT Tryz.prog 150 .u64 := ⟨Tryz.underlying150⟩
instance : IntT Tryz.prog 153 .u64 := ⟨Tryz.underlying153⟩
instance : IntT Tryz.prog 172 .u32 := ⟨Tryz.underlying172⟩
instance : IntT Tryz.prog 2 .i64 := ⟨Tryz.underlying2⟩
instance : SlT Tryz.prog 22 5 1 1 (.int .u8 0) := slT_of Tryz.underlying22 (by kernel_rfl)
instance : IntT Tryz.prog 3 .i64 := ⟨Tryz.underlying3⟩
instance : IntT Tryz.prog 5 .u8 := ⟨Tryz.underlying5⟩
instance : StrT Tryz.prog 9 := ⟨Tryz.underlying9⟩
instance : OneT Tryz.prog 1 := ⟨_, Tryz.underlying1, rfl⟩
instance : AggT Tryz.prog 103 10 := aggT_of Tryz.underlying103 rfl (by kernel_rfl)
instance : OneT Tryz.prog 109 := ⟨_, Tryz.underlying109, rfl⟩
instance : AggT Tryz.prog 123 3 := aggT_of Tryz.underlying123 rfl (by kernel_rfl)
instance : AggT Tryz.prog 124 48 := aggT_of Tryz.underlying124 rfl (by kernel_rfl)
instance : AggT Tryz.prog 127 3 := aggT_of Tryz.underlying127 rfl (by kernel_rfl)
instance : AggT Tryz.prog 133 15 := aggT_of Tryz.underlying133 rfl (by kernel_rfl)
instance : OneT Tryz.prog 136 := ⟨_, Tryz.underlying136, rfl⟩
instance : OneT Tryz.prog 150 := ⟨_, Tryz.underlying150, rfl⟩
instance : OneT Tryz.prog 24 := ⟨_, Tryz.underlying24, rfl⟩
instance : OneT Tryz.prog 25 := ⟨_, Tryz.underlying25, rfl⟩
instance : OneT Tryz.prog 3 := ⟨_, Tryz.underlying3, rfl⟩
instance : AggT Tryz.prog 32 3 := aggT_of Tryz.underlying32 rfl (by kernel_rfl)
instance : OneT Tryz.prog 33 := ⟨_, Tryz.underlying33, rfl⟩
instance : OneT Tryz.prog 34 := ⟨_, Tryz.underlying34, rfl⟩
instance : AggT Tryz.prog 36 2 := aggT_of Tryz.underlying36 rfl (by kernel_rfl)
instance : OneT Tryz.prog 37 := ⟨_, Tryz.underlying37, rfl⟩
instance : AggT Tryz.prog 39 5 := aggT_of Tryz.underlying39 rfl (by kernel_rfl)
instance : OneT Tryz.prog 4 := ⟨_, Tryz.underlying4, rfl⟩
instance : AggT Tryz.prog 41 8 := aggT_of Tryz.underlying41 rfl (by kernel_rfl)
instance : AggT Tryz.prog 43 9 := aggT_of Tryz.underlying43 rfl (by kernel_rfl)
instance : AggT Tryz.prog 45 22 := aggT_of Tryz.underlying45 rfl (by kernel_rfl)
instance : OneT Tryz.prog 5 := ⟨_, Tryz.underlying5, rfl⟩
instance : AggT Tryz.prog 78 3 := aggT_of Tryz.underlying78 rfl (by kernel_rfl)
instance : OneT Tryz.prog 88 := ⟨_, Tryz.underlying88, rfl⟩
instance : OneT Tryz.prog 9 := ⟨_, Tryz.underlying9, rfl⟩
instance : SizeT Tryz.prog 103 10 := sizeT_of (by kernel_rfl)
instance : SizeT Tryz.prog 107 2 := sizeT_of (by kernel_rfl)
instance : SizeT Tryz.prog 121 5 := sizeT_of (by kernel_rfl)
instance : SizeT Tryz.prog 123 3 := sizeT_of (by kernel_rfl)
instance : SizeT Tryz.prog 124 48 := sizeT_of (by kernel_rfl)
instance : SizeT Tryz.prog 127 3 := sizeT_of (by kernel_rfl)
instance : SizeT Tryz.prog 133 15 := sizeT_of (by kernel_rfl)
instance : SizeT Tryz.prog 136 1 := sizeT_of (by kernel_rfl)
instance : SizeT Tryz.prog 171 20 := sizeT_of (by kernel_rfl)
instance : SizeT Tryz.prog 177 32 := sizeT_of (by kernel_rfl)
instance : SizeT Tryz.prog 178 64 := sizeT_of (by kernel_rfl)
instance : SizeT Tryz.prog 24 1 := sizeT_of (by kernel_rfl)
instance : SizeT Tryz.prog 25 1 := sizeT_of (by kernel_rfl)
instance : SizeT Tryz.prog 3 1 := sizeT_of (by kernel_rfl)
instance : SizeT Tryz.prog 32 3 := sizeT_of (by kernel_rfl)
instance : SizeT Tryz.prog 34 1 := sizeT_of (by kernel_rfl)
instance : SizeT Tryz.prog 36 2 := sizeT_of (by kernel_rfl)
instance : SizeT Tryz.prog 37 1 := sizeT_of (by kernel_rfl)
instance : SizeT Tryz.prog 39 5 := sizeT_of (by kernel_rfl)
instance : SizeT Tryz.prog 41 8 := sizeT_of (by kernel_rfl)
instance : SizeT Tryz.prog 43 9 := sizeT_of (by kernel_rfl)
instance : SizeT Tryz.prog 45 22 := sizeT_of (by kernel_rfl)
instance : SizeT Tryz.prog 5 1 := sizeT_of (by kernel_rfl)
instance : SizeT Tryz.prog 78 3 := sizeT_of (by kernel_rfl)
instance : SizeT Tryz.prog 9 1 := sizeT_of (by kernel_rfl)
instance : SizeT Tryz.prog 98 2 := sizeT_of (by kernel_rfl)
instance : ArrT Tryz.prog 103 10 9 1 := arrT_of Tryz.underlying103 (by kernel_rfl)
instance : SlT Tryz.prog 115 34 1 24 (.slice none 0 0) := slT_of Tryz.underlying115 (by kernel_rfl)
instance : ArrT Tryz.prog 121 5 1 1 := arrT_of Tryz.underlying121 (by kernel_rfl)
instance : ArrT Tryz.prog 124 16 123 3 := arrT_of Tryz.underlying124 (by kernel_rfl)
instance : ArrT Tryz.prog 133 15 9 1 := arrT_of Tryz.underlying133 (by kernel_rfl)
instance : ArrT Tryz.prog 164 24 5 1 := arrT_of Tryz.underlying164 (by kernel_rfl)
instance : ArrT Tryz.prog 171 20 150 1 := arrT_of Tryz.underlying171 (by kernel_rfl)
instance : ArrT Tryz.prog 173 65 5 1 := arrT_of Tryz.underlying173 (by kernel_rfl)
instance : ArrT Tryz.prog 177 32 5 1 := arrT_of Tryz.underlying177 (by kernel_rfl)
instance : ArrT Tryz.prog 178 64 5 1 := arrT_of Tryz.underlying178 (by kernel_rfl)
instance : SlT Tryz.prog 24 32 3 32 (.agg #[(.int .i64 0), (strV []), (.int .i64 0)]) := slT_of Tryz.underlying24 (by kernel_rfl)
instance : SlT Tryz.prog 28 3 1 8 (.int .i64 0) := slT_of Tryz.underlying28 (by kernel_rfl)
instance : SlT Tryz.prog 33 78 3 32 (.agg #[(strV []), (.bool false), (.int .i64 0)]) := slT_of Tryz.underlying33 (by kernel_rfl)
instance : SlT Tryz.prog 34 41 8 104 (.agg #[(strV []), (strV []), (.int .i64 0), (.int .i64 0), (strV []), (.int .i64 0), (.int .i64 0), (.slice none 0 0)]) := slT_of Tryz.underlying34 (by kernel_rfl)
instance : SlT Tryz.prog 37 39 5 64 (.agg #[(.int .i64 0), (strV []), (.int .i64 0), (.int .i64 0), (.slice none 0 0)]) := slT_of Tryz.underlying37 (by kernel_rfl)
instance : SlT Tryz.prog 54 9 1 16 (strV []) := slT_of Tryz.underlying54 (by kernel_rfl)
instance : SMapT Tryz.prog 109 (.agg #[(.int .i64 0), (.int .i64 0), (.int .i64 0)]) := smapT_of Tryz.underlying109 Tryz.underlying9 (by kernel_rfl)
instance : StT Tryz.prog 102 [(0, 1), (1, 1), (2, 1)] [(strV []), (.int .i64 0), (.slice none 0 0)] := stT_of (z := (.agg #[(strV []), (.int .i64 0), (.slice none 0 0)])) Tryz.underlying102 (by kernel_rfl) rfl (by kernel_rfl)
instance : ZeroT Tryz.prog 103 [(strV []), (strV []), (strV []), (strV []), (strV []), (strV []), (strV []), (strV []), (strV []), (strV [])] := zeroT_of (z := (.agg #[(strV []), (strV []), (strV []), (strV []), (strV []), (strV []), (strV []), (strV []), (strV []), (strV [])])) (by kernel_rfl) rfl
instance : StT Tryz.prog 107 [(0, 1), (1, 1)] [(.int .i64 0), (.int .i64 0)] := stT_of (z := (.agg #[(.int .i64 0), (.int .i64 0)])) Tryz.underlying107 (by kernel_rfl) rfl (by kernel_rfl)
instance : StT Tryz.prog 112 [(0, 1), (1, 1), (2, 1), (3, 1)] [(.slice none 0 0), (.int .i64 0), (.map none), (.map none)] := stT_of (z := (.agg #[(.slice none 0 0), (.int .i64 0), (.map none), (.map none)])) Tryz.underlying112 (by kernel_rfl) rfl (by kernel_rfl)
instance : ZeroT Tryz.prog 121 [.nilFunc, .nilFunc, .nilFunc, .nilFunc, .nilFunc] := zeroT_of (z := (.agg #[.nilFunc, .nilFunc, .nilFunc, .nilFunc, .nilFunc])) (by kernel_rfl) rfl
instance : StT Tryz.prog 123 [(0, 1), (1, 1), (2, 1)] [(.int .u8 0), (.int .u8 0), (.int .i64 0)] := stT_of (z := (.agg #[(.int .u8 0), (.int .u8 0), (.int .i64 0)])) Tryz.underlying123 (by kernel_rfl) rfl (by kernel_rfl)
instance : ZeroT Tryz.prog 124 [(.int .u8 0), (.int .u8 0), (.int .i64 0), (.int .u8 0), (.int .u8 0), (.int .i64 0), (.int .u8 0), (.int .u8 0), (.int .i64 0), (.int .u8 0), (.int .u8 0), (.int .i64 0), (.int .u8 0), (.int .u8 0), (.int .i64 0), (.int .u8 0), (.int .u8 0), (.int .i64 0), (.int .u8 0), (.int .u8 0), (.int .i64 0), (.int .u8 0), (.int .u8 0), (.int .i64 0), (.int .u8 0), (.int .u8 0), (.int .i64 0), (.int .u8 0), (.int .u8 0), (.int .i64 0), (.int .u8 0), (.int .u8 0), (.int .i64 0), (.int .u8 0), (.int .u8 0), (.int .i64 0), (.int .u8 0), (.int .u8 0), (.int .i64 0), (.int .u8 0), (.int .u8 0), (.int .i64 0), (.int .u8 0), (.int .u8 0), (.int .i64 0), (.int .u8 0), (.int .u8 0), (.int .i64 0)] := zeroT_of (z := (.agg #[(.int .u8 0), (.int .u8 0), (.int .i64 0), (.int .u8 0), (.int .u8 0), (.int .i64 0), (.int .u8 0), (.int .u8 0), (.int .i64 0), (.int .u8 0), (.int .u8 0), (.int .i64 0), (.int .u8 0), (.int .u8 0), (.int .i64 0), (.int .u8 0), (.int .u8 0), (.int .i64 0), (.int .u8 0), (.int .u8 0), (.int .i64 0), (.int .u8 0), (.int .u8 0), (.int .i64 0), (.int .u8 0), (.int .u8 0), (.int .i64 0), (.int .u8 0), (.int .u8 0), (.int .i64 0), (.int .u8 0), (.int .u8 0), (.int .i64 0), (.int .u8 0), (.int .u8 0), (.int .i64 0), (.int .u8 0), (.int .u8 0), (.int .i64 0), (.int .u8 0), (.int .u8 0), (.int .i64 0), (.int .u8 0), (.int .u8 0), (.int .i64 0), (.int .u8 0), (.int .u8 0), (.int .i64 0)])) (by kernel_rfl) rfl
instance : StT Tryz.prog 127 [(0, 1), (1, 1), (2, 1)] [(.int .i64 0), (.int .i64 0), (.int .i64 0)] := stT_of (z := (.agg #[(.int .i64 0), (.int .i64 0), (.int .i64 0)])) Tryz.underlying127 (by kernel_rfl) rfl (by kernel_rfl)
instance : ZeroT Tryz.prog 133 [(strV []), (strV []), (strV []), (strV []), (strV []), (strV []), (strV []), (strV []), (strV []), (strV []), (strV []), (strV []), (strV []), (strV []), (strV [])] := zeroT_of (z := (.agg #[(strV []), (strV []), (strV []), (strV []), (strV []), (strV []), (strV []), (strV []), (strV []), (strV []), (strV []), (strV []), (strV []), (strV []), (strV [])])) (by kernel_rfl) rfl
instance : StT Tryz.prog 155 [(0, 1), (1, 1), (2, 1)] [(strV []), (strV []), .nilIface] := stT_of (z := (.agg #[(strV []), (strV []), .nilIface])) Tryz.underlying155 (by kernel_rfl) rfl (by kernel_rfl)
instance : StT Tryz.prog 162 [(0, 1)] [(strV [])] := stT_of (z := (.agg #[(strV [])])) Tryz.underlying162 (by kernel_rfl) rfl (by kernel_rfl)
instance : ZeroT Tryz.prog 171 [(.int .u64 0), (.int .u64 0), (.int .u64 0), (.int .u64 0), (.int .u64 0), (.int .u64 0), (.int .u64 0), (.int .u64 0), (.int .u64 0), (.int .u64 0), (.int .u64 0), (.int .u64 0), (.int .u64 0), (.int .u64 0), (.int .u64 0), (.int .u64 0), (.int .u64 0), (.int .u64 0), (.int .u64 0), (.int .u64 0)] := zeroT_of (z := (.agg #[(.int .u64 0), (.int .u64 0), (.int .u64 0), (.int .u64 0), (.int .u64 0), (.int .u64 0), (.int .u64 0), (.int .u64 0), (.int .u64 0), (.int .u64 0), (.int .u64 0), (.int .u64 0), (.int .u64 0), (.int .u64 0), (.int .u64 0), (.int .u64 0), (.int .u64 0), (.int .u64 0), (.int .u64 0), (.int .u64 0)])) (by kernel_rfl) rfl
instance : ZeroT Tryz.prog 177 [(.int .u8 0), (.int .u8 0), (.int .u8 0), (.int .u8 0), (.int .u8 0), (.int .u8 0), (.int .u8 0), (.int .u8 0), (.int .u8 0), (.int .u8 0), (.int .u8 0), (.int .u8 0), (.int .u8 0), (.int .u8 0), (.int .u8 0), (.int .u8 0), (.int .u8 0), (.int .u8 0), (.int .u8 0), (.int .u8 0), (.int .u8 0), (.int .u8 0), (.int .u8 0), (.int .u8 0), (.int .u8 0), (.int .u8 0), (.int .u8 0), (.int .u8 0), (.int .u8 0), (.int .u8 0), (.int .u8 0), (.int .u8 0)] := zeroT_of (z := (.agg #[(.int .u8 0), (.int .u8 0), (.int .u8 0), (.int .u8 0), (.int .u8 0), (.int .u8 0), (.int .u8 0), (.int .u8 0), (.int .u8 0), (.int .u8 0), (.int .u8 0), (.int .u8 0), (.int .u8 0), (.int .u8 0), (.int .u8 0), (.int .u8 0), (.int .u8 0), (.int .u8 0), (.int .u8 0), (.int .u8 0), (.int .u8 0), (.int .u8 0), (.int .u8 0), (.int .u8 0), (.int .u8 0), (.int .u8 0), (.int .u8 0), (.int .u8 0), (.int .u8 0), (.int .u8 0), (.int .u8 0), (.int .u8 0)])) (by kernel_rfl) rfl
instance : ZeroT Tryz.prog 178 [(.int .u8 0), (.int .u8 0), (.int .u8 0), (.int .u8 0), (.int .u8 0), (.int .u8 0), (.int .u8 0), (.int .u8 0), (.int .u8 0), (.int .u8 0), (.int .u8 0), (.int .u8 0), (.int .u8 0), (.int .u8 0), (.int .u8 0), (.int .u8 0), (.int .u8 0), (.int .u8 0), (.int .u8 0), (.int .u8 0), (.int .u8 0), (.int .u8 0), (.int .u8 0), (.int .u8 0), (.int .u8 0), (.int .u8 0), (.int .u8 0), (.int .u8 0), (.int .u8 0), (.int .u8 0), (.int .u8 0), (.int .u8 0), (.int .u8 0), (.int .u8 0), (.int .u8 0), (.int .u8 0), (.int .u8 0), (.int .u8 0), (.int .u8 0), (.int .u8 0), (.int .u8 0), (.int .u8 0), (.int .u8 0), (.int .u8 0), (.int .u8 0), (.int .u8 0), (.int .u8 0), (.int .u8 0), (.int .u8 0), (.int .u8 0), (.int .u8 0), (.int .u8 0), (.int .u8 0), (.int .u8 0), (.int .u8 0), (.int .u8 0), (.int .u8 0), (.int .u8 0), (.int .u8 0), (.int .u8 0), (.int .u8 0), (.int .u8 0), (.int .u8 0), (.int .u8 0)] := zeroT_of (z := (.agg #[(.int .u8 0), (.int .u8 0), (.int .u8 0), (.int .u8 0), (.int .u8 0), (.int .u8 0), (.int .u8 0), (.int .u8 0), (.int .u8 0), (.int .u8 0), (.int .u8 0), (.int .u8 0), (.int .u8 0), (.int .u8 0), (.int .u8 0), (.int .u8 0), (.int .u8 0), (.int .u8 0), (.int .u8 0), (.int .u8 0), (.int .u8 0), (.int .u8 0), (.int .u8 0), (.int .u8 0), (.int .u8 0), (.int .u8 0), (.int .u8 0), (.int .u8 0), (.int .u8 0), (.int .u8 0), (.int .u8 0), (.int .u8 0), (.int .u8 0), (.int .u8 0), (.int .u8 0), (.int .u8 0), (.int .u8 0), (.int .u8 0), (.int .u8 0), (.int .u8 0), (.int .u8 0), (.int .u8 0), (.int .u8 0), (.int .u8 0), (.int .u8 0), (.int .u8 0), (.int .u8 0), (.int .u8 0), (.int .u8 0), (.int .u8 0), (.int .u8 0), (.int .u8 0), (.int .u8 0), (.int .u8 0), (.int .u8 0), (.int .u8 0), (.int .u8 0), (.int .u8 0), (.int .u8 0), (.int .u8 0), (.int .u8 0), (.int .u8 0), (.int .u8 0), (.int .u8 0)])) (by kernel_rfl) rfl
instance : StT Tryz.prog 32 [(0, 1), (1, 1), (2, 1)] [(.int .i64 0), (strV []), (.int .i64 0)] := stT_of (z := (.agg #[(.int .i64 0), (strV []), (.int .i64 0)])) Tryz.underlying32 (by kernel_rfl) rfl (by kernel_rfl)
instance : StT Tryz.prog 36 [(0, 1), (1, 1)] [(.slice none 0 0), (.slice none 0 0)] := stT_of (z := (.agg #[(.slice none 0 0), (.slice none 0 0)])) Tryz.underlying36 (by kernel_rfl) rfl (by kernel_rfl)
instance : StT Tryz.prog 39 [(0, 1), (1, 1), (2, 1), (3, 1), (4, 1)] [(.int .i64 0), (strV []), (.int .i64 0), (.int .i64 0), (.slice none 0 0)] := stT_of (z := (.agg #[(.int .i64 0), (strV []), (.int .i64 0), (.int .i64 0), (.slice none 0 0)])) Tryz.underlying39 (by kernel_rfl) rfl (by kernel_rfl)
instance : StT Tryz.prog 41 [(0, 1), (1, 1), (2, 1), (3, 5)] [(strV []), (strV []), (.int .i64 0), (.int .i64 0), (strV []), (.int .i64 0), (.int .i64 0), (.slice none 0 0)] := stT_of (z := (.agg #[(strV []), (strV []), (.int .i64 0), (.int .i64 0), (strV []), (.int .i64 0), (.int .i64 0), (.slice none 0 0)])) Tryz.underlying41 (by kernel_rfl) rfl (by kernel_rfl)
instance : StT Tryz.prog 43 [(0, 1), (1, 8)] [(.int .i64 0), (strV []), (strV []), (.int .i64 0), (.int .i64 0), (strV []), (.int .i64 0), (.int .i64 0), (.slice none 0 0)] := stT_of (z := (.agg #[(.int .i64 0), (strV []), (strV []), (.int .i64 0), (.int .i64 0), (strV []), (.int .i64 0), (.int .i64 0), (.slice none 0 0)])) Tryz.underlying43 (by kernel_rfl) rfl (by kernel_rfl)
instance : StT Tryz.prog 45 [(0, 2), (2, 5), (7, 9), (16, 1), (17, 1), (18, 1), (19, 1), (20, 1), (21, 1)] [(.slice none 0 0), (.slice none 0 0), (.int .i64 0), (strV []), (.int .i64 0), (.int .i64 0), (.slice none 0 0), (.int .i64 0), (strV []), (strV []), (.int .i64 0), (.int .i64 0), (strV []), (.int .i64 0), (.int .i64 0), (.slice none 0 0), (.int .i64 0), (.int .i64 0), (.int .i64 0), (.int .i64 0), (.int .i64 0), (.int .i64 0)] := stT_of (z := (.agg #[(.slice none 0 0), (.slice none 0 0), (.int .i64 0), (strV []), (.int .i64 0), (.int .i64 0), (.slice none 0 0), (.int .i64 0), (strV []), (strV []), (.int .i64 0), (.int .i64 0), (strV []), (.int .i64 0), (.int .i64 0), (.slice none 0 0), (.int .i64 0), (.int .i64 0), (.int .i64 0), (.int .i64 0), (.int .i64 0), (.int .i64 0)])) Tryz.underlying45 (by kernel_rfl) rfl (by kernel_rfl)
instance : StT Tryz.prog 78 [(0, 1), (1, 1), (2, 1)] [(strV []), (.bool false), (.int .i64 0)] := stT_of (z := (.agg #[(strV []), (.bool false), (.int .i64 0)])) Tryz.underlying78 (by kernel_rfl) rfl (by kernel_rfl)
instance : StT Tryz.prog 98 [(0, 1), (1, 1)] [(.int .i64 0), (.int .i64 0)] := stT_of (z := (.agg #[(.int .i64 0), (.int .i64 0)])) Tryz.underlying98 (by kernel_rfl) rfl (by kernel_rfl)
instance : ZeroT Tryz.prog 107 [(.int .i64 0), (.int .i64 0)] := zeroT_of (z := (.agg #[(.int .i64 0), (.int .i64 0)])) (by kernel_rfl) rfl
instance : ZeroT Tryz.prog 123 [(.int .u8 0), (.int .u8 0), (.int .i64 0)] := zeroT_of (z := (.agg #[(.int .u8 0), (.int .u8 0), (.int .i64 0)])) (by kernel_rfl) rfl
instance : ZeroT Tryz.prog 127 [(.int .i64 0), (.int .i64 0), (.int .i64 0)] := zeroT_of (z := (.agg #[(.int .i64 0), (.int .i64 0), (.int .i64 0)])) (by kernel_rfl) rfl
instance : ZeroT Tryz.prog 164 [(.int .u8 0), (.int .u8 0), (.int .u8 0), (.int .u8 0), (.int .u8 0), (.int .u8 0), (.int .u8 0), (.int .u8 0), (.int .u8 0), (.int .u8 0), (.int .u8 0), (.int .u8 0), (.int .u8 0), (.int .u8 0), (.int .u8 0), (.int .u8 0), (.int .u8 0), (.int .u8 0), (.int .u8 0), (.int .u8 0), (.int .u8 0), (.int .u8 0), (.int .u8 0), (.int .u8 0)] := zeroT_of (z := (.agg #[(.int .u8 0), (.int .u8 0), (.int .u8 0), (.int .u8 0), (.int .u8 0), (.int .u8 0), (.int .u8 0), (.int .u8 0), (.int .u8 0), (.int .u8 0), (.int .u8 0), (.int .u8 0), (.int .u8 0), (.int .u8 0), (.int .u8 0), (.int .u8 0), (.int .u8 0), (.int .u8 0), (.int .u8 0), (.int .u8 0), (.int .u8 0), (.int .u8 0), (.int .u8 0), (.int .u8 0)])) (by kernel_rfl) rfl
instance : ZeroT Tryz.prog 173 [(.int .u8 0), (.int .u8 0), (.int .u8 0), (.int .u8 0), (.int .u8 0), (.int .u8 0), (.int .u8 0), (.int .u8 0), (.int .u8 0), (.int .u8 0), (.int .u8 0), (.int .u8 0), (.int .u8 0), (.int .u8 0), (.int .u8 0), (.int .u8 0), (.int .u8 0), (.int .u8 0), (.int .u8 0), (.int .u8 0), (.int .u8 0), (.int .u8 0), (.int .u8 0), (.int .u8 0), (.int .u8 0), (.int .u8 0), (.int .u8 0), (.int .u8 0), (.int .u8 0), (.int .u8 0), (.int .u8 0), (.int .u8 0), (.int .u8 0), (.int .u8 0), (.int .u8 0), (.int .u8 0), (.int .u8 0), (.int .u8 0), (.int .u8 0), (.int .u8 0), (.int .u8 0), (.int .u8 0), (.int .u8 0), (.int .u8 0), (.int .u8 0), (.int .u8 0), (.int .u8 0), (.int .u8 0), (.int .u8 0), (.int .u8 0), (.int .u8 0), (.int .u8 0), (.int .u8 0), (.int .u8 0), (.int .u8 0), (.int .u8 0), (.int .u8 0), (.int .u8 0), (.int .u8 0), (.int .u8 0), (.int .u8 0), (.int .u8 0), (.int .u8 0), (.int .u8 0), (.int .u8 0)] := zeroT_of (z := (.agg #[(.int .u8 0), (.int .u8 0), (.int .u8 0), (.int .u8 0), (.int .u8 0), (.int .u8 0), (.int .u8 0), (.int .u8 0), (.int .u8 0), (.int .u8 0), (.int .u8 0), (.int .u8 0), (.int .u8 0), (.int .u8 0), (.int .u8 0), (.int .u8 0), (.int .u8 0), (.int .u8 0), (.int .u8 0), (.int .u8 0), (.int .u8 0), (.int .u8 0), (.int .u8 0), (.int .u8 0), (.int .u8 0), (.int .u8 0), (.int .u8 0), (.int .u8 0), (.int .u8 0), (.int .u8 0), (.int .u8 0), (.int .u8 0), (.int .u8 0), (.int .u8 0), (.int .u8 0), (.int .u8 0), (.int .u8 0), (.int .u8 0), (.int .u8 0), (.int .u8 0), (.int .u8 0), (.int .u8 0), (.int .u8 0), (.int .u8 0), (.int .u8 0), (.int .u8 0), (.int .u8 0), (.int .u8 0), (.int .u8 0), (.int .u8 0), (.int .u8 0), (.int .u8 0), (.int .u8 0), (.int .u8 0), (.int .u8 0), (.int .u8 0), (.int .u8 0), (.int .u8 0), (.int .u8 0), (.int .u8 0), (.int .u8 0), (.int .u8 0), (.int .u8 0), (.int .u8 0), (.int .u8 0)])) (by kernel_rfl) rfl
instance : ZeroT Tryz.prog 24 [(.slice none 0 0)] := zeroT_of (z := (.slice none 0 0)) (by kernel_rfl) rfl
instance : ZeroT Tryz.prog 25 [(.int .i64 0)] := zeroT_of (z := (.int .i64 0)) (by kernel_rfl) rfl
instance : ZeroT Tryz.prog 3 [(.int .i64 0)] := zeroT_of (z := (.int .i64 0)) (by kernel_rfl) rfl
instance : ZeroT Tryz.prog 32 [(.int .i64 0), (strV []), (.int .i64 0)] := zeroT_of (z := (.agg #[(.int .i64 0), (strV []), (.int .i64 0)])) (by kernel_rfl) rfl
instance : ZeroT Tryz.prog 36 [(.slice none 0 0), (.slice none 0 0)] := zeroT_of (z := (.agg #[(.slice none 0 0), (.slice none 0 0)])) (by kernel_rfl) rfl
instance : ZeroT Tryz.prog 39 [(.int .i64 0), (strV []), (.int .i64 0), (.int .i64 0), (.slice none 0 0)] := zeroT_of (z := (.agg #[(.int .i64 0), (strV []), (.int .i64 0), (.int .i64 0), (.slice none 0 0)])) (by kernel_rfl) rfl
instance : ZeroT Tryz.prog 41 [(strV []), (strV []), (.int .i64 0), (.int .i64 0), (strV []), (.int .i64 0), (.int .i64 0), (.slice none 0 0)] := zeroT_of (z := (.agg #[(strV []), (strV []), (.int .i64 0), (.int .i64 0), (strV []), (.int .i64 0), (.int .i64 0), (.slice none 0 0)])) (by kernel_rfl) rfl
instance : ZeroT Tryz.prog 43 [(.int .i64 0), (strV []), (strV []), (.int .i64 0), (.int .i64 0), (strV []), (.int .i64 0), (.int .i64 0), (.slice none 0 0)] := zeroT_of (z := (.agg #[(.int .i64 0), (strV []), (strV []), (.int .i64 0), (.int .i64 0), (strV []), (.int .i64 0), (.int .i64 0), (.slice none 0 0)])) (by kernel_rfl) rfl
instance : ZeroT Tryz.prog 45 [(.slice none 0 0), (.slice none 0 0), (.int .i64 0), (strV []), (.int .i64 0), (.int .i64 0), (.slice none 0 0), (.int .i64 0), (strV []), (strV []), (.int .i64 0), (.int .i64 0), (strV []), (.int .i64 0), (.int .i64 0), (.slice none 0 0), (.int .i64 0), (.int .i64 0), (.int .i64 0), (.int .i64 0), (.int .i64 0), (.int .i64 0)] := zeroT_of (z := (.agg #[(.slice none 0 0), (.slice none 0 0), (.int .i64 0), (strV []), (.int .i64 0), (.int .i64 0), (.slice none 0 0), (.int .i64 0), (strV []), (strV []), (.int .i64 0), (.int .i64 0), (strV []), (.int .i64 0), (.int .i64 0), (.slice none 0 0), (.int .i64 0), (.int .i64 0), (.int .i64 0), (.int .i64 0), (.int .i64 0), (.int .i64 0)])) (by kernel_rfl) rfl
instance : ZeroT Tryz.prog 78 [(strV []), (.bool false), (.int .i64 0)] := zeroT_of (z := (.agg #[(strV []), (.bool false), (.int .i64 0)])) (by kernel_rfl) rfl
instance : ZeroT Tryz.prog 98 [(.int .i64 0), (.int .i64 0)] := zeroT_of (z := (.agg #[(.int .i64 0), (.int .i64 0)])) (by kernel_rfl) rfl
instance : PlainFn Tryz.prog 2 := plainFn_of Tryz.func2 (by kernel_rfl) (by kernel_rfl)
instance : PlainFn Tryz.prog 3 := plainFn_of Tryz.func3 (by kernel_rfl) (by kernel_rfl)
instance : PlainFn Tryz.prog 4 := plainFn_of Tryz.func4 (by kernel_rfl) (by kernel_rfl)
instance : PlainFn Tryz.prog 5 := plainFn_of Tryz.func5 (by kernel_rfl) (by kernel_rfl)
instance : PlainFn Tryz.prog 6 := plainFn_of Tryz.func6 (by kernel_rfl) (by kernel_rfl)
instance : PlainFn Tryz.prog 7 := plainFn_of Tryz.func7 (by kernel_rfl) (by kernel_rfl)
instance : PlainFn Tryz.prog 8 := plainFn_of Tryz.func8 (by kernel_rfl) (by kernel_rfl)
instance : PlainFn Tryz.prog 9 := plainFn_of Tryz.func9 (by kernel_rfl) (by kernel_rfl)
instance : PlainFn Tryz.prog 10 := plainFn_of Tryz.func10 (by kernel_rfl) (by kernel_rfl)
instance : PlainFn Tryz.prog 11 := plainFn_of Tryz.func11 (by kernel_rfl) (by kernel_rfl)
instance : PlainFn Tryz.prog 12 := plainFn_of Tryz.func12 (by kernel_rfl) (by kernel_rfl)
instance : PlainFn Tryz.prog 13 := plainFn_of Tryz.func13 (by kernel_rfl) (by kernel_rfl)
instance : PlainFn Tryz.prog 14 := plainFn_of Tryz.func14 (by kernel_rfl) (by kernel_rfl)
instance : PlainFn Tryz.prog 15 := plainFn_of Tryz.func15 (by kernel_rfl) (by kernel_rfl)
instance : PlainFn Tryz.prog 16 := plainFn_of Tryz.func16 (by kernel_rfl) (by kernel_rfl)
instance : PlainFn Tryz.prog 17 := plainFn_of Tryz.func17 (by kernel_rfl) (by kernel_rfl)
instance : PlainFn Tryz.prog 18 := plainFn_of Tryz.func18 (by kernel_rfl) (by kernel_rfl)
instance : PlainFn Tryz.prog 19 := plainFn_of Tryz.func19 (by kernel_rfl) (by kernel_rfl)
instance : PlainFn Tryz.prog 20 := plainFn_of Tryz.func20 (by kernel_rfl) (by kernel_rfl)
instance : PlainFn Tryz.prog 21 := plainFn_of Tryz.func21 (by kernel_rfl) (by kernel_rfl)
instance : PlainFn Tryz.prog 22 := plainFn_of Tryz.func22 (by kernel_rfl) (by kernel_rfl)
instance : PlainFn Tryz.prog 23 := plainFn_of Tryz.func23 (by kernel_rfl) (by kernel_rfl)
instance : PlainFn Tryz.prog 24 := plainFn_of Tryz.func24 (by kernel_rfl) (by kernel_rfl)
instance : PlainFn Tryz.prog 25 := plainFn_of Tryz.func25 (by kernel_rfl) (by kernel_rfl)
instance : PlainFn Tryz.prog 26 := plainFn_of Tryz.func26 (by kernel_rfl) (by kernel_rfl)
instance : PlainFn Tryz.prog 27 := plainFn_of Tryz.func27 (by kernel_rfl) (by kernel_rfl)
instance : PlainFn Tryz.prog 28 := plainFn_of Tryz.func28 (by kernel_rfl) (by kernel_rfl)
instance : PlainFn Tryz.prog 29 := plainFn_of Tryz.func29 (by kernel_rfl) (by kernel_rfl)
instance : PlainFn Tryz.prog 30 := plainFn_of Tryz.func30 (by kernel_rfl) (by kernel_rfl)
instance : PlainFn Tryz.prog 31 := plainFn_of Tryz.func31 (by kernel_rfl) (by kernel_rfl)
instance : PlainFn Tryz.prog 32 := plainFn_of Tryz.func32 (by kernel_rfl) (by kernel_rfl)
instance : PlainFn Tryz.prog 33 := plainFn_of Tryz.func33 (by kernel_rfl) (by kernel_rfl)
instance : PlainFn Tryz.prog 34 := plainFn_of Tryz.func34 (by kernel_rfl) (by kernel_rfl)
instance : PlainFn Tryz.prog 35 := plainFn_of Tryz.func35 (by kernel_rfl) (by kernel_rfl)
instance : PlainFn Tryz.prog 36 := plainFn_of Tryz.func36 (by kernel_rfl) (by kernel_rfl)
instance : PlainFn Tryz.prog 37 := plainFn_of Tryz.func37 (by kernel_rfl) (by kernel_rfl)
instance : PlainFn Tryz.prog 38 := plainFn_of Tryz.func38 (by kernel_rfl) (by kernel_rfl)
instance : PlainFn Tryz.prog 39 := plainFn_of Tryz.func39 (by kernel_rfl) (by kernel_rfl)
instance : PlainFn Tryz.prog 40 := plainFn_of Tryz.func40 (by kernel_rfl) (by kernel_rfl)
instance : PlainFn Tryz.prog 41 := plainFn_of Tryz.func41 (by kernel_rfl) (by kernel_rfl)
instance : PlainFn Tryz.prog 42 := plainFn_of Tryz.func42 (by kernel_rfl) (by kernel_rfl)
instance : PlainFn Tryz.prog 43 := plainFn_of Tryz.func43 (by kernel_rfl) (by kernel_rfl)
instance : PlainFn Tryz.prog 44 := plainFn_of Tryz.func44 (by kernel_rfl) (by kernel_rfl)
instance : PlainFn Tryz.prog 45 := plainFn_of Tryz.func45 (by kernel_rfl) (by kernel_rfl)
instance : PlainFn Tryz.prog 46 := plainFn_of Tryz.func46 (by kernel_rfl) (by kernel_rfl)
instance : PlainFn Tryz.prog 47 := plainFn_of Tryz.func47 (by kernel_rfl) (by kernel_rfl)
instance : PlainFn Tryz.prog 48 := plainFn_of Tryz.func48 (by kernel_rfl) (by kernel_rfl)
instance : PlainFn Tryz.prog 49 := plainFn_of Tryz.func49 (by kernel_rfl) (by kernel_rfl)
instance : PlainFn Tryz.prog 50 := plainFn_of Tryz.func50 (by kernel_rfl) (by kernel_rfl)
instance : PlainFn Tryz.prog 51 := plainFn_of Tryz.func51 (by kernel_rfl) (by kernel_rfl)
instance : PlainFn Tryz.prog 52 := plainFn_of Tryz.func52 (by kernel_rfl) (by kernel_rfl)
instance : PlainFn Tryz.prog 53 := plainFn_of Tryz.func53 (by kernel_rfl) (by kernel_rfl)
instance : PlainFn Tryz.prog 54 := plainFn_of Tryz.func54 (by kernel_rfl) (by kernel_rfl)
instance : PlainFn Tryz.prog 55 := plainFn_of Tryz.func55 (by kernel_rfl) (by kernel_rfl)
instance : PlainFn Tryz.prog 56 := plainFn_of Tryz.func56 (by kernel_rfl) (by kernel_rfl)
instance : PlainFn Tryz.prog 57 := plainFn_of Tryz.func57 (by kernel_rfl) (by kernel_rfl)
instance : PlainFn Tryz.prog 58 := plainFn_of Tryz.func58 (by kernel_rfl) (by kernel_rfl)
instance : PlainFn Tryz.prog 59 := plainFn_of Tryz.func59 (by kernel_rfl) (by kernel_rfl)
instance : PlainFn Tryz.prog 60 := plainFn_of Tryz.func60 (by kernel_rfl) (by kernel_rfl)
instance : PlainFn Tryz.prog 61 := plainFn_of Tryz.func61 (by kernel_rfl) (by kernel_rfl)
instance : PlainFn Tryz.prog 62 := plainFn_of Tryz.func62 (by kernel_rfl) (by kernel_rfl)
instance : PlainFn Tryz.prog 63 := plainFn_of Tryz.func63 (by kernel_rfl) (by kernel_rfl)
instance : PlainFn Tryz.prog 64 := plainFn_of Tryz.func64 (by kernel_rfl) (by kernel_rfl)
instance : PlainFn Tryz.prog 65 := plainFn_of Tryz.func65 (by kernel_rfl) (by kernel_rfl)
instance : PlainFn Tryz.prog 66 := plainFn_of Tryz.func66 (by kernel_rfl) (by kernel_rfl)
instance : PlainFn Tryz.prog 67 := plainFn_of Tryz.func67 (by kernel_rfl) (by kernel_rfl)
instance : PlainFn Tryz.prog 68 := plainFn_of Tryz.func68 (by kernel_rfl) (by kernel_rfl)
instance : PlainFn Tryz.prog 69 := plainFn_of Tryz.func69 (by kernel_rfl) (by kernel_rfl)
instance : PlainFn Tryz.prog 70 := plainFn_of Tryz.func70 (by kernel_rfl) (by kernel_rfl)
instance : PlainFn Tryz.prog 71 := plainFn_of Tryz.func71 (by kernel_rfl) (by kernel_rfl)
instance : PlainFn Tryz.prog 72 := plainFn_of Tryz.func72 (by kernel_rfl) (by kernel_rfl)
instance : PlainFn Tryz.prog 73 := plainFn_of Tryz.func73 (by kernel_rfl) (by kernel_rfl)
instance : PlainFn Tryz.prog 74 := plainFn_of Tryz.func74 (by kernel_rfl) (by kernel_rfl)
instance : PlainFn Tryz.prog 75 := plainFn_of Tryz.func75 (by kernel_rfl) (by kernel_rfl)
instance : PlainFn Tryz.prog 76 := plainFn_of Tryz.func76 (by kernel_rfl) (by kernel_rfl)
instance : PlainFn Tryz.prog 77 := plainFn_of Tryz.func77 (by kernel_rfl) (by kernel_rfl)
instance : PlainFn Tryz.prog 78 := plainFn_of Tryz.func78 (by kernel_rfl) (by kernel_rfl)
instance : PlainFn Tryz.prog 79 := plainFn_of Tryz.func79 (by kernel_rfl) (by kernel_rfl)
instance : PlainFn Tryz.prog 80 := plainFn_of Tryz.func80 (by kernel_rfl) (by kernel_rfl)
instance : PlainFn Tryz.prog 81 := plainFn_of Tryz.func81 (by kernel_rfl) (by kernel_rfl)
instance : PlainFn Tryz.prog 82 := plainFn_of Tryz.func82 (by kernel_rfl) (by kernel_rfl)
instance : PlainFn Tryz.prog 83 := plainFn_of Tryz.func83 (by kernel_rfl) (by kernel_rfl)
instance : PlainFn Tryz.prog 84 := plainFn_of Tryz.func84 (by kernel_rfl) (by kernel_rfl)
instance : PlainFn Tryz.prog 85 := plainFn_of Tryz.func85 (by kernel_rfl) (by kernel_rfl)
instance : PlainFn Tryz.prog 86 := plainFn_of Tryz.func86 (by kernel_rfl) (by kernel_rfl)
instance : PlainFn Tryz.prog 87 := plainFn_of Tryz.func87 (by kernel_rfl) (by kernel_rfl)
instance : PlainFn Tryz.prog 88 := plainFn_of Tryz.func88 (by kernel_rfl) (by kernel_rfl)
instance : PlainFn Tryz.prog 89 := plainFn_of Tryz.func89 (by kernel_rfl) (by kernel_rfl)
instance : PlainFn Tryz.prog 90 := plainFn_of Tryz.func90 (by kernel_rfl) (by kernel_rfl)
instance : PlainFn Tryz.prog 91 := plainFn_of Tryz.func91 (by kernel_rfl) (by kernel_rfl)
instance : PlainFn Tryz.prog 92 := plainFn_of Tryz.func92 (by kernel_rfl) (by kernel_rfl)
instance : PlainFn Tryz.prog 93 := plainFn_of Tryz.func93 (by kernel_rfl) (by kernel_rfl)
instance : PlainFn Tryz.prog 94 := plainFn_of Tryz.func94 (by kernel_rfl) (by kernel_rfl)
instance : PlainFn Tryz.prog 95 := plainFn_of Tryz.func95 (by kernel_rfl) (by kernel_rfl)
instance : PlainFn Tryz.prog 96 := plainFn_of Tryz.func96 (by kernel_rfl) (by kernel_rfl)
instance : PlainFn Tryz.prog 97 := plainFn_of Tryz.func97 (by kernel_rfl) (by kernel_rfl)
instance : PlainFn Tryz.prog 98 := plainFn_of Tryz.func98 (by kernel_rfl) (by kernel_rfl)
instance : PlainFn Tryz.prog 99 := plainFn_of Tryz.func99 (by kernel_rfl) (by kernel_rfl)
instance : PlainFn Tryz.prog 100 := plainFn_of Tryz.func100 (by kernel_rfl) (by kernel_rfl)
instance : PlainFn Tryz.prog 101 := plainFn_of Tryz.func101 (by kernel_rfl) (by kernel_rfl)
instance : PlainFn Tryz.prog 102 := plainFn_of Tryz.func102 (by kernel_rfl) (by kernel_rfl)
instance : PlainFn Tryz.prog 103 := plainFn_of Tryz.func103 (by kernel_rfl) (by kernel_rfl)
instance : PlainFn Tryz.prog 104 := plainFn_of Tryz.func104 (by kernel_rfl) (by kernel_rfl)
instance : PlainFn Tryz.prog 105 := plainFn_of Tryz.func105 (by kernel_rfl) (by kernel_rfl)
instance : PlainFn Tryz.prog 106 := plainFn_of Tryz.func106 (by kernel_rfl) (by kernel_rfl)
instance : PlainFn Tryz.prog 107 := plainFn_of Tryz.func107 (by kernel_rfl) (by kernel_rfl)
instance : PlainFn Tryz.prog 108 := plainFn_of Tryz.func108 (by kernel_rfl) (by kernel_rfl)
instance : PlainFn Tryz.prog 109 := plainFn_of Tryz.func109 (by kernel_rfl) (by kernel_rfl)
instance : PlainFn Tryz.prog 110 := plainFn_of Tryz.func110 (by kernel_rfl) (by kernel_rfl)
instance : PlainFn Tryz.prog 111 := plainFn_of Tryz.func111 (by kernel_rfl) (by kernel_rfl)
instance : PlainFn Tryz.prog 112 := plainFn_of Tryz.func112 (by kernel_rfl) (by kernel_rfl)
instance : PlainFn Tryz.prog 113 := plainFn_of Tryz.func113 (by kernel_rfl) (by kernel_rfl)
instance : PlainFn Tryz.prog 114 := plainFn_of Tryz.func114 (by kernel_rfl) (by kernel_rfl)
instance : PlainFn Tryz.prog 115 := plainFn_of Tryz.func115 (by kernel_rfl) (by kernel_rfl)
instance : PlainFn Tryz.prog 116 := plainFn_of Tryz.func116 (by kernel_rfl) (by kernel_rfl)
instance : PlainFn Tryz.prog 117 := plainFn_of Tryz.func117 (by kernel_rfl) (by kernel_rfl)
instance : PlainFn Tryz.prog 118 := plainFn_of Tryz.func118 (by kernel_rfl) (by kernel_rfl)
instance : PlainFn Tryz.prog 119 := plainFn_of Tryz.func119 (by kernel_rfl) (by kernel_rfl)
instance : PlainFn Tryz.prog 120 := plainFn_of Tryz.func120 (by kernel_rfl) (by kernel_rfl)
instance : PlainFn Tryz.prog 121 := plainFn_of Tryz.func121 (by kernel_rfl) (by kernel_rfl)
instance : PlainFn Tryz.prog 122 := plainFn_of Tryz.func122 (by kernel_rfl) (by kernel_rfl)
instance : PlainFn Tryz.prog 123 := plainFn_of Tryz.func123 (by kernel_rfl) (by kernel_rfl)
instance : PlainFn Tryz.prog 124 := plainFn_of Tryz.func124 (by kernel_rfl) (by kernel_rfl)
instance : PlainFn Tryz.prog 125 := plainFn_of Tryz.func125 (by kernel_rfl) (by kernel_rfl)
instance : PlainFn Tryz.prog 126 := plainFn_of Tryz.func126 (by kernel_rfl) (by kernel_rfl)
instance : PlainFn Tryz.prog 127 := plainFn_of Tryz.func127 (by kernel_rfl) (by kernel_rfl)
instance : PlainFn Tryz.prog 128 := plainFn_of Tryz.func128 (by kernel_rfl) (by kernel_rfl)
instance : PlainFn Tryz.prog 129 := plainFn_of Tryz.func129 (by kernel_rfl) (by kernel_rfl)
instance : PlainFn Tryz.prog 130 := plainFn_of Tryz.func130 (by kernel_rfl) (by kernel_rfl)
instance : PlainFn Tryz.prog 131 := plainFn_of Tryz.func131 (by kernel_rfl) (by kernel_rfl)
instance : PlainFn Tryz.prog 162 := plainFn_of Tryz.func162 (by kernel_rfl) (by kernel_rfl)
theorem depth2 : 2 ≤ Tryz.prog.depth := Nat.le_of_ble_eq_true (by kernel_rfl)
theorem mixed : Tryz.prog.follows .mixedOrders = true := by kernel_rfl
end Go.Proofs.YtmnhnbpnjepkbaaGreatDoor

namespace Go.Proofs.YtmnhnbpnjepkbaaGreatDoor
open Go.RowKit
set_option linter.unusedVariables false

def isSmall (c : UInt8) : Bool := decide (97 ≤ c.toNat) && decide (c.toNat ≤ 122)
def isUp (c : UInt8) : Bool := decide (65 ≤ c.toNat) && decide (c.toNat ≤ 90)
def isDig (c : UInt8) : Bool := decide (48 ≤ c.toNat) && decide (c.toNat ≤ 57)
def isLet (c : UInt8) : Bool := isSmall c || isUp c
def inName (c : UInt8) : Bool := isSmall c || isDig c || decide (c.toNat = 95)
def inComm (c : UInt8) : Bool := !decide (c.toNat = 10)

/-- a test of bytes -/
def Test (g : FuncId) (p : UInt8 → Bool) : Prop := ∀ (c : UInt8) (w : World), Fn Tryz.prog g [enc8 c] w fun v w' => v = .bool (p c) ∧ w' = w

theorem small_ok : Test 94 isSmall := by
  intro c w
  refine fn_of_wc Tryz.func94 rfl Tryz.ntmps94 (Nat.le_of_ble_eq_true rfl) (by kernel_rfl) ?_
  repeat'
    first
      | refine Q_then ?_ | refine C_cond_t rfl ?_ | refine C_cond_f rfl ?_ | refine C_seq ?_ | refine C_block ?_ | refine C_skip ?_ | refine C_ret ?_ | refine C_exit ?_
      | refine Q_then_ret ?_ | refine Q_then_exit ?_ | refine Q_block ?_ | refine Q_block_ret ?_ | refine Q_block_here ?_ | refine Q_block_on rfl ?_ | refine C_scope ?_ | refine C_label ?_ | refine Q_asn ?_ | refine Q_then_pan ?_ | refine Q_block_pan ?_ | refine Q_scope (fun l h => by cases h) ?_
  (refine C_region ?_
   <;> (refine M_assign ?_; (first | refine M_bool rfl ?_ | refine W_move ?_))
   <;> refine W_nil ?_)
  repeat'
    first
      | refine Q_then ?_ | refine C_cond_t rfl ?_ | refine C_cond_f rfl ?_ | refine C_seq ?_ | refine C_block ?_ | refine C_skip ?_ | refine C_ret ?_ | refine C_exit ?_
      | refine Q_then_ret ?_ | refine Q_then_exit ?_ | refine Q_block ?_ | refine Q_block_ret ?_ | refine Q_block_here ?_ | refine Q_block_on rfl ?_ | refine C_scope ?_ | refine C_label ?_ | refine Q_asn ?_ | refine Q_then_pan ?_ | refine Q_block_pan ?_ | refine Q_scope (fun l h => by cases h) ?_
  (refine C_region ?_
   <;> (first | refine M_int rfl ?_ | refine W_move ?_)
   <;> (refine W_leq rfl rfl (fun hc => ?_) (fun hc => ?_) <;> try (exfalso; omega))
   <;> (first | refine M_bool rfl ?_ | refine W_move ?_)
   <;> (first | refine W_no rfl ?_ | (refine W_yes rfl ?_; (first | refine M_int rfl ?_ | refine W_move ?_)))
   <;> (first | refine W_no rfl ?_ | (refine W_yes rfl ?_; (refine W_leq rfl rfl (fun hc => ?_) (fun hc => ?_) <;> try (exfalso; omega))))
   <;> ((first | refine M_pick_t rfl ?_ | refine M_pick_f rfl ?_); (first | refine M_bool rfl ?_ | refine W_move ?_))
   <;> (refine M_assign ?_; (first | refine M_bool rfl ?_ | refine W_move ?_))
   <;> refine W_nil ?_)
  all_goals
    repeat'
      first
        | refine Q_then ?_ | refine C_cond_t rfl ?_ | refine C_cond_f rfl ?_ | refine C_seq ?_ | refine C_block ?_ | refine C_skip ?_ | refine C_ret ?_ | refine C_exit ?_
        | refine Q_then_ret ?_ | refine Q_then_exit ?_ | refine Q_block ?_ | refine Q_block_ret ?_ | refine Q_block_here ?_ | refine Q_block_on rfl ?_ | refine C_scope ?_ | refine C_label ?_ | refine Q_asn ?_ | refine Q_then_pan ?_ | refine Q_block_pan ?_ | refine Q_scope (fun l h => by cases h) ?_
    exact fin_ret1 rfl ⟨by simp [isSmall, upd, Nat.beq]; omega, rfl⟩

theorem dig_ok : Test 95 isDig := by
  intro c w
  refine fn_of_wc Tryz.func95 rfl Tryz.ntmps95 (Nat.le_of_ble_eq_true rfl) (by kernel_rfl) ?_
  repeat'
    first
      | refine Q_then ?_ | refine C_cond_t rfl ?_ | refine C_cond_f rfl ?_ | refine C_seq ?_ | refine C_block ?_ | refine C_skip ?_ | refine C_ret ?_ | refine C_exit ?_
      | refine Q_then_ret ?_ | refine Q_then_exit ?_ | refine Q_block ?_ | refine Q_block_ret ?_ | refine Q_block_here ?_ | refine Q_block_on rfl ?_ | refine C_scope ?_ | refine C_label ?_ | refine Q_asn ?_ | refine Q_then_pan ?_ | refine Q_block_pan ?_ | refine Q_scope (fun l h => by cases h) ?_
  (refine C_region ?_
   <;> (refine M_assign ?_; (first | refine M_bool rfl ?_ | refine W_move ?_))
   <;> refine W_nil ?_)
  repeat'
    first
      | refine Q_then ?_ | refine C_cond_t rfl ?_ | refine C_cond_f rfl ?_ | refine C_seq ?_ | refine C_block ?_ | refine C_skip ?_ | refine C_ret ?_ | refine C_exit ?_
      | refine Q_then_ret ?_ | refine Q_then_exit ?_ | refine Q_block ?_ | refine Q_block_ret ?_ | refine Q_block_here ?_ | refine Q_block_on rfl ?_ | refine C_scope ?_ | refine C_label ?_ | refine Q_asn ?_ | refine Q_then_pan ?_ | refine Q_block_pan ?_ | refine Q_scope (fun l h => by cases h) ?_
  (refine C_region ?_
   <;> (first | refine M_int rfl ?_ | refine W_move ?_)
   <;> (refine W_leq rfl rfl (fun hc => ?_) (fun hc => ?_) <;> try (exfalso; omega))
   <;> (first | refine M_bool rfl ?_ | refine W_move ?_)
   <;> (first | refine W_no rfl ?_ | (refine W_yes rfl ?_; (first | refine M_int rfl ?_ | refine W_move ?_)))
   <;> (first | refine W_no rfl ?_ | (refine W_yes rfl ?_; (refine W_leq rfl rfl (fun hc => ?_) (fun hc => ?_) <;> try (exfalso; omega))))
   <;> ((first | refine M_pick_t rfl ?_ | refine M_pick_f rfl ?_); (first | refine M_bool rfl ?_ | refine W_move ?_))
   <;> (refine M_assign ?_; (first | refine M_bool rfl ?_ | refine W_move ?_))
   <;> refine W_nil ?_)
  all_goals
    repeat'
      first
        | refine Q_then ?_ | refine C_cond_t rfl ?_ | refine C_cond_f rfl ?_ | refine C_seq ?_ | refine C_block ?_ | refine C_skip ?_ | refine C_ret ?_ | refine C_exit ?_
        | refine Q_then_ret ?_ | refine Q_then_exit ?_ | refine Q_block ?_ | refine Q_block_ret ?_ | refine Q_block_here ?_ | refine Q_block_on rfl ?_ | refine C_scope ?_ | refine C_label ?_ | refine Q_asn ?_ | refine Q_then_pan ?_ | refine Q_block_pan ?_ | refine Q_scope (fun l h => by cases h) ?_
    exact fin_ret1 rfl ⟨by simp [isDig, upd, Nat.beq]; omega, rfl⟩

theorem comm_ok : Test 92 inComm := by
  intro c w
  refine fn_of_wc Tryz.func92 rfl Tryz.ntmps92 (Nat.le_of_ble_eq_true rfl) (by kernel_rfl) ?_
  repeat'
    first
      | refine Q_then ?_ | refine C_cond_t rfl ?_ | refine C_cond_f rfl ?_ | refine C_seq ?_ | refine C_block ?_ | refine C_skip ?_ | refine C_ret ?_ | refine C_exit ?_
      | refine Q_then_ret ?_ | refine Q_then_exit ?_ | refine Q_block ?_ | refine Q_block_ret ?_ | refine Q_block_here ?_ | refine Q_block_on rfl ?_ | refine C_scope ?_ | refine C_label ?_ | refine Q_asn ?_ | refine Q_then_pan ?_ | refine Q_block_pan ?_ | refine Q_scope (fun l h => by cases h) ?_
  (refine C_region ?_
   <;> (refine M_assign ?_; (first | refine M_bool rfl ?_ | refine W_move ?_))
   <;> refine W_nil ?_)
  repeat'
    first
      | refine Q_then ?_ | refine C_cond_t rfl ?_ | refine C_cond_f rfl ?_ | refine C_seq ?_ | refine C_block ?_ | refine C_skip ?_ | refine C_ret ?_ | refine C_exit ?_
      | refine Q_then_ret ?_ | refine Q_then_exit ?_ | refine Q_block ?_ | refine Q_block_ret ?_ | refine Q_block_here ?_ | refine Q_block_on rfl ?_ | refine C_scope ?_ | refine C_label ?_ | refine Q_asn ?_ | refine Q_then_pan ?_ | refine Q_block_pan ?_ | refine Q_scope (fun l h => by cases h) ?_
  (refine C_region ?_
   <;> (first | refine M_int rfl ?_ | refine W_move ?_)
   <;> (refine W_neq rfl rfl (fun hc => ?_) (fun hc => ?_) <;> try (exfalso; omega))
   <;> (refine M_assign ?_; (first | refine M_bool rfl ?_ | refine W_move ?_))
   <;> refine W_nil ?_)
  all_goals
    repeat'
      first
        | refine Q_then ?_ | refine C_cond_t rfl ?_ | refine C_cond_f rfl ?_ | refine C_seq ?_ | refine C_block ?_ | refine C_skip ?_ | refine C_ret ?_ | refine C_exit ?_
        | refine Q_then_ret ?_ | refine Q_then_exit ?_ | refine Q_block ?_ | refine Q_block_ret ?_ | refine Q_block_here ?_ | refine Q_block_on rfl ?_ | refine C_scope ?_ | refine C_label ?_ | refine Q_asn ?_ | refine Q_then_pan ?_ | refine Q_block_pan ?_ | refine Q_scope (fun l h => by cases h) ?_
    exact fin_ret1 rfl ⟨by simp [inComm, upd, Nat.beq]; omega, rfl⟩

theorem let_ok : Test 97 isLet := by
  intro c w
  refine fn_of_wc Tryz.func97 rfl Tryz.ntmps97 (Nat.le_of_ble_eq_true rfl) (by kernel_rfl) ?_
  repeat'
    first
      | refine Q_then ?_ | refine C_cond_t rfl ?_ | refine C_cond_f rfl ?_ | refine C_seq ?_ | refine C_block ?_ | refine C_skip ?_ | refine C_ret ?_ | refine C_exit ?_
      | refine Q_then_ret ?_ | refine Q_then_exit ?_ | refine Q_block ?_ | refine Q_block_ret ?_ | refine Q_block_here ?_ | refine Q_block_on rfl ?_ | refine C_scope ?_ | refine C_label ?_ | refine Q_asn ?_ | refine Q_then_pan ?_ | refine Q_block_pan ?_ | refine Q_scope (fun l h => by cases h) ?_
  (refine C_region ?_
   <;> (refine M_assign ?_; (first | refine M_bool rfl ?_ | refine W_move ?_))
   <;> refine W_nil ?_)
  repeat'
    first
      | refine Q_then ?_ | refine C_cond_t rfl ?_ | refine C_cond_f rfl ?_ | refine C_seq ?_ | refine C_block ?_ | refine C_skip ?_ | refine C_ret ?_ | refine C_exit ?_
      | refine Q_then_ret ?_ | refine Q_then_exit ?_ | refine Q_block ?_ | refine Q_block_ret ?_ | refine Q_block_here ?_ | refine Q_block_on rfl ?_ | refine C_scope ?_ | refine C_label ?_ | refine Q_asn ?_ | refine Q_then_pan ?_ | refine Q_block_pan ?_ | refine Q_scope (fun l h => by cases h) ?_
  (refine C_region ?_
   <;> (first | refine M_int rfl ?_ | refine W_move ?_))
  -- at operation 1: <dst=(some 4) op=(call <callee=(value (func 94)) args=[(tmp 3)] argTypes=[5]>) type=4 guard=none>
  refine W_call (small_ok c w) rfl ?_
  rintro v w' ⟨rfl, rfl⟩
  cases hs : isSmall c with
  | true =>
    ((first | refine M_bool rfl ?_ | refine W_move ?_)
     <;> (first | refine W_no rfl ?_ | (refine W_yes rfl ?_; (first | refine M_int rfl ?_ | refine W_move ?_)))
     <;> (first | refine W_no rfl ?_ | (refine W_yes rfl ?_; (refine W_leq rfl rfl (fun hc => ?_) (fun hc => ?_) <;> try (exfalso; omega))))
     <;> (first | refine W_no rfl ?_ | (refine W_yes rfl ?_; (first | refine M_bool rfl ?_ | refine W_move ?_)))
     <;> (first | refine W_no rfl ?_ | (refine W_yes rfl ?_; (first | refine M_int rfl ?_ | refine W_move ?_)))
     <;> (first | refine W_no rfl ?_ | (refine W_yes rfl ?_; (refine W_leq rfl rfl (fun hc => ?_) (fun hc => ?_) <;> try (exfalso; omega))))
     <;> (first | refine W_no rfl ?_ | (refine W_yes rfl ?_; ((first | refine M_pick_t rfl ?_ | refine M_pick_f rfl ?_); (first | refine M_bool rfl ?_ | refine W_move ?_))))
     <;> ((first | refine M_pick_t rfl ?_ | refine M_pick_f rfl ?_); (first | refine M_bool rfl ?_ | refine W_move ?_))
     <;> (refine M_assign ?_; (first | refine M_bool rfl ?_ | refine W_move ?_))
     <;> refine W_nil ?_)
    all_goals
      repeat'
        first
          | refine Q_then ?_ | refine C_cond_t rfl ?_ | refine C_cond_f rfl ?_ | refine C_seq ?_ | refine C_block ?_ | refine C_skip ?_ | refine C_ret ?_ | refine C_exit ?_
          | refine Q_then_ret ?_ | refine Q_then_exit ?_ | refine Q_block ?_ | refine Q_block_ret ?_ | refine Q_block_here ?_ | refine Q_block_on rfl ?_ | refine C_scope ?_ | refine C_label ?_ | refine Q_asn ?_ | refine Q_then_pan ?_ | refine Q_block_pan ?_ | refine Q_scope (fun l h => by cases h) ?_
      exact fin_ret1 rfl ⟨by simp [isLet, hs, upd, Nat.beq], rfl⟩
  | false =>
    ((first | refine M_bool rfl ?_ | refine W_move ?_)
     <;> (first | refine W_no rfl ?_ | (refine W_yes rfl ?_; (first | refine M_int rfl ?_ | refine W_move ?_)))
     <;> (first | refine W_no rfl ?_ | (refine W_yes rfl ?_; (refine W_leq rfl rfl (fun hc => ?_) (fun hc => ?_) <;> try (exfalso; omega))))
     <;> (first | refine W_no rfl ?_ | (refine W_yes rfl ?_; (first | refine M_bool rfl ?_ | refine W_move ?_)))
     <;> (first | refine W_no rfl ?_ | (refine W_yes rfl ?_; (first | refine M_int rfl ?_ | refine W_move ?_)))
     <;> (first | refine W_no rfl ?_ | (refine W_yes rfl ?_; (refine W_leq rfl rfl (fun hc => ?_) (fun hc => ?_) <;> try (exfalso; omega))))
     <;> (first | refine W_no rfl ?_ | (refine W_yes rfl ?_; ((first | refine M_pick_t rfl ?_ | refine M_pick_f rfl ?_); (first | refine M_bool rfl ?_ | refine W_move ?_))))
     <;> ((first | refine M_pick_t rfl ?_ | refine M_pick_f rfl ?_); (first | refine M_bool rfl ?_ | refine W_move ?_))
     <;> (refine M_assign ?_; (first | refine M_bool rfl ?_ | refine W_move ?_))
     <;> refine W_nil ?_)
    all_goals
      repeat'
        first
          | refine Q_then ?_ | refine C_cond_t rfl ?_ | refine C_cond_f rfl ?_ | refine C_seq ?_ | refine C_block ?_ | refine C_skip ?_ | refine C_ret ?_ | refine C_exit ?_
          | refine Q_then_ret ?_ | refine Q_then_exit ?_ | refine Q_block ?_ | refine Q_block_ret ?_ | refine Q_block_here ?_ | refine Q_block_on rfl ?_ | refine C_scope ?_ | refine C_label ?_ | refine Q_asn ?_ | refine Q_then_pan ?_ | refine Q_block_pan ?_ | refine Q_scope (fun l h => by cases h) ?_
      exact fin_ret1 rfl ⟨by simp [isLet, hs, isUp, upd, Nat.beq]; omega, rfl⟩

theorem name_ok : Test 93 inName := by
  intro c w
  refine fn_of_wc Tryz.func93 rfl Tryz.ntmps93 (Nat.le_of_ble_eq_true rfl) (by kernel_rfl) ?_
  repeat'
    first
      | refine Q_then ?_ | refine C_cond_t rfl ?_ | refine C_cond_f rfl ?_ | refine C_seq ?_ | refine C_block ?_ | refine C_skip ?_ | refine C_ret ?_ | refine C_exit ?_
      | refine Q_then_ret ?_ | refine Q_then_exit ?_ | refine Q_block ?_ | refine Q_block_ret ?_ | refine Q_block_here ?_ | refine Q_block_on rfl ?_ | refine C_scope ?_ | refine C_label ?_ | refine Q_asn ?_ | refine Q_then_pan ?_ | refine Q_block_pan ?_ | refine Q_scope (fun l h => by cases h) ?_
  (refine C_region ?_
   <;> (refine M_assign ?_; (first | refine M_bool rfl ?_ | refine W_move ?_))
   <;> refine W_nil ?_)
  repeat'
    first
      | refine Q_then ?_ | refine C_cond_t rfl ?_ | refine C_cond_f rfl ?_ | refine C_seq ?_ | refine C_block ?_ | refine C_skip ?_ | refine C_ret ?_ | refine C_exit ?_
      | refine Q_then_ret ?_ | refine Q_then_exit ?_ | refine Q_block ?_ | refine Q_block_ret ?_ | refine Q_block_here ?_ | refine Q_block_on rfl ?_ | refine C_scope ?_ | refine C_label ?_ | refine Q_asn ?_ | refine Q_then_pan ?_ | refine Q_block_pan ?_ | refine Q_scope (fun l h => by cases h) ?_
  (refine C_region ?_
   <;> (first | refine M_int rfl ?_ | refine W_move ?_))
  -- at operation 1: <dst=(some 4) op=(call <callee=(value (func 94)) args=[(tmp 3)] argTypes=[5]>) type=4 guard=none>
  refine W_call (small_ok c w) rfl ?_
  rintro v w' ⟨rfl, rfl⟩
  cases hs : isSmall c with
  | true =>
    ((first | refine M_bool rfl ?_ | refine W_move ?_)
     <;> (first | refine W_no rfl ?_ | (refine W_yes rfl ?_; (first | refine M_int rfl ?_ | refine W_move ?_)))
     <;> refine W_no rfl ?_
     <;> ((first | refine M_pick_t rfl ?_ | refine M_pick_f rfl ?_); (first | refine M_bool rfl ?_ | refine W_move ?_))
     <;> (first | refine M_bool rfl ?_ | refine W_move ?_)
     <;> (first | refine W_no rfl ?_ | (refine W_yes rfl ?_; (first | refine M_int rfl ?_ | refine W_move ?_)))
     <;> (first | refine W_no rfl ?_ | (refine W_yes rfl ?_; (refine W_eql rfl rfl (fun hc => ?_) (fun hc => ?_) <;> try (exfalso; omega))))
     <;> ((first | refine M_pick_t rfl ?_ | refine M_pick_f rfl ?_); (first | refine M_bool rfl ?_ | refine W_move ?_))
     <;> (refine M_assign ?_; (first | refine M_bool rfl ?_ | refine W_move ?_))
     <;> refine W_nil ?_)
    all_goals
      repeat'
        first
          | refine Q_then ?_ | refine C_cond_t rfl ?_ | refine C_cond_f rfl ?_ | refine C_seq ?_ | refine C_block ?_ | refine C_skip ?_ | refine C_ret ?_ | refine C_exit ?_
          | refine Q_then_ret ?_ | refine Q_then_exit ?_ | refine Q_block ?_ | refine Q_block_ret ?_ | refine Q_block_here ?_ | refine Q_block_on rfl ?_ | refine C_scope ?_ | refine C_label ?_ | refine Q_asn ?_ | refine Q_then_pan ?_ | refine Q_block_pan ?_ | refine Q_scope (fun l h => by cases h) ?_
      exact fin_ret1 rfl ⟨by simp [inName, hs, upd, Nat.beq], rfl⟩
  | false =>
    ((first | refine M_bool rfl ?_ | refine W_move ?_)
     <;> (first | refine W_no rfl ?_ | (refine W_yes rfl ?_; (first | refine M_int rfl ?_ | refine W_move ?_))))
    -- at operation 4: <dst=(some 7) op=(call <callee=(value (func 95)) args=[(tmp 6)] argTypes=[5]>) type=4 guard=(some [2, false])>
    refine W_yes rfl ?_
    refine W_call (dig_ok c _) rfl ?_
    rintro v w' ⟨rfl, rfl⟩
    cases hd : isDig c with
    | true =>
      (((first | refine M_pick_t rfl ?_ | refine M_pick_f rfl ?_); (first | refine M_bool rfl ?_ | refine W_move ?_))
       <;> (first | refine M_bool rfl ?_ | refine W_move ?_)
       <;> (first | refine W_no rfl ?_ | (refine W_yes rfl ?_; (first | refine M_int rfl ?_ | refine W_move ?_)))
       <;> (first | refine W_no rfl ?_ | (refine W_yes rfl ?_; (refine W_eql rfl rfl (fun hc => ?_) (fun hc => ?_) <;> try (exfalso; omega))))
       <;> ((first | refine M_pick_t rfl ?_ | refine M_pick_f rfl ?_); (first | refine M_bool rfl ?_ | refine W_move ?_))
       <;> (refine M_assign ?_; (first | refine M_bool rfl ?_ | refine W_move ?_))
       <;> refine W_nil ?_)
      all_goals
        repeat'
          first
            | refine Q_then ?_ | refine C_cond_t rfl ?_ | refine C_cond_f rfl ?_ | refine C_seq ?_ | refine C_block ?_ | refine C_skip ?_ | refine C_ret ?_ | refine C_exit ?_
            | refine Q_then_ret ?_ | refine Q_then_exit ?_ | refine Q_block ?_ | refine Q_block_ret ?_ | refine Q_block_here ?_ | refine Q_block_on rfl ?_ | refine C_scope ?_ | refine C_label ?_ | refine Q_asn ?_ | refine Q_then_pan ?_ | refine Q_block_pan ?_ | refine Q_scope (fun l h => by cases h) ?_
        exact fin_ret1 rfl ⟨by simp [inName, hs, hd, upd, Nat.beq], rfl⟩
    | false =>
      (((first | refine M_pick_t rfl ?_ | refine M_pick_f rfl ?_); (first | refine M_bool rfl ?_ | refine W_move ?_))
       <;> (first | refine M_bool rfl ?_ | refine W_move ?_)
       <;> (first | refine W_no rfl ?_ | (refine W_yes rfl ?_; (first | refine M_int rfl ?_ | refine W_move ?_)))
       <;> (first | refine W_no rfl ?_ | (refine W_yes rfl ?_; (refine W_eql rfl rfl (fun hc => ?_) (fun hc => ?_) <;> try (exfalso; omega))))
       <;> ((first | refine M_pick_t rfl ?_ | refine M_pick_f rfl ?_); (first | refine M_bool rfl ?_ | refine W_move ?_))
       <;> (refine M_assign ?_; (first | refine M_bool rfl ?_ | refine W_move ?_))
       <;> refine W_nil ?_)
      all_goals
        repeat'
          first
            | refine Q_then ?_ | refine C_cond_t rfl ?_ | refine C_cond_f rfl ?_ | refine C_seq ?_ | refine C_block ?_ | refine C_skip ?_ | refine C_ret ?_ | refine C_exit ?_
            | refine Q_then_ret ?_ | refine Q_then_exit ?_ | refine Q_block ?_ | refine Q_block_ret ?_ | refine Q_block_here ?_ | refine Q_block_on rfl ?_ | refine C_scope ?_ | refine C_label ?_ | refine Q_asn ?_ | refine Q_then_pan ?_ | refine Q_block_pan ?_ | refine Q_scope (fun l h => by cases h) ?_
        exact fin_ret1 rfl ⟨by simp [inName, hs, hd, upd, Nat.beq]; omega, rfl⟩

def hasPre (t s : List UInt8) : Bool := decide (s.length ≤ t.length) && decide (t.take s.length = s)
theorem hasPre_iff (t s : List UInt8) : hasPre t s = true ↔ s <+: t := by
  simp only [hasPre, Bool.and_eq_true, decide_eq_true_eq, List.prefix_iff_eq_take]
  constructor
  · rintro ⟨_, h⟩; exact h.symm
  · intro h; exact ⟨by have := congrArg List.length h; simp at this; omega, h.symm⟩

theorem pre2_ok (t s : List UInt8) (w : World) : Fn Tryz.prog 101 [strV t, strV s] w fun v w' => v = .bool (hasPre t s) ∧ w' = w := by
  refine fn_of_wc Tryz.func101 rfl Tryz.ntmps101 (Nat.le_of_ble_eq_true rfl) (by kernel_rfl) ?_
  repeat'
    first
      | refine Q_then ?_ | refine C_cond_t rfl ?_ | refine C_cond_f rfl ?_ | refine C_seq ?_ | refine C_block ?_ | refine C_skip ?_ | refine C_ret ?_ | refine C_exit ?_
      | refine Q_then_ret ?_ | refine Q_then_exit ?_ | refine Q_block ?_ | refine Q_block_ret ?_ | refine Q_block_here ?_ | refine Q_block_on rfl ?_ | refine C_scope ?_ | refine C_label ?_ | refine Q_asn ?_ | refine Q_then_pan ?_ | refine Q_block_pan ?_ | refine Q_scope (fun l h => by cases h) ?_
  (refine C_region ?_
   <;> (refine M_assign ?_; (first | refine M_bool rfl ?_ | refine W_move ?_))
   <;> refine W_nil ?_)
  repeat'
    first
      | refine Q_then ?_ | refine C_cond_t rfl ?_ | refine C_cond_f rfl ?_ | refine C_seq ?_ | refine C_block ?_ | refine C_skip ?_ | refine C_ret ?_ | refine C_exit ?_
      | refine Q_then_ret ?_ | refine Q_then_exit ?_ | refine Q_block ?_ | refine Q_block_ret ?_ | refine Q_block_here ?_ | refine Q_block_on rfl ?_ | refine C_scope ?_ | refine C_label ?_ | refine Q_asn ?_ | refine Q_then_pan ?_ | refine Q_block_pan ?_ | refine Q_scope (fun l h => by cases h) ?_
  (refine C_region ?_
   <;> (first | refine M_str rfl ?_ | refine W_move ?_)
   <;> refine W_slen rfl ?_
   <;> (first | refine M_str rfl ?_ | refine W_move ?_)
   <;> refine W_slen rfl ?_
   <;> (refine W_geq rfl rfl (fun hc => ?_) (fun hc => ?_) <;> try (exfalso; omega))
   <;> (first | refine M_bool rfl ?_ | refine W_move ?_)
   <;> (first | refine W_no rfl ?_ | (refine W_yes rfl ?_; (first | refine M_str rfl ?_ | refine W_move ?_)))
   <;> (first | refine W_no rfl ?_ | (refine W_yes rfl ?_; (first | refine M_str rfl ?_ | refine W_move ?_)))
   <;> (first | refine W_no rfl ?_ | (refine W_yes rfl ?_; refine W_slen rfl ?_))
   <;> (first | refine W_no rfl ?_ | (refine W_yes rfl ?_; refine W_sslice_h rfl rfl (by omega) ?_))
   <;> (first | refine W_no rfl ?_ | (refine W_yes rfl ?_; (first | refine M_str rfl ?_ | refine W_move ?_)))
   <;> (first | refine W_no rfl ?_ | (refine W_yes rfl ?_; refine W_seql rfl rfl (fun hc => ?_) (fun hc => ?_)))
   <;> ((first | refine M_pick_t rfl ?_ | refine M_pick_f rfl ?_); (first | refine M_bool rfl ?_ | refine W_move ?_))
   <;> (refine M_assign ?_; (first | refine M_bool rfl ?_ | refine W_move ?_))
   <;> refine W_nil ?_)
  all_goals
    repeat'
      first
        | refine Q_then ?_ | refine C_cond_t rfl ?_ | refine C_cond_f rfl ?_ | refine C_seq ?_ | refine C_block ?_ | refine C_skip ?_ | refine C_ret ?_ | refine C_exit ?_
        | refine Q_then_ret ?_ | refine Q_then_exit ?_ | refine Q_block ?_ | refine Q_block_ret ?_ | refine Q_block_here ?_ | refine Q_block_on rfl ?_ | refine C_scope ?_ | refine C_label ?_ | refine Q_asn ?_ | refine Q_then_pan ?_ | refine Q_block_pan ?_ | refine Q_scope (fun l h => by cases h) ?_
    exact fin_ret1 rfl ⟨by simp [hasPre, upd, Nat.beq]; first | omega | (intro; omega) | (intro h; exact absurd h (by assumption)) | exact ⟨by omega, by assumption⟩ | skip, rfl⟩

theorem pre_ok (t s : List UInt8) (w : World) : Fn Tryz.prog 98 [strV t, strV s] w fun v w' => v = .bool (hasPre t s) ∧ w' = w := by
  refine fn_of_wc Tryz.func98 rfl Tryz.ntmps98 (Nat.le_of_ble_eq_true rfl) (by kernel_rfl) ?_
  repeat'
    first
      | refine Q_then ?_ | refine C_cond_t rfl ?_ | refine C_cond_f rfl ?_ | refine C_seq ?_ | refine C_block ?_ | refine C_skip ?_ | refine C_ret ?_ | refine C_exit ?_
      | refine Q_then_ret ?_ | refine Q_then_exit ?_ | refine Q_block ?_ | refine Q_block_ret ?_ | refine Q_block_here ?_ | refine Q_block_on rfl ?_ | refine C_scope ?_ | refine C_label ?_ | refine Q_asn ?_ | refine Q_then_pan ?_ | refine Q_block_pan ?_ | refine Q_scope (fun l h => by cases h) ?_
  (refine C_region ?_
   <;> (refine M_assign ?_; (first | refine M_bool rfl ?_ | refine W_move ?_))
   <;> refine W_nil ?_)
  repeat'
    first
      | refine Q_then ?_ | refine C_cond_t rfl ?_ | refine C_cond_f rfl ?_ | refine C_seq ?_ | refine C_block ?_ | refine C_skip ?_ | refine C_ret ?_ | refine C_exit ?_
      | refine Q_then_ret ?_ | refine Q_then_exit ?_ | refine Q_block ?_ | refine Q_block_ret ?_ | refine Q_block_here ?_ | refine Q_block_on rfl ?_ | refine C_scope ?_ | refine C_label ?_ | refine Q_asn ?_ | refine Q_then_pan ?_ | refine Q_block_pan ?_ | refine Q_scope (fun l h => by cases h) ?_
  (refine C_region ?_
   <;> (first | refine M_str rfl ?_ | refine W_move ?_)
   <;> (first | refine M_str rfl ?_ | refine W_move ?_))
  -- at operation 2: <dst=(some 7) op=(call <callee=(value (func 101)) args=[(tmp 5), (tmp 6)] argTypes=[9, 9]>) type=4 guard=none>
  refine W_call (pre2_ok t s w) rfl ?_
  rintro v w' ⟨rfl, rfl⟩
  ((refine M_assign ?_; (first | refine M_bool rfl ?_ | refine W_move ?_))
   <;> refine W_nil ?_)
  repeat'
    first
      | refine Q_then ?_ | refine C_cond_t rfl ?_ | refine C_cond_f rfl ?_ | refine C_seq ?_ | refine C_block ?_ | refine C_skip ?_ | refine C_ret ?_ | refine C_exit ?_
      | refine Q_then_ret ?_ | refine Q_then_exit ?_ | refine Q_block ?_ | refine Q_block_ret ?_ | refine Q_block_here ?_ | refine Q_block_on rfl ?_ | refine C_scope ?_ | refine C_label ?_ | refine Q_asn ?_ | refine Q_then_pan ?_ | refine Q_block_pan ?_ | refine Q_scope (fun l h => by cases h) ?_
  exact fin_ret1 rfl ⟨rfl, rfl⟩
end Go.Proofs.YtmnhnbpnjepkbaaGreatDoor

namespace Go.Proofs.YtmnhnbpnjepkbaaGreatDoor
open Go.RowKit
set_option linter.unusedVariables false

structure Tok where
  kind : Int
  text : List UInt8
  loc : Nat
deriving DecidableEq
def tokC (k : Tok) : List Value := [.int .i64 k.kind, strV k.text, .int .i64 (k.loc : Int)]
def toksC (l : List Tok) : List Value := l.flatMap tokC
theorem toksC_length (l : List Tok) : (toksC l).length = l.length * 3 := by
  induction l with
  | nil => rfl
  | cons k l ih => simp [toksC, tokC] at ih ⊢; omega

abbrev pt (s : Nat) : Value := .pointer (some ⟨s, 0, none⟩)
/-- what a scanner panics with -/
abbrev fail (e : Int) (p : Nat) : List PanicEntry := [{ v := .iface 98 (.agg #[.int .i64 e, .int .i64 (p : Int)]), recovered := false }]

structure St (w0 w : World) (s : Nat) (t : List UInt8) (a : Nat) (ts : List Tok) : Prop where
  keep : Keep [s] w0 w
  lt : s < w0.heap.size
  len : t.length ≤ 6000
  loc : a ≤ t.length
  cnt : ts.length ≤ 2000
  blk : ∃ tv, Blk w s 102 [strV t, .int .i64 (a : Int), tv] ∧ w.ownsRow w0.heap.size 32 3 tv ts.length (toksC ts)

def whileB (p : UInt8 → Bool) (t : List UInt8) (a : Nat) : Nat := a + ((t.drop a).takeWhile p).length
theorem whileB_step {p : UInt8 → Bool} {t : List UInt8} {a : Nat} {c : UInt8} (h : t[a]? = some c) (hp : p c = true) : whileB p t a = whileB p t (a + 1) := by
  obtain ⟨h1, h2⟩ := List.getElem?_eq_some_iff.1 h
  unfold whileB
  rw [List.drop_eq_getElem_cons h1, h2, List.takeWhile_cons_of_pos hp]
  simp; omega
theorem whileB_stop {p : UInt8 → Bool} {t : List UInt8} {a : Nat} {c : UInt8} (h : t[a]? = some c) (hp : p c = false) : whileB p t a = a := by
  obtain ⟨h1, h2⟩ := List.getElem?_eq_some_iff.1 h
  unfold whileB
  rw [List.drop_eq_getElem_cons h1, h2, List.takeWhile_cons_of_neg (by simp [hp])]
  simp
theorem whileB_end {p : UInt8 → Bool} {t : List UInt8} {a : Nat} (h : t.length ≤ a) : whileB p t a = a := by
  unfold whileB
  rw [List.drop_eq_nil_of_le h]; simp
theorem whileB_le {p : UInt8 → Bool} {t : List UInt8} {a : Nat} (h : a ≤ t.length) : whileB p t a ≤ t.length := by
  have := (List.takeWhile_prefix p (l := t.drop a)).length_le
  simp at this
  unfold whileB; omega
theorem whileB_ge (p : UInt8 → Bool) (t : List UInt8) (a : Nat) : a ≤ whileB p t a := by unfold whileB; omega

theorem while_ok {g : FuncId} {p : UInt8 → Bool} [PlainFn Tryz.prog g] (hg : Test g p) (w : World) (s a : Nat) (t : List UInt8) (x y : Value) (hb : Blk w s 102 [strV t, x, y]) (ha : a ≤ t.length) (hl : t.length ≤ 6000) :
    Fn Tryz.prog 91 [pt s, .int .i64 (a : Int), .func (.func g) #[] #[]] w fun v w' => v = .int .i64 (whileB p t a : Int) ∧ w' = w := by
  refine fn_of_wc Tryz.func91 rfl Tryz.ntmps91 (Nat.le_of_ble_eq_true rfl) (by kernel_rfl) ?_
  repeat'
    first
      | refine Q_then ?_ | refine C_cond_t rfl ?_ | refine C_cond_f rfl ?_ | refine C_seq ?_ | refine C_block ?_ | refine C_skip ?_ | refine C_ret ?_ | refine C_exit ?_
      | refine Q_then_ret ?_ | refine Q_then_exit ?_ | refine Q_block ?_ | refine Q_block_ret ?_ | refine Q_block_here ?_ | refine Q_block_on rfl ?_ | refine C_scope ?_ | refine C_label ?_ | refine Q_asn ?_ | refine Q_then_pan ?_ | refine Q_block_pan ?_ | refine Q_scope (fun l h => by cases h) ?_
  (refine C_region ?_
   <;> (refine M_assign ?_; (first | refine M_int rfl ?_ | refine W_move ?_))
   <;> refine W_nil ?_)
  repeat'
    first
      | refine Q_then ?_ | refine C_cond_t rfl ?_ | refine C_cond_f rfl ?_ | refine C_seq ?_ | refine C_block ?_ | refine C_skip ?_ | refine C_ret ?_ | refine C_exit ?_
      | refine Q_then_ret ?_ | refine Q_then_exit ?_ | refine Q_block ?_ | refine Q_block_ret ?_ | refine Q_block_here ?_ | refine Q_block_on rfl ?_ | refine C_scope ?_ | refine C_label ?_ | refine Q_asn ?_ | refine Q_then_pan ?_ | refine Q_block_pan ?_ | refine Q_scope (fun l h => by cases h) ?_
  refine C_loop (α := Nat) (fun k => [(0, pt s), (1, .int .i64 (k : Int)), (2, .func (.func g) #[] #[])]) (fun k w1 => k ≤ t.length ∧ whileB p t k = whileB p t a ∧ w1 = w) (fun k => t.length - k) a ⟨rfl, rfl, rfl, trivial⟩ ⟨ha, rfl, rfl⟩ ?_
  rintro k w1 f' ⟨hk, hw, rfl⟩
  repeat'
    first
      | refine Q_then ?_ | refine C_cond_t rfl ?_ | refine C_cond_f rfl ?_ | refine C_seq ?_ | refine C_block ?_ | refine C_skip ?_ | refine C_ret ?_ | refine C_exit ?_
      | refine Q_then_ret ?_ | refine Q_then_exit ?_ | refine Q_block ?_ | refine Q_block_ret ?_ | refine Q_block_here ?_ | refine Q_block_on rfl ?_ | refine C_scope ?_ | refine C_label ?_ | refine Q_asn ?_ | refine Q_then_pan ?_ | refine Q_block_pan ?_ | refine Q_scope (fun l h => by cases h) ?_
  by_cases hlt : k < t.length
  · have hct : t[k]? = some t[k] := List.getElem?_eq_getElem hlt
    generalize t[k] = c at hct
    (refine C_region ?_
     <;> (first | refine M_int rfl ?_ | refine W_move ?_)
     <;> (first | refine M_ptr rfl ?_ | refine W_move ?_)
     <;> refine W_nilCheck rfl ?_
     <;> refine W_fieldAddr rfl ?_
     <;> (first | refine W_load rfl (Blk.cell (by assumption) (by rfl)) ?_ | refine W_load rfl (by assumption) ?_)
     <;> refine W_slen rfl ?_
     <;> (refine W_lss rfl rfl (fun hc => ?_) (fun hc => ?_) <;> try (exfalso; omega))
     <;> (first | refine M_bool rfl ?_ | refine W_move ?_)
     <;> (first | refine W_no rfl ?_ | (refine W_yes rfl ?_; (first | refine M_func rfl ?_ | refine W_move ?_)))
     <;> (first | refine W_no rfl ?_ | (refine W_yes rfl ?_; (first | refine M_ptr rfl ?_ | refine W_move ?_)))
     <;> (first | refine W_no rfl ?_ | (refine W_yes rfl ?_; refine W_nilCheck rfl ?_))
     <;> (first | refine W_no rfl ?_ | (refine W_yes rfl ?_; refine W_fieldAddr rfl ?_))
     <;> (first | refine W_no rfl ?_ | (refine W_yes rfl ?_; (first | refine W_load rfl (Blk.cell (by assumption) (by rfl)) ?_ | refine W_load rfl (by assumption) ?_)))
     <;> (first | refine W_no rfl ?_ | (refine W_yes rfl ?_; (first | refine M_int rfl ?_ | refine W_move ?_)))
     <;> (first | refine W_no rfl ?_ | (refine W_yes rfl ?_; refine W_sidx rfl rfl (by assumption) ?_)))
    -- at operation 15: <dst=(some 22) op=(call <callee=(value (tmp 15)) args=[(tmp 21)] argTypes=[5]>) type=4 guard=(some [7, true])>
    refine W_yes rfl ?_
    refine W_callv (v1 := []) (v2 := []) (vs := [enc8 c]) rfl (hg c _) rfl ?_
    rintro v w' ⟨rfl, rfl⟩
    cases hp : p c with
    | true =>
      (((first | refine M_pick_t rfl ?_ | refine M_pick_f rfl ?_); (first | refine M_bool rfl ?_ | refine W_move ?_))
       <;> refine W_nil ?_)
      repeat'
        first
          | refine Q_then ?_ | refine C_cond_t rfl ?_ | refine C_cond_f rfl ?_ | refine C_seq ?_ | refine C_block ?_ | refine C_skip ?_ | refine C_ret ?_ | refine C_exit ?_
          | refine Q_then_ret ?_ | refine Q_then_exit ?_ | refine Q_block ?_ | refine Q_block_ret ?_ | refine Q_block_here ?_ | refine Q_block_on rfl ?_ | refine C_scope ?_ | refine C_label ?_ | refine Q_asn ?_ | refine Q_then_pan ?_ | refine Q_block_pan ?_ | refine Q_scope (fun l h => by cases h) ?_
      (refine C_region ?_
       <;> (first | refine M_int rfl ?_ | refine W_move ?_)
       <;> refine W_add rfl rfl (by first | exact inR_i64 (by omega) (by omega) | exact inR_u8 (by omega) (by omega) | exact inR_u16 (by omega) (by omega)) ?_
       <;> (refine M_assign ?_; (first | refine M_int rfl ?_ | refine W_move ?_))
       <;> refine W_nil ?_)
      repeat'
        first
          | refine Q_then ?_ | refine C_cond_t rfl ?_ | refine C_cond_f rfl ?_ | refine C_seq ?_ | refine C_block ?_ | refine C_skip ?_ | refine C_ret ?_ | refine C_exit ?_
          | refine Q_then_ret ?_ | refine Q_then_exit ?_ | refine Q_block ?_ | refine Q_block_ret ?_ | refine Q_block_here ?_ | refine Q_block_on rfl ?_ | refine C_scope ?_ | refine C_label ?_ | refine Q_asn ?_ | refine Q_then_pan ?_ | refine Q_block_pan ?_ | refine Q_scope (fun l h => by cases h) ?_
      refine ⟨k + 1, ⟨rfl, ⟨rfl, ?_, rfl, trivial⟩, ⟨by omega, (whileB_step hct hp).symm.trans hw, rfl⟩⟩, by omega⟩
      show Value.int .i64 ((k : Int) + 1) = _
      rw [Int.natCast_add]; rfl
    | false =>
      (((first | refine M_pick_t rfl ?_ | refine M_pick_f rfl ?_); (first | refine M_bool rfl ?_ | refine W_move ?_))
       <;> refine W_nil ?_)
      repeat'
        first
          | refine Q_then ?_ | refine C_cond_t rfl ?_ | refine C_cond_f rfl ?_ | refine C_seq ?_ | refine C_block ?_ | refine C_skip ?_ | refine C_ret ?_ | refine C_exit ?_
          | refine Q_then_ret ?_ | refine Q_then_exit ?_ | refine Q_block ?_ | refine Q_block_ret ?_ | refine Q_block_here ?_ | refine Q_block_on rfl ?_ | refine C_scope ?_ | refine C_label ?_ | refine Q_asn ?_ | refine Q_then_pan ?_ | refine Q_block_pan ?_ | refine Q_scope (fun l h => by cases h) ?_
      (refine C_region ?_
       <;> (first | refine M_int rfl ?_ | refine W_move ?_)
       <;> (refine M_assign ?_; (first | refine M_int rfl ?_ | refine W_move ?_))
       <;> refine W_nil ?_)
      repeat'
        first
          | refine Q_then ?_ | refine C_cond_t rfl ?_ | refine C_cond_f rfl ?_ | refine C_seq ?_ | refine C_block ?_ | refine C_skip ?_ | refine C_ret ?_ | refine C_exit ?_
          | refine Q_then_ret ?_ | refine Q_then_exit ?_ | refine Q_block ?_ | refine Q_block_ret ?_ | refine Q_block_here ?_ | refine Q_block_on rfl ?_ | refine C_scope ?_ | refine C_label ?_ | refine Q_asn ?_ | refine Q_then_pan ?_ | refine Q_block_pan ?_ | refine Q_scope (fun l h => by cases h) ?_
      exact fin_ret1 rfl ⟨by rw [← hw, whileB_stop hct hp]; rfl, rfl⟩
  · (refine C_region ?_
     <;> (first | refine M_int rfl ?_ | refine W_move ?_)
     <;> (first | refine M_ptr rfl ?_ | refine W_move ?_)
     <;> refine W_nilCheck rfl ?_
     <;> refine W_fieldAddr rfl ?_
     <;> (first | refine W_load rfl (Blk.cell (by assumption) (by rfl)) ?_ | refine W_load rfl (by assumption) ?_)
     <;> refine W_slen rfl ?_
     <;> (refine W_lss rfl rfl (fun hc => ?_) (fun hc => ?_) <;> try (exfalso; omega))
     <;> (first | refine M_bool rfl ?_ | refine W_move ?_)
     <;> (first | refine W_no rfl ?_ | (refine W_yes rfl ?_; (first | refine M_func rfl ?_ | refine W_move ?_)))
     <;> (first | refine W_no rfl ?_ | (refine W_yes rfl ?_; (first | refine M_ptr rfl ?_ | refine W_move ?_)))
     <;> (first | refine W_no rfl ?_ | (refine W_yes rfl ?_; refine W_nilCheck rfl ?_))
     <;> (first | refine W_no rfl ?_ | (refine W_yes rfl ?_; refine W_fieldAddr rfl ?_))
     <;> (first | refine W_no rfl ?_ | (refine W_yes rfl ?_; (first | refine W_load rfl (Blk.cell (by assumption) (by rfl)) ?_ | refine W_load rfl (by assumption) ?_)))
     <;> (first | refine W_no rfl ?_ | (refine W_yes rfl ?_; (first | refine M_int rfl ?_ | refine W_move ?_)))
     <;> (first | refine W_no rfl ?_ | (refine W_yes rfl ?_; refine W_sidx rfl rfl (by assumption) ?_)))
    -- at operation 15: <dst=(some 22) op=(call <callee=(value (tmp 15)) args=[(tmp 21)] argTypes=[5]>) type=4 guard=(some [7, true])>
    (refine W_no rfl ?_
     <;> ((first | refine M_pick_t rfl ?_ | refine M_pick_f rfl ?_); (first | refine M_bool rfl ?_ | refine W_move ?_))
     <;> refine W_nil ?_)
    repeat'
      first
        | refine Q_then ?_ | refine C_cond_t rfl ?_ | refine C_cond_f rfl ?_ | refine C_seq ?_ | refine C_block ?_ | refine C_skip ?_ | refine C_ret ?_ | refine C_exit ?_
        | refine Q_then_ret ?_ | refine Q_then_exit ?_ | refine Q_block ?_ | refine Q_block_ret ?_ | refine Q_block_here ?_ | refine Q_block_on rfl ?_ | refine C_scope ?_ | refine C_label ?_ | refine Q_asn ?_ | refine Q_then_pan ?_ | refine Q_block_pan ?_ | refine Q_scope (fun l h => by cases h) ?_
    (refine C_region ?_
     <;> (first | refine M_int rfl ?_ | refine W_move ?_)
     <;> (refine M_assign ?_; (first | refine M_int rfl ?_ | refine W_move ?_))
     <;> refine W_nil ?_)
    repeat'
      first
        | refine Q_then ?_ | refine C_cond_t rfl ?_ | refine C_cond_f rfl ?_ | refine C_seq ?_ | refine C_block ?_ | refine C_skip ?_ | refine C_ret ?_ | refine C_exit ?_
        | refine Q_then_ret ?_ | refine Q_then_exit ?_ | refine Q_block ?_ | refine Q_block_ret ?_ | refine Q_block_here ?_ | refine Q_block_on rfl ?_ | refine C_scope ?_ | refine C_label ?_ | refine Q_asn ?_ | refine Q_then_pan ?_ | refine Q_block_pan ?_ | refine Q_scope (fun l h => by cases h) ?_
    exact fin_ret1 rfl ⟨by rw [← hw, whileB_end (by omega)]; rfl, rfl⟩

theorem own_in {w : World} {B e size n g : Nat} {v : Value} {xs : List Value} (h : w.ownsRow B e size v n xs) (hg : v.ownBlock = some g) : B ≤ g ∧ g < w.heap.size := by
  rcases h.2 with ⟨rfl, _⟩ | ⟨b, cap, cur, rfl, h1, h2, _⟩
  · cases hg
  · cases hg; exact ⟨h1, (Array.getElem?_eq_some_iff.1 h2).1⟩
theorem made_tok : (madeCells (Value.agg #[.int .i64 0, strV [], .int .i64 0]).cells (1 * 3)).toList = [.int .i64 0, strV [], .int .i64 0] := by
  kernel_rfl
theorem add_ok (w0 w : World) (s a n : Nat) (t : List UInt8) (ts : List Tok) (k : Int) (h : St w0 w s t a ts) (h1 : a ≤ n) (h2 : n ≤ t.length) :
    FnP Tryz.prog 96 [pt s, .int .i64 k, .int .i64 (n : Int)] w (fun v w' => v = .tuple #[] ∧ ts.length < 2000 ∧ St w0 w' s t n (ts ++ [⟨k, (t.take n).drop a, a⟩])) (fun ch w' => ts.length = 2000 ∧ ch = fail 2 a ∧ Keep [s] w0 w') := by
  obtain ⟨hk, hs, hl, ha, hn, tv, hb, ho⟩ := h
  obtain ⟨tp, tc, rfl⟩ : ∃ tp tc, tv = .slice tp ts.length tc := by
    rcases ho.2 with ⟨rfl, h0⟩ | ⟨g, cap, cur, rfl, _⟩
    · exact ⟨none, 0, by rw [h0]⟩
    · exact ⟨_, _, rfl⟩
  refine fnP_of_wc Tryz.func96 rfl Tryz.ntmps96 (Nat.le_of_ble_eq_true rfl) (by kernel_rfl) ?_
  repeat'
    first
      | refine Q_then ?_ | refine C_cond_t rfl ?_ | refine C_cond_f rfl ?_ | refine C_seq ?_ | refine C_block ?_ | refine C_skip ?_ | refine C_ret ?_ | refine C_exit ?_
      | refine Q_then_ret ?_ | refine Q_then_exit ?_ | refine Q_block ?_ | refine Q_block_ret ?_ | refine Q_block_here ?_ | refine Q_block_on rfl ?_ | refine C_scope ?_ | refine C_label ?_ | refine Q_asn ?_ | refine Q_then_pan ?_ | refine Q_block_pan ?_ | refine Q_scope (fun l h => by cases h) ?_
  (refine C_region ?_
   <;> (first | refine M_ptr rfl ?_ | refine W_move ?_)
   <;> refine W_nilCheck rfl ?_
   <;> refine W_fieldAddr rfl ?_
   <;> (first | refine W_load rfl (Blk.cell (by assumption) (by rfl)) ?_ | refine W_load rfl (by assumption) ?_)
   <;> refine W_len rfl ?_
   <;> (refine W_eql rfl rfl (fun hc => ?_) (fun hc => ?_) <;> try (exfalso; omega))
   <;> refine W_nil ?_)
  · repeat'
      first
        | refine Q_then ?_ | refine C_cond_t rfl ?_ | refine C_cond_f rfl ?_ | refine C_seq ?_ | refine C_block ?_ | refine C_skip ?_ | refine C_ret ?_ | refine C_exit ?_
        | refine Q_then_ret ?_ | refine Q_then_exit ?_ | refine Q_block ?_ | refine Q_block_ret ?_ | refine Q_block_here ?_ | refine Q_block_on rfl ?_ | refine C_scope ?_ | refine C_label ?_ | refine Q_asn ?_ | refine Q_then_pan ?_ | refine Q_block_pan ?_ | refine Q_scope (fun l h => by cases h) ?_
    (refine C_region ?_
     <;> (first | refine M_ptr rfl ?_ | refine W_move ?_)
     <;> refine W_nilCheck rfl ?_
     <;> refine W_fieldAddr rfl ?_
     <;> (first | refine W_load rfl (Blk.cell (by assumption) (by rfl)) ?_ | refine W_load rfl (by assumption) ?_)
     <;> refine W_build (by rfl) (by rfl) ?_
     <;> refine W_iface ?_
     <;> refine W_panic rfl ?_)
    repeat'
      first
        | refine Q_then ?_ | refine C_cond_t rfl ?_ | refine C_cond_f rfl ?_ | refine C_seq ?_ | refine C_block ?_ | refine C_skip ?_ | refine C_ret ?_ | refine C_exit ?_
        | refine Q_then_ret ?_ | refine Q_then_exit ?_ | refine Q_block ?_ | refine Q_block_ret ?_ | refine Q_block_here ?_ | refine Q_block_on rfl ?_ | refine C_scope ?_ | refine C_label ?_ | refine Q_asn ?_ | refine Q_then_pan ?_ | refine Q_block_pan ?_ | refine Q_scope (fun l h => by cases h) ?_
    exact fin_pan ⟨by omega, rfl, hk⟩
  · repeat'
      first
        | refine Q_then ?_ | refine C_cond_t rfl ?_ | refine C_cond_f rfl ?_ | refine C_seq ?_ | refine C_block ?_ | refine C_skip ?_ | refine C_ret ?_ | refine C_exit ?_
        | refine Q_then_ret ?_ | refine Q_then_exit ?_ | refine Q_block ?_ | refine Q_block_ret ?_ | refine Q_block_here ?_ | refine Q_block_on rfl ?_ | refine C_scope ?_ | refine C_label ?_ | refine Q_asn ?_ | refine Q_then_pan ?_ | refine Q_block_pan ?_ | refine Q_scope (fun l h => by cases h) ?_
    refine C_drawN (.read 0 (.read 1 (.read 2 (.read 3 (.read 5 (.read 6 (.read 7 (.read 8 (.read 9 (.read 10 (.read 11 (.read 12 (.read 13 (.read 14 (.read 15 (.read 16 (.read 17 (.read 18 (.read 19 (.read 20 (.alt 4 (.alt 21 (.alt 22 (.read 23 (.read 24 (.alt 25 .done .stop))) .stop) .stop) (.alt 21 (.alt 4 (.alt 22 (.read 23 (.read 24 (.alt 25 .done .stop))) .stop) .stop) .stop)))))))))))))))))))))) mixed (by kernel_rfl) (fun wd kd ed => ⟨fun W => W.cell? ⟨s, 0, none⟩ = some (strV t) ∧ W.cell? ⟨s, 1, none⟩ = some (.int .i64 (a : Int)), ?_, ?_⟩)
    · exact ⟨(hb.keep kd (by simp)).cell rfl, (hb.keep kd (by simp)).cell rfl⟩
    have hbd := hb.keep kd (by simp)
    have hod := ownsRow_ext ho kd
    have fc0 : ∀ W : World, (W.cell? ⟨s, 0, none⟩ = some (strV t) ∧ W.cell? ⟨s, 1, none⟩ = some (.int .i64 (a : Int))) → W.cell? ⟨s, 0, none⟩ = some (strV t) := fun W h => h.1
    have fc1 : ∀ W : World, (W.cell? ⟨s, 0, none⟩ = some (strV t) ∧ W.cell? ⟨s, 1, none⟩ = some (.int .i64 (a : Int))) → W.cell? ⟨s, 1, none⟩ = some (.int .i64 (a : Int)) := fun W h => h.2
    ((apply D_R rfl rfl; (intro W hW; (first | refine M_ptr rfl ?_ | refine W_move ?_); exact W_nil ⟨rfl, rfl, rfl⟩))
     <;> (apply D_R rfl rfl; (intro W hW; (first | refine M_ptr rfl ?_ | refine W_move ?_); exact W_nil ⟨rfl, rfl, rfl⟩))
     <;> (apply D_R rfl rfl; (intro W hW; refine W_nilCheck rfl ?_; exact W_nil ⟨rfl, rfl, rfl⟩))
     <;> (apply D_R rfl rfl; (intro W hW; refine W_fieldAddr rfl ?_; exact W_nil ⟨rfl, rfl, rfl⟩))
     <;> (apply D_R rfl rfl; (intro W hW; (first | refine M_int rfl ?_ | refine W_move ?_); exact W_nil ⟨rfl, rfl, rfl⟩))
     <;> (apply D_R rfl rfl; (intro W hW; (first | refine M_ptr rfl ?_ | refine W_move ?_); exact W_nil ⟨rfl, rfl, rfl⟩))
     <;> (apply D_R rfl rfl; (intro W hW; refine W_nilCheck rfl ?_; exact W_nil ⟨rfl, rfl, rfl⟩))
     <;> (apply D_R rfl rfl; (intro W hW; refine W_fieldAddr rfl ?_; exact W_nil ⟨rfl, rfl, rfl⟩))
     <;> (apply D_R rfl rfl; (intro W hW; (first | refine W_load rfl (fc0 W hW) ?_ | refine W_load rfl (fc1 W hW) ?_ | refine W_load_agg rfl (by rfl) (fc0 W hW) ?_ | refine W_load_agg rfl (by rfl) (fc1 W hW) ?_); exact W_nil ⟨rfl, rfl, rfl⟩))
     <;> (apply D_R rfl rfl; (intro W hW; (first | refine M_ptr rfl ?_ | refine W_move ?_); exact W_nil ⟨rfl, rfl, rfl⟩))
     <;> (apply D_R rfl rfl; (intro W hW; refine W_nilCheck rfl ?_; exact W_nil ⟨rfl, rfl, rfl⟩))
     <;> (apply D_R rfl rfl; (intro W hW; refine W_fieldAddr rfl ?_; exact W_nil ⟨rfl, rfl, rfl⟩))
     <;> (apply D_R rfl rfl; (intro W hW; (first | refine W_load rfl (fc0 W hW) ?_ | refine W_load rfl (fc1 W hW) ?_ | refine W_load_agg rfl (by rfl) (fc0 W hW) ?_ | refine W_load_agg rfl (by rfl) (fc1 W hW) ?_); exact W_nil ⟨rfl, rfl, rfl⟩))
     <;> (apply D_R rfl rfl; (intro W hW; (first | refine M_int rfl ?_ | refine W_move ?_); exact W_nil ⟨rfl, rfl, rfl⟩))
     <;> (apply D_R rfl rfl; (intro W hW; refine W_sslice_lh rfl rfl rfl (by omega) (by omega) ?_; exact W_nil ⟨rfl, rfl, rfl⟩))
     <;> (apply D_R rfl rfl; (intro W hW; (first | refine M_ptr rfl ?_ | refine W_move ?_); exact W_nil ⟨rfl, rfl, rfl⟩))
     <;> (apply D_R rfl rfl; (intro W hW; refine W_nilCheck rfl ?_; exact W_nil ⟨rfl, rfl, rfl⟩))
     <;> (apply D_R rfl rfl; (intro W hW; refine W_fieldAddr rfl ?_; exact W_nil ⟨rfl, rfl, rfl⟩))
     <;> (apply D_R rfl rfl; (intro W hW; (first | refine W_load rfl (fc0 W hW) ?_ | refine W_load rfl (fc1 W hW) ?_ | refine W_load_agg rfl (by rfl) (fc0 W hW) ?_ | refine W_load_agg rfl (by rfl) (fc1 W hW) ?_); exact W_nil ⟨rfl, rfl, rfl⟩))
     <;> (apply D_R rfl rfl; (intro W hW; refine W_build (by rfl) (by rfl) ?_; exact W_nil ⟨rfl, rfl, rfl⟩)))
    -- at place 20, operation 4 of [4, 21]: <dst=(some 22) op=(load 24 (tmp 21)) type=24 guard=none>
    have hcs : tokC ⟨k, (t.take n).drop a, a⟩ = [.int .i64 k, strV ((t.take n).drop a), .int .i64 (a : Int)] := rfl
    refine D_A rfl ?_ (D_E rfl ?_)
    · refine W_load rfl (hbd.cell rfl) ?_
      refine W_nil ⟨_, fun _ h => h, ⟨hbd.cell rfl, hbd.cell rfl⟩, ?_⟩
      refine D_E rfl ?_
      refine W_buildSlice (out := tokC ⟨k, (t.take n).drop a, a⟩) rfl (by omega) (by rw [made_tok]; rfl) (fun w2 n2 => ?_)
      have o2 := n2.own (n := 1) (size := 3) rfl (by unfold maxLen; omega) (Nat.le_refl _)
      have s2 := n2.size
      have hbd2 := hbd.keep n2.keep (by simp)
      refine W_nil ⟨_, fun _ h => h, ⟨hbd2.cell rfl, hbd2.cell rfl⟩, ?_⟩
      refine D_E rfl ?_
      refine W_append (ok := anyB) rfl rfl (ownsRow_ext hod n2.keep) (Sl_of_own o2 fun _ _ => trivial) (by omega) rfl rfl (by intro y hy; simp [tokC] at hy; rcases hy with rfl | rfl | rfl <;> rfl) (by omega) (by omega) (by have := hk.size; have := kd.size; omega) (fun v3 w3 a3 => ?_)
      have hown : ∀ x ∈ (Value.slice tp ts.length tc).ownBlock.toList, w0.heap.size ≤ x := fun x hx => (own_in ho (by simpa using hx)).1
      have hns : s ∉ (Value.slice tp ts.length tc).ownBlock.toList := fun hx => by have := hown s hx; omega
      have hb3 := (hbd.keep n2.keep (by simp)).keep a3.keep hns
      have k3 : Keep [s] w0 w3 := ((hk.ext kd).ext n2.keep).trans a3.keep fun x hx hlt => absurd (hown x hx) (by omega)
      refine W_nil ⟨_, fun _ h => h, ⟨hb3.cell rfl, hb3.cell rfl⟩, ?_⟩
      ((apply D_R rfl rfl; (intro W hW; refine W_nilCheck rfl ?_; exact W_nil ⟨rfl, rfl, rfl⟩))
       <;> (apply D_R rfl rfl; (intro W hW; refine W_fieldAddr rfl ?_; exact W_nil ⟨rfl, rfl, rfl⟩)))
      -- at place 25:4, operation 25: <dst=none op=(store 24 (tmp 42) (tmp 40)) type=0 guard=none>
      refine D_E rfl ?_
      have o3 := a3.own
      obtain ⟨vp, vc, rfl⟩ : ∃ vp vc, v3 = .slice vp (ts.length + 1) vc := by
        rcases o3.2 with ⟨rfl, h0⟩ | ⟨g, cap, cur, rfl, _⟩
        · exact absurd h0 (by omega)
        · exact ⟨_, _, rfl⟩
      refine W_store rfl rfl rfl hb3 (by simp) (fun w4 p4 => ?_)
      have hb4 := p4.blk
      have hns3 : ∀ g, (Value.slice vp (ts.length + 1) vc).ownBlock = some g → g ∉ [s] := fun g hg => by have := (own_in o3 hg).1; simp; omega
      have o4 := ownsRow_keep o3 p4.keep hns3
      have k4 : Keep [s] w0 w4 := k3.trans p4.keep fun x hx _ => hx
      refine W_nil ⟨_, fun _ h => h, ⟨hb4.cell rfl, hb4.cell rfl⟩, ?_⟩
      refine D_nil ?_
      repeat'
        first
          | refine Q_then ?_ | refine C_cond_t rfl ?_ | refine C_cond_f rfl ?_ | refine C_seq ?_ | refine C_block ?_ | refine C_skip ?_ | refine C_ret ?_ | refine C_exit ?_
          | refine Q_then_ret ?_ | refine Q_then_exit ?_ | refine Q_block ?_ | refine Q_block_ret ?_ | refine Q_block_here ?_ | refine Q_block_on rfl ?_ | refine C_scope ?_ | refine C_label ?_ | refine Q_asn ?_ | refine Q_then_pan ?_ | refine Q_block_pan ?_ | refine Q_scope (fun l h => by cases h) ?_
      (refine C_region ?_
       <;> (first | refine M_ptr rfl ?_ | refine W_move ?_)
       <;> (first | refine M_int rfl ?_ | refine W_move ?_)
       <;> refine W_nilCheck rfl ?_
       <;> refine W_fieldAddr rfl ?_)
      -- at operation 4: <dst=none op=(store 3 (tmp 46) (tmp 44)) type=0 guard=none>
      refine W_store rfl rfl rfl hb4 (by simp) (fun w5 p5 => ?_)
      have hb5 := p5.blk
      have o5 := ownsRow_keep o4 p5.keep hns3
      have k5 : Keep [s] w0 w5 := k4.trans p5.keep fun x hx _ => hx
      refine W_nil ?_
      repeat'
        first
          | refine Q_then ?_ | refine C_cond_t rfl ?_ | refine C_cond_f rfl ?_ | refine C_seq ?_ | refine C_block ?_ | refine C_skip ?_ | refine C_ret ?_ | refine C_exit ?_
          | refine Q_then_ret ?_ | refine Q_then_exit ?_ | refine Q_block ?_ | refine Q_block_ret ?_ | refine Q_block_here ?_ | refine Q_block_on rfl ?_ | refine C_scope ?_ | refine C_label ?_ | refine Q_asn ?_ | refine Q_then_pan ?_ | refine Q_block_pan ?_ | refine Q_scope (fun l h => by cases h) ?_
      have o6 : w5.ownsRow w0.heap.size 32 3 (.slice vp (ts.length + 1) vc) (ts ++ [Tok.mk k ((t.take n).drop a) a]).length (toksC (ts ++ [Tok.mk k ((t.take n).drop a) a])) := by
        have e : toksC (ts ++ [Tok.mk k ((t.take n).drop a) a]) = toksC ts ++ tokC (Tok.mk k ((t.take n).drop a) a) := by simp [toksC]
        rw [e]; simpa using o5
      exact fin_end0 rfl ⟨rfl, by omega, ⟨k5, hs, hl, h2, by simp; omega, _, hb5, o6⟩⟩
    · refine W_buildSlice (out := tokC ⟨k, (t.take n).drop a, a⟩) rfl (by omega) (by rw [made_tok]; rfl) (fun w2 n2 => ?_)
      have o2 := n2.own (n := 1) (size := 3) rfl (by unfold maxLen; omega) (Nat.le_refl _)
      have s2 := n2.size
      have hbd2 := hbd.keep n2.keep (by simp)
      refine W_nil ⟨_, fun _ h => h, ⟨hbd2.cell rfl, hbd2.cell rfl⟩, ?_⟩
      refine D_E rfl ?_
      refine W_load rfl (hbd2.cell rfl) ?_
      refine W_nil ⟨_, fun _ h => h, ⟨hbd2.cell rfl, hbd2.cell rfl⟩, ?_⟩
      refine D_E rfl ?_
      refine W_append (ok := anyB) rfl rfl (ownsRow_ext hod n2.keep) (Sl_of_own o2 fun _ _ => trivial) (by omega) rfl rfl (by intro y hy; simp [tokC] at hy; rcases hy with rfl | rfl | rfl <;> rfl) (by omega) (by omega) (by have := hk.size; have := kd.size; omega) (fun v3 w3 a3 => ?_)
      have hown : ∀ x ∈ (Value.slice tp ts.length tc).ownBlock.toList, w0.heap.size ≤ x := fun x hx => (own_in ho (by simpa using hx)).1
      have hns : s ∉ (Value.slice tp ts.length tc).ownBlock.toList := fun hx => by have := hown s hx; omega
      have hb3 := (hbd.keep n2.keep (by simp)).keep a3.keep hns
      have k3 : Keep [s] w0 w3 := ((hk.ext kd).ext n2.keep).trans a3.keep fun x hx hlt => absurd (hown x hx) (by omega)
      refine W_nil ⟨_, fun _ h => h, ⟨hb3.cell rfl, hb3.cell rfl⟩, ?_⟩
      ((apply D_R rfl rfl; (intro W hW; refine W_nilCheck rfl ?_; exact W_nil ⟨rfl, rfl, rfl⟩))
       <;> (apply D_R rfl rfl; (intro W hW; refine W_fieldAddr rfl ?_; exact W_nil ⟨rfl, rfl, rfl⟩)))
      -- at place 25:21, operation 25: <dst=none op=(store 24 (tmp 42) (tmp 40)) type=0 guard=none>
      refine D_E rfl ?_
      have o3 := a3.own
      obtain ⟨vp, vc, rfl⟩ : ∃ vp vc, v3 = .slice vp (ts.length + 1) vc := by
        rcases o3.2 with ⟨rfl, h0⟩ | ⟨g, cap, cur, rfl, _⟩
        · exact absurd h0 (by omega)
        · exact ⟨_, _, rfl⟩
      refine W_store rfl rfl rfl hb3 (by simp) (fun w4 p4 => ?_)
      have hb4 := p4.blk
      have hns3 : ∀ g, (Value.slice vp (ts.length + 1) vc).ownBlock = some g → g ∉ [s] := fun g hg => by have := (own_in o3 hg).1; simp; omega
      have o4 := ownsRow_keep o3 p4.keep hns3
      have k4 : Keep [s] w0 w4 := k3.trans p4.keep fun x hx _ => hx
      refine W_nil ⟨_, fun _ h => h, ⟨hb4.cell rfl, hb4.cell rfl⟩, ?_⟩
      refine D_nil ?_
      repeat'
        first
          | refine Q_then ?_ | refine C_cond_t rfl ?_ | refine C_cond_f rfl ?_ | refine C_seq ?_ | refine C_block ?_ | refine C_skip ?_ | refine C_ret ?_ | refine C_exit ?_
          | refine Q_then_ret ?_ | refine Q_then_exit ?_ | refine Q_block ?_ | refine Q_block_ret ?_ | refine Q_block_here ?_ | refine Q_block_on rfl ?_ | refine C_scope ?_ | refine C_label ?_ | refine Q_asn ?_ | refine Q_then_pan ?_ | refine Q_block_pan ?_ | refine Q_scope (fun l h => by cases h) ?_
      (refine C_region ?_
       <;> (first | refine M_ptr rfl ?_ | refine W_move ?_)
       <;> (first | refine M_int rfl ?_ | refine W_move ?_)
       <;> refine W_nilCheck rfl ?_
       <;> refine W_fieldAddr rfl ?_)
      -- at operation 4: <dst=none op=(store 3 (tmp 46) (tmp 44)) type=0 guard=none>
      refine W_store rfl rfl rfl hb4 (by simp) (fun w5 p5 => ?_)
      have hb5 := p5.blk
      have o5 := ownsRow_keep o4 p5.keep hns3
      have k5 : Keep [s] w0 w5 := k4.trans p5.keep fun x hx _ => hx
      refine W_nil ?_
      repeat'
        first
          | refine Q_then ?_ | refine C_cond_t rfl ?_ | refine C_cond_f rfl ?_ | refine C_seq ?_ | refine C_block ?_ | refine C_skip ?_ | refine C_ret ?_ | refine C_exit ?_
          | refine Q_then_ret ?_ | refine Q_then_exit ?_ | refine Q_block ?_ | refine Q_block_ret ?_ | refine Q_block_here ?_ | refine Q_block_on rfl ?_ | refine C_scope ?_ | refine C_label ?_ | refine Q_asn ?_ | refine Q_then_pan ?_ | refine Q_block_pan ?_ | refine Q_scope (fun l h => by cases h) ?_
      have o6 : w5.ownsRow w0.heap.size 32 3 (.slice vp (ts.length + 1) vc) (ts ++ [Tok.mk k ((t.take n).drop a) a]).length (toksC (ts ++ [Tok.mk k ((t.take n).drop a) a])) := by
        have e : toksC (ts ++ [Tok.mk k ((t.take n).drop a) a]) = toksC ts ++ tokC (Tok.mk k ((t.take n).drop a) a) := by simp [toksC]
        rw [e]; simpa using o5
      exact fin_end0 rfl ⟨rfl, by omega, ⟨k5, hs, hl, h2, by simp; omega, _, hb5, o6⟩⟩
end Go.Proofs.YtmnhnbpnjepkbaaGreatDoor
