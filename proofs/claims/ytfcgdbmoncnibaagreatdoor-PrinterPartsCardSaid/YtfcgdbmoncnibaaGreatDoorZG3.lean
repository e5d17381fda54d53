/- The facts on this seat's types and functions, by program (ty.py). Rules: deferred calls that recover, what an interface holds, results that lie in cells. The lexer: kinds of bytes, prefixes. The lexer: the state of a scanner, bytes in a row, a token added. The lexer: blanks, comments, names, numbers, symbols. The lexer: numbers. The lexer: symbols, and the table of kinds. Conditions: none. -/
import Derived.Test.YtfcgdbmoncnibaaGreatDoorZG2
import Derived.Test.YtfcgdbmoncnibaaGreatDoorRows
import Derived.RecoverIn

namespace Go.Proofs.YtfcgdbmoncnibaaGreatDoor
instance : BoolT Tryz.prog 4 := ⟨Tryz.underlying4⟩
instance : ConcT Tryz.prog 107 := ⟨_, Tryz.underlying107, rfl⟩
instance : ConcT Tryz.prog 145 := ⟨_, Tryz.underlying145, rfl⟩
instance : ConcT Tryz.prog 186 := ⟨_, Tryz.underlying186, rfl⟩
instance : A2 Tryz.prog 107 0 0 44 := Ai (s := 0) Tryz.underlying107 rfl rfl rfl (by kernel_rfl)
instance : A2 Tryz.prog 107 1 1 3 := Ai (s := 0) Tryz.underlying107 rfl rfl rfl (by kernel_rfl)
instance : A2 Tryz.prog 111 0 0 9 := Ai (s := 0) Tryz.underlying111 rfl rfl rfl (by kernel_rfl)
instance : A2 Tryz.prog 111 1 1 3 := Ai (s := 0) Tryz.underlying111 rfl rfl rfl (by kernel_rfl)
instance : A2 Tryz.prog 111 2 2 65 := Ai (s := 0) Tryz.underlying111 rfl rfl rfl (by kernel_rfl)
instance : A2 Tryz.prog 118 0 0 115 := Ai (s := 0) Tryz.underlying118 rfl rfl rfl (by kernel_rfl)
instance : A2 Tryz.prog 118 1 1 116 := Ai (s := 0) Tryz.underlying118 rfl rfl rfl (by kernel_rfl)
instance : A2 Tryz.prog 120 0 0 118 := Ai (s := 1) Tryz.underlying120 rfl rfl rfl (by kernel_rfl)
instance : A2 Tryz.prog 125 0 0 9 := Ai (s := 0) Tryz.underlying125 rfl rfl rfl (by kernel_rfl)
instance : A2 Tryz.prog 125 1 1 76 := Ai (s := 0) Tryz.underlying125 rfl rfl rfl (by kernel_rfl)
instance : A2 Tryz.prog 125 2 2 3 := Ai (s := 0) Tryz.underlying125 rfl rfl rfl (by kernel_rfl)
instance : A2 Tryz.prog 129 0 0 9 := Ai (s := 0) Tryz.underlying129 rfl rfl rfl (by kernel_rfl)
instance : A2 Tryz.prog 129 1 1 3 := Ai (s := 0) Tryz.underlying129 rfl rfl rfl (by kernel_rfl)
instance : A2 Tryz.prog 129 2 2 3 := Ai (s := 0) Tryz.underlying129 rfl rfl rfl (by kernel_rfl)
instance : A2 Tryz.prog 129 3 3 3 := Ai (s := 0) Tryz.underlying129 rfl rfl rfl (by kernel_rfl)
instance : A2 Tryz.prog 129 4 4 3 := Ai (s := 0) Tryz.underlying129 rfl rfl rfl (by kernel_rfl)
instance : A2 Tryz.prog 129 5 5 3 := Ai (s := 0) Tryz.underlying129 rfl rfl rfl (by kernel_rfl)
instance : A2 Tryz.prog 129 6 6 3 := Ai (s := 0) Tryz.underlying129 rfl rfl rfl (by kernel_rfl)
instance : A2 Tryz.prog 129 7 7 3 := Ai (s := 0) Tryz.underlying129 rfl rfl rfl (by kernel_rfl)
instance : A2 Tryz.prog 129 8 8 3 := Ai (s := 0) Tryz.underlying129 rfl rfl rfl (by kernel_rfl)
instance : A2 Tryz.prog 145 0 0 44 := Ai (s := 0) Tryz.underlying145 rfl rfl rfl (by kernel_rfl)
instance : A2 Tryz.prog 145 1 1 3 := Ai (s := 0) Tryz.underlying145 rfl rfl rfl (by kernel_rfl)
instance : A2 Tryz.prog 150 0 0 65 := Ai (s := 0) Tryz.underlying150 rfl rfl rfl (by kernel_rfl)
instance : A2 Tryz.prog 150 1 1 3 := Ai (s := 0) Tryz.underlying150 rfl rfl rfl (by kernel_rfl)
instance : A2 Tryz.prog 150 2 2 147 := Ai (s := 0) Tryz.underlying150 rfl rfl rfl (by kernel_rfl)
instance : A2 Tryz.prog 150 3 3 147 := Ai (s := 0) Tryz.underlying150 rfl rfl rfl (by kernel_rfl)
instance : A2 Tryz.prog 158 0 0 3 := Ai (s := 0) Tryz.underlying158 rfl rfl rfl (by kernel_rfl)
instance : A2 Tryz.prog 158 1 1 9 := Ai (s := 0) Tryz.underlying158 rfl rfl rfl (by kernel_rfl)
instance : A2 Tryz.prog 158 2 2 3 := Ai (s := 0) Tryz.underlying158 rfl rfl rfl (by kernel_rfl)
instance : A2 Tryz.prog 167 0 0 5 := Ai (s := 0) Tryz.underlying167 rfl rfl rfl (by kernel_rfl)
instance : A2 Tryz.prog 167 1 1 5 := Ai (s := 0) Tryz.underlying167 rfl rfl rfl (by kernel_rfl)
instance : A2 Tryz.prog 167 2 2 3 := Ai (s := 0) Tryz.underlying167 rfl rfl rfl (by kernel_rfl)
instance : A2 Tryz.prog 171 0 0 76 := Ai (s := 0) Tryz.underlying171 rfl rfl rfl (by kernel_rfl)
instance : A2 Tryz.prog 171 1 1 4 := Ai (s := 0) Tryz.underlying171 rfl rfl rfl (by kernel_rfl)
instance : A2 Tryz.prog 175 5 5 4 := Ai (s := 0) Tryz.underlying175 rfl rfl rfl (by kernel_rfl)
instance : A2 Tryz.prog 191 0 0 3 := Ai (s := 0) Tryz.underlying191 rfl rfl rfl (by kernel_rfl)
instance : A2 Tryz.prog 191 1 1 3 := Ai (s := 0) Tryz.underlying191 rfl rfl rfl (by kernel_rfl)
instance : A2 Tryz.prog 191 2 2 3 := Ai (s := 0) Tryz.underlying191 rfl rfl rfl (by kernel_rfl)
instance : A2 Tryz.prog 24 0 0 3 := Ai (s := 0) Tryz.underlying24 rfl rfl rfl (by kernel_rfl)
instance : A2 Tryz.prog 24 1 1 9 := Ai (s := 0) Tryz.underlying24 rfl rfl rfl (by kernel_rfl)
instance : A2 Tryz.prog 24 2 2 3 := Ai (s := 0) Tryz.underlying24 rfl rfl rfl (by kernel_rfl)
instance : A2 Tryz.prog 24 3 3 3 := Ai (s := 0) Tryz.underlying24 rfl rfl rfl (by kernel_rfl)
instance : A2 Tryz.prog 24 4 4 22 := Ai (s := 0) Tryz.underlying24 rfl rfl rfl (by kernel_rfl)
instance : A2 Tryz.prog 28 0 0 25 := Ai (s := 0) Tryz.underlying28 rfl rfl rfl (by kernel_rfl)
instance : A2 Tryz.prog 28 1 1 26 := Ai (s := 0) Tryz.underlying28 rfl rfl rfl (by kernel_rfl)
instance : A2 Tryz.prog 30 0 0 9 := Ai (s := 0) Tryz.underlying30 rfl rfl rfl (by kernel_rfl)
instance : A2 Tryz.prog 30 1 1 9 := Ai (s := 0) Tryz.underlying30 rfl rfl rfl (by kernel_rfl)
instance : A2 Tryz.prog 30 2 2 3 := Ai (s := 0) Tryz.underlying30 rfl rfl rfl (by kernel_rfl)
instance : A2 Tryz.prog 30 3 3 24 := Ai (s := 4) Tryz.underlying30 rfl rfl rfl (by kernel_rfl)
instance : A2 Tryz.prog 32 0 0 3 := Ai (s := 0) Tryz.underlying32 rfl rfl rfl (by kernel_rfl)
instance : A2 Tryz.prog 32 1 1 30 := Ai (s := 7) Tryz.underlying32 rfl rfl rfl (by kernel_rfl)
instance : A2 Tryz.prog 72 0 0 9 := Ai (s := 0) Tryz.underlying72 rfl rfl rfl (by kernel_rfl)
instance : A2 Tryz.prog 72 1 1 4 := Ai (s := 0) Tryz.underlying72 rfl rfl rfl (by kernel_rfl)
instance : A2 Tryz.prog 72 2 2 3 := Ai (s := 0) Tryz.underlying72 rfl rfl rfl (by kernel_rfl)
instance : FlT Tryz.prog 72 [(0, 9), (1, 4), (2, 3)] := ⟨by kernel_rfl, by kernel_rfl, by kernel_rfl, by kernel_rfl, by kernel_rfl⟩
instance : SlT Tryz.prog 116 5 1 1 (.int .u8 0) := slT_of Tryz.underlying116 (by kernel_rfl)
instance : IntT Tryz.prog 3 .i64 := ⟨Tryz.underlying3⟩
instance : IntT Tryz.prog 5 .u8 := ⟨Tryz.underlying5⟩
instance : StrT Tryz.prog 9 := ⟨Tryz.underlying9⟩
instance : OneT Tryz.prog 1 := ⟨_, Tryz.underlying1, rfl⟩
instance : OneT Tryz.prog 115 := ⟨_, Tryz.underlying115, rfl⟩
instance : OneT Tryz.prog 116 := ⟨_, Tryz.underlying116, rfl⟩
instance : AggT Tryz.prog 125 3 := Cy Tryz.underlying125 rfl (by kernel_rfl)
instance : AggT Tryz.prog 129 9 := Cy Tryz.underlying129 rfl (by kernel_rfl)
instance : OneT Tryz.prog 147 := ⟨_, Tryz.underlying147, rfl⟩
instance : AggT Tryz.prog 158 3 := Cy Tryz.underlying158 rfl (by kernel_rfl)
instance : AggT Tryz.prog 167 3 := Cy Tryz.underlying167 rfl (by kernel_rfl)
instance : AggT Tryz.prog 168 48 := Cy Tryz.underlying168 rfl (by kernel_rfl)
instance : OneT Tryz.prog 169 := ⟨_, Tryz.underlying169, rfl⟩
instance : AggT Tryz.prog 171 2 := Cy Tryz.underlying171 rfl (by kernel_rfl)
instance : OneT Tryz.prog 172 := ⟨_, Tryz.underlying172, rfl⟩
instance : OneT Tryz.prog 173 := ⟨_, Tryz.underlying173, rfl⟩
instance : AggT Tryz.prog 175 8 := Cy Tryz.underlying175 rfl (by kernel_rfl)
instance : AggT Tryz.prog 191 3 := Cy Tryz.underlying191 rfl (by kernel_rfl)
instance : AggT Tryz.prog 198 15 := Cy Tryz.underlying198 rfl (by kernel_rfl)
instance : AggT Tryz.prog 201 10 := Cy Tryz.underlying201 rfl (by kernel_rfl)
instance : OneT Tryz.prog 22 := ⟨_, Tryz.underlying22, rfl⟩
instance : AggT Tryz.prog 24 5 := Cy Tryz.underlying24 rfl (by kernel_rfl)
instance : OneT Tryz.prog 25 := ⟨_, Tryz.underlying25, rfl⟩
instance : OneT Tryz.prog 26 := ⟨_, Tryz.underlying26, rfl⟩
instance : AggT Tryz.prog 28 2 := Cy Tryz.underlying28 rfl (by kernel_rfl)
instance : OneT Tryz.prog 3 := ⟨_, Tryz.underlying3, rfl⟩
instance : AggT Tryz.prog 30 8 := Cy Tryz.underlying30 rfl (by kernel_rfl)
instance : OneT Tryz.prog 4 := ⟨_, Tryz.underlying4, rfl⟩
instance : OneT Tryz.prog 44 := ⟨_, Tryz.underlying44, rfl⟩
instance : OneT Tryz.prog 5 := ⟨_, Tryz.underlying5, rfl⟩
instance : OneT Tryz.prog 65 := ⟨_, Tryz.underlying65, rfl⟩
instance : AggT Tryz.prog 72 3 := Cy Tryz.underlying72 rfl (by kernel_rfl)
instance : OneT Tryz.prog 76 := ⟨_, Tryz.underlying76, rfl⟩
instance : OneT Tryz.prog 89 := ⟨_, Tryz.underlying89, rfl⟩
instance : OneT Tryz.prog 9 := ⟨_, Tryz.underlying9, rfl⟩
instance : CR Tryz.prog 107 2 := Ba (by kernel_rfl)
instance : CR Tryz.prog 115 1 := Ba (by kernel_rfl)
instance : CR Tryz.prog 116 1 := Ba (by kernel_rfl)
instance : CR Tryz.prog 125 3 := Ba (by kernel_rfl)
instance : CR Tryz.prog 129 9 := Ba (by kernel_rfl)
instance : CR Tryz.prog 145 2 := Ba (by kernel_rfl)
instance : CR Tryz.prog 158 3 := Ba (by kernel_rfl)
instance : CR Tryz.prog 165 5 := Ba (by kernel_rfl)
instance : CR Tryz.prog 167 3 := Ba (by kernel_rfl)
instance : CR Tryz.prog 171 2 := Ba (by kernel_rfl)
instance : CR Tryz.prog 172 1 := Ba (by kernel_rfl)
instance : CR Tryz.prog 173 1 := Ba (by kernel_rfl)
instance : CR Tryz.prog 175 8 := Ba (by kernel_rfl)
instance : CR Tryz.prog 191 3 := Ba (by kernel_rfl)
instance : CR Tryz.prog 22 1 := Ba (by kernel_rfl)
instance : CR Tryz.prog 24 5 := Ba (by kernel_rfl)
instance : CR Tryz.prog 26 1 := Ba (by kernel_rfl)
instance : CR Tryz.prog 28 2 := Ba (by kernel_rfl)
instance : CR Tryz.prog 3 1 := Ba (by kernel_rfl)
instance : CR Tryz.prog 30 8 := Ba (by kernel_rfl)
instance : CR Tryz.prog 44 1 := Ba (by kernel_rfl)
instance : CR Tryz.prog 65 1 := Ba (by kernel_rfl)
instance : CR Tryz.prog 72 3 := Ba (by kernel_rfl)
instance : CR Tryz.prog 9 1 := Ba (by kernel_rfl)
instance : SlT Tryz.prog 126 125 3 32 (.agg #[(AL []), (.pointer none), (.int .i64 0)]) := slT_of Tryz.underlying126 (by kernel_rfl)
instance : SlT Tryz.prog 142 9 1 16 (AL []) := slT_of Tryz.underlying142 (by kernel_rfl)
instance : SlT Tryz.prog 153 26 1 24 (.slice none 0 0) := slT_of Tryz.underlying153 (by kernel_rfl)
instance : ArrT Tryz.prog 165 5 1 1 := arrT_of Tryz.underlying165 (by kernel_rfl)
instance : ArrT Tryz.prog 168 16 167 3 := arrT_of Tryz.underlying168 (by kernel_rfl)
instance : SlT Tryz.prog 172 171 2 16 (.agg #[(.pointer none), (.bool false)]) := slT_of Tryz.underlying172 (by kernel_rfl)
instance : ArrT Tryz.prog 198 15 9 1 := arrT_of Tryz.underlying198 (by kernel_rfl)
instance : ArrT Tryz.prog 200 20 175 8 := arrT_of Tryz.underlying200 (by kernel_rfl)
instance : ArrT Tryz.prog 201 10 9 1 := arrT_of Tryz.underlying201 (by kernel_rfl)
instance : SlT Tryz.prog 22 24 5 64 (.agg #[(.int .i64 0), (AL []), (.int .i64 0), (.int .i64 0), (.slice none 0 0)]) := slT_of Tryz.underlying22 (by kernel_rfl)
instance : SlT Tryz.prog 25 72 3 32 (.agg #[(AL []), (.bool false), (.int .i64 0)]) := slT_of Tryz.underlying25 (by kernel_rfl)
instance : SlT Tryz.prog 26 30 8 104 (.agg #[(AL []), (AL []), (.int .i64 0), (.int .i64 0), (AL []), (.int .i64 0), (.int .i64 0), (.slice none 0 0)]) := slT_of Tryz.underlying26 (by kernel_rfl)
instance : SlT Tryz.prog 65 158 3 32 (.agg #[(.int .i64 0), (AL []), (.int .i64 0)]) := slT_of Tryz.underlying65 (by kernel_rfl)
instance : SMapT Tryz.prog 147 (.agg #[(.int .i64 0), (.int .i64 0), (.int .i64 0)]) := smapT_of Tryz.underlying147 Tryz.underlying9 (by kernel_rfl)
instance : StT Tryz.prog 107 [(0, 1), (1, 1)] [(.int .i64 0), (.int .i64 0)] := C5 (z := (.agg #[(.int .i64 0), (.int .i64 0)])) Tryz.underlying107 (by kernel_rfl) rfl (by kernel_rfl)
instance : StT Tryz.prog 111 [(0, 1), (1, 1), (2, 1)] [(AL []), (.int .i64 0), (.slice none 0 0)] := C5 (z := (.agg #[(AL []), (.int .i64 0), (.slice none 0 0)])) Tryz.underlying111 (by kernel_rfl) rfl (by kernel_rfl)
instance : StT Tryz.prog 120 [(0, 2)] [(.pointer none), (.slice none 0 0)] := C5 (z := (.agg #[(.pointer none), (.slice none 0 0)])) Tryz.underlying120 (by kernel_rfl) rfl (by kernel_rfl)
instance : StT Tryz.prog 125 [(0, 1), (1, 1), (2, 1)] [(AL []), (.pointer none), (.int .i64 0)] := C5 (z := (.agg #[(AL []), (.pointer none), (.int .i64 0)])) Tryz.underlying125 (by kernel_rfl) rfl (by kernel_rfl)
instance : StT Tryz.prog 129 [(0, 1), (1, 1), (2, 1), (3, 1), (4, 1), (5, 1), (6, 1), (7, 1), (8, 1)] [(AL []), (.int .i64 0), (.int .i64 0), (.int .i64 0), (.int .i64 0), (.int .i64 0), (.int .i64 0), (.int .i64 0), (.int .i64 0)] := C5 (z := (.agg #[(AL []), (.int .i64 0), (.int .i64 0), (.int .i64 0), (.int .i64 0), (.int .i64 0), (.int .i64 0), (.int .i64 0), (.int .i64 0)])) Tryz.underlying129 (by kernel_rfl) rfl (by kernel_rfl)
instance : StT Tryz.prog 145 [(0, 1), (1, 1)] [(.int .i64 0), (.int .i64 0)] := C5 (z := (.agg #[(.int .i64 0), (.int .i64 0)])) Tryz.underlying145 (by kernel_rfl) rfl (by kernel_rfl)
instance : StT Tryz.prog 150 [(0, 1), (1, 1), (2, 1), (3, 1)] [(.slice none 0 0), (.int .i64 0), (.map none), (.map none)] := C5 (z := (.agg #[(.slice none 0 0), (.int .i64 0), (.map none), (.map none)])) Tryz.underlying150 (by kernel_rfl) rfl (by kernel_rfl)
instance : StT Tryz.prog 158 [(0, 1), (1, 1), (2, 1)] [(.int .i64 0), (AL []), (.int .i64 0)] := C5 (z := (.agg #[(.int .i64 0), (AL []), (.int .i64 0)])) Tryz.underlying158 (by kernel_rfl) rfl (by kernel_rfl)
instance : Co Tryz.prog 165 [.nilFunc, .nilFunc, .nilFunc, .nilFunc, .nilFunc] := Bn (z := (.agg #[.nilFunc, .nilFunc, .nilFunc, .nilFunc, .nilFunc])) (by kernel_rfl) rfl
instance : StT Tryz.prog 171 [(0, 1), (1, 1)] [(.pointer none), (.bool false)] := C5 (z := (.agg #[(.pointer none), (.bool false)])) Tryz.underlying171 (by kernel_rfl) rfl (by kernel_rfl)
instance : StT Tryz.prog 175 [(0, 1), (1, 1), (2, 1), (3, 1), (4, 1), (5, 1), (6, 1), (7, 1)] [(.int .i64 0), (.int .i64 0), (.int .i64 0), (.int .i64 0), (.bool false), (.bool false), (.bool false), (.bool false)] := C5 (z := (.agg #[(.int .i64 0), (.int .i64 0), (.int .i64 0), (.int .i64 0), (.bool false), (.bool false), (.bool false), (.bool false)])) Tryz.underlying175 (by kernel_rfl) rfl (by kernel_rfl)
instance : StT Tryz.prog 186 [] [] := C5 (z := (.agg #[])) Tryz.underlying186 (by kernel_rfl) rfl (by kernel_rfl)
instance : StT Tryz.prog 191 [(0, 1), (1, 1), (2, 1)] [(.int .i64 0), (.int .i64 0), (.int .i64 0)] := C5 (z := (.agg #[(.int .i64 0), (.int .i64 0), (.int .i64 0)])) Tryz.underlying191 (by kernel_rfl) rfl (by kernel_rfl)
instance : StT Tryz.prog 24 [(0, 1), (1, 1), (2, 1), (3, 1), (4, 1)] [(.int .i64 0), (AL []), (.int .i64 0), (.int .i64 0), (.slice none 0 0)] := C5 (z := (.agg #[(.int .i64 0), (AL []), (.int .i64 0), (.int .i64 0), (.slice none 0 0)])) Tryz.underlying24 (by kernel_rfl) rfl (by kernel_rfl)
instance : StT Tryz.prog 28 [(0, 1), (1, 1)] [(.slice none 0 0), (.slice none 0 0)] := C5 (z := (.agg #[(.slice none 0 0), (.slice none 0 0)])) Tryz.underlying28 (by kernel_rfl) rfl (by kernel_rfl)
instance : StT Tryz.prog 30 [(0, 1), (1, 1), (2, 1), (3, 5)] [(AL []), (AL []), (.int .i64 0), (.int .i64 0), (AL []), (.int .i64 0), (.int .i64 0), (.slice none 0 0)] := C5 (z := (.agg #[(AL []), (AL []), (.int .i64 0), (.int .i64 0), (AL []), (.int .i64 0), (.int .i64 0), (.slice none 0 0)])) Tryz.underlying30 (by kernel_rfl) rfl (by kernel_rfl)
instance : StT Tryz.prog 32 [(0, 1), (1, 8)] [(.int .i64 0), (AL []), (AL []), (.int .i64 0), (.int .i64 0), (AL []), (.int .i64 0), (.int .i64 0), (.slice none 0 0)] := C5 (z := (.agg #[(.int .i64 0), (AL []), (AL []), (.int .i64 0), (.int .i64 0), (AL []), (.int .i64 0), (.int .i64 0), (.slice none 0 0)])) Tryz.underlying32 (by kernel_rfl) rfl (by kernel_rfl)
instance : StT Tryz.prog 72 [(0, 1), (1, 1), (2, 1)] [(AL []), (.bool false), (.int .i64 0)] := C5 (z := (.agg #[(AL []), (.bool false), (.int .i64 0)])) Tryz.underlying72 (by kernel_rfl) rfl (by kernel_rfl)
instance : Co Tryz.prog 107 [(.int .i64 0), (.int .i64 0)] := Bn (z := (.agg #[(.int .i64 0), (.int .i64 0)])) (by kernel_rfl) rfl
instance : Co Tryz.prog 125 [(AL []), (.pointer none), (.int .i64 0)] := Bn (z := (.agg #[(AL []), (.pointer none), (.int .i64 0)])) (by kernel_rfl) rfl
instance : Co Tryz.prog 129 [(AL []), (.int .i64 0), (.int .i64 0), (.int .i64 0), (.int .i64 0), (.int .i64 0), (.int .i64 0), (.int .i64 0), (.int .i64 0)] := Bn (z := (.agg #[(AL []), (.int .i64 0), (.int .i64 0), (.int .i64 0), (.int .i64 0), (.int .i64 0), (.int .i64 0), (.int .i64 0), (.int .i64 0)])) (by kernel_rfl) rfl
instance : Co Tryz.prog 145 [(.int .i64 0), (.int .i64 0)] := Bn (z := (.agg #[(.int .i64 0), (.int .i64 0)])) (by kernel_rfl) rfl
instance : Co Tryz.prog 158 [(.int .i64 0), (AL []), (.int .i64 0)] := Bn (z := (.agg #[(.int .i64 0), (AL []), (.int .i64 0)])) (by kernel_rfl) rfl
instance : Co Tryz.prog 167 [(.int .u8 0), (.int .u8 0), (.int .i64 0)] := Bn (z := (.agg #[(.int .u8 0), (.int .u8 0), (.int .i64 0)])) (by kernel_rfl) rfl
instance : Co Tryz.prog 171 [(.pointer none), (.bool false)] := Bn (z := (.agg #[(.pointer none), (.bool false)])) (by kernel_rfl) rfl
instance : Co Tryz.prog 172 [(.slice none 0 0)] := Bn (z := (.slice none 0 0)) (by kernel_rfl) rfl
instance : Co Tryz.prog 173 [.nilFunc] := Bn (z := .nilFunc) (by kernel_rfl) rfl
instance : Co Tryz.prog 175 [(.int .i64 0), (.int .i64 0), (.int .i64 0), (.int .i64 0), (.bool false), (.bool false), (.bool false), (.bool false)] := Bn (z := (.agg #[(.int .i64 0), (.int .i64 0), (.int .i64 0), (.int .i64 0), (.bool false), (.bool false), (.bool false), (.bool false)])) (by kernel_rfl) rfl
instance : Co Tryz.prog 191 [(.int .i64 0), (.int .i64 0), (.int .i64 0)] := Bn (z := (.agg #[(.int .i64 0), (.int .i64 0), (.int .i64 0)])) (by kernel_rfl) rfl
instance : Co Tryz.prog 24 [(.int .i64 0), (AL []), (.int .i64 0), (.int .i64 0), (.slice none 0 0)] := Bn (z := (.agg #[(.int .i64 0), (AL []), (.int .i64 0), (.int .i64 0), (.slice none 0 0)])) (by kernel_rfl) rfl
instance : Co Tryz.prog 28 [(.slice none 0 0), (.slice none 0 0)] := Bn (z := (.agg #[(.slice none 0 0), (.slice none 0 0)])) (by kernel_rfl) rfl
instance : Co Tryz.prog 3 [(.int .i64 0)] := Bn (z := (.int .i64 0)) (by kernel_rfl) rfl
instance : Co Tryz.prog 30 [(AL []), (AL []), (.int .i64 0), (.int .i64 0), (AL []), (.int .i64 0), (.int .i64 0), (.slice none 0 0)] := Bn (z := (.agg #[(AL []), (AL []), (.int .i64 0), (.int .i64 0), (AL []), (.int .i64 0), (.int .i64 0), (.slice none 0 0)])) (by kernel_rfl) rfl
instance : Co Tryz.prog 44 [(.int .i64 0)] := Bn (z := (.int .i64 0)) (by kernel_rfl) rfl
instance : Co Tryz.prog 65 [(.slice none 0 0)] := Bn (z := (.slice none 0 0)) (by kernel_rfl) rfl
instance : Co Tryz.prog 72 [(AL []), (.bool false), (.int .i64 0)] := Bn (z := (.agg #[(AL []), (.bool false), (.int .i64 0)])) (by kernel_rfl) rfl
instance : Co Tryz.prog 9 [(AL [])] := Bn (z := (AL [])) (by kernel_rfl) rfl
instance : AT Tryz.prog 10 := AM Tryz.func10 (by kernel_rfl) (by kernel_rfl)
instance : AT Tryz.prog 11 := AM Tryz.func11 (by kernel_rfl) (by kernel_rfl)
instance : AT Tryz.prog 12 := AM Tryz.func12 (by kernel_rfl) (by kernel_rfl)
instance : AT Tryz.prog 13 := AM Tryz.func13 (by kernel_rfl) (by kernel_rfl)
instance : AT Tryz.prog 14 := AM Tryz.func14 (by kernel_rfl) (by kernel_rfl)
instance : AT Tryz.prog 16 := AM Tryz.func16 (by kernel_rfl) (by kernel_rfl)
instance : AT Tryz.prog 18 := AM Tryz.func18 (by kernel_rfl) (by kernel_rfl)
instance : AT Tryz.prog 20 := AM Tryz.func20 (by kernel_rfl) (by kernel_rfl)
instance : AT Tryz.prog 21 := AM Tryz.func21 (by kernel_rfl) (by kernel_rfl)
instance : AT Tryz.prog 22 := AM Tryz.func22 (by kernel_rfl) (by kernel_rfl)
instance : AT Tryz.prog 23 := AM Tryz.func23 (by kernel_rfl) (by kernel_rfl)
instance : AT Tryz.prog 24 := AM Tryz.func24 (by kernel_rfl) (by kernel_rfl)
instance : AT Tryz.prog 25 := AM Tryz.func25 (by kernel_rfl) (by kernel_rfl)
instance : AT Tryz.prog 32 := AM Tryz.func32 (by kernel_rfl) (by kernel_rfl)
instance : AT Tryz.prog 33 := AM Tryz.func33 (by kernel_rfl) (by kernel_rfl)
instance : AT Tryz.prog 34 := AM Tryz.func34 (by kernel_rfl) (by kernel_rfl)
instance : AT Tryz.prog 35 := AM Tryz.func35 (by kernel_rfl) (by kernel_rfl)
instance : AT Tryz.prog 36 := AM Tryz.func36 (by kernel_rfl) (by kernel_rfl)
instance : AT Tryz.prog 37 := AM Tryz.func37 (by kernel_rfl) (by kernel_rfl)
instance : AT Tryz.prog 38 := AM Tryz.func38 (by kernel_rfl) (by kernel_rfl)
instance : AT Tryz.prog 39 := AM Tryz.func39 (by kernel_rfl) (by kernel_rfl)
instance : AT Tryz.prog 40 := AM Tryz.func40 (by kernel_rfl) (by kernel_rfl)
instance : AT Tryz.prog 41 := AM Tryz.func41 (by kernel_rfl) (by kernel_rfl)
instance : AT Tryz.prog 42 := AM Tryz.func42 (by kernel_rfl) (by kernel_rfl)
instance : AT Tryz.prog 43 := AM Tryz.func43 (by kernel_rfl) (by kernel_rfl)
instance : AT Tryz.prog 44 := AM Tryz.func44 (by kernel_rfl) (by kernel_rfl)
instance : AT Tryz.prog 46 := AM Tryz.func46 (by kernel_rfl) (by kernel_rfl)
instance : AT Tryz.prog 47 := AM Tryz.func47 (by kernel_rfl) (by kernel_rfl)
instance : AT Tryz.prog 50 := AM Tryz.func50 (by kernel_rfl) (by kernel_rfl)
instance : AT Tryz.prog 51 := AM Tryz.func51 (by kernel_rfl) (by kernel_rfl)
instance : AT Tryz.prog 52 := AM Tryz.func52 (by kernel_rfl) (by kernel_rfl)
instance : AT Tryz.prog 53 := AM Tryz.func53 (by kernel_rfl) (by kernel_rfl)
instance : AT Tryz.prog 54 := AM Tryz.func54 (by kernel_rfl) (by kernel_rfl)
instance : AT Tryz.prog 55 := AM Tryz.func55 (by kernel_rfl) (by kernel_rfl)
instance : AT Tryz.prog 56 := AM Tryz.func56 (by kernel_rfl) (by kernel_rfl)
instance : AT Tryz.prog 57 := AM Tryz.func57 (by kernel_rfl) (by kernel_rfl)
instance : AT Tryz.prog 58 := AM Tryz.func58 (by kernel_rfl) (by kernel_rfl)
instance : AT Tryz.prog 59 := AM Tryz.func59 (by kernel_rfl) (by kernel_rfl)
instance : AT Tryz.prog 60 := AM Tryz.func60 (by kernel_rfl) (by kernel_rfl)
instance : AT Tryz.prog 62 := AM Tryz.func62 (by kernel_rfl) (by kernel_rfl)
instance : AT Tryz.prog 63 := AM Tryz.func63 (by kernel_rfl) (by kernel_rfl)
instance : AT Tryz.prog 64 := AM Tryz.func64 (by kernel_rfl) (by kernel_rfl)
instance : AT Tryz.prog 65 := AM Tryz.func65 (by kernel_rfl) (by kernel_rfl)
instance : AT Tryz.prog 68 := AM Tryz.func68 (by kernel_rfl) (by kernel_rfl)
instance : AT Tryz.prog 69 := AM Tryz.func69 (by kernel_rfl) (by kernel_rfl)
instance : AT Tryz.prog 70 := AM Tryz.func70 (by kernel_rfl) (by kernel_rfl)
instance : AT Tryz.prog 71 := AM Tryz.func71 (by kernel_rfl) (by kernel_rfl)
instance : AT Tryz.prog 72 := AM Tryz.func72 (by kernel_rfl) (by kernel_rfl)
instance : AT Tryz.prog 73 := AM Tryz.func73 (by kernel_rfl) (by kernel_rfl)
instance : AT Tryz.prog 74 := AM Tryz.func74 (by kernel_rfl) (by kernel_rfl)
instance : AT Tryz.prog 75 := AM Tryz.func75 (by kernel_rfl) (by kernel_rfl)
instance : AT Tryz.prog 76 := AM Tryz.func76 (by kernel_rfl) (by kernel_rfl)
instance : AT Tryz.prog 77 := AM Tryz.func77 (by kernel_rfl) (by kernel_rfl)
instance : AT Tryz.prog 78 := AM Tryz.func78 (by kernel_rfl) (by kernel_rfl)
instance : AT Tryz.prog 82 := AM Tryz.func82 (by kernel_rfl) (by kernel_rfl)
instance : AT Tryz.prog 83 := AM Tryz.func83 (by kernel_rfl) (by kernel_rfl)
instance : AT Tryz.prog 84 := AM Tryz.func84 (by kernel_rfl) (by kernel_rfl)
instance : AT Tryz.prog 85 := AM Tryz.func85 (by kernel_rfl) (by kernel_rfl)
instance : AT Tryz.prog 86 := AM Tryz.func86 (by kernel_rfl) (by kernel_rfl)
instance : AT Tryz.prog 87 := AM Tryz.func87 (by kernel_rfl) (by kernel_rfl)
instance : AT Tryz.prog 88 := AM Tryz.func88 (by kernel_rfl) (by kernel_rfl)
instance : AT Tryz.prog 89 := AM Tryz.func89 (by kernel_rfl) (by kernel_rfl)
instance : AT Tryz.prog 90 := AM Tryz.func90 (by kernel_rfl) (by kernel_rfl)
instance : AT Tryz.prog 91 := AM Tryz.func91 (by kernel_rfl) (by kernel_rfl)
instance : AT Tryz.prog 92 := AM Tryz.func92 (by kernel_rfl) (by kernel_rfl)
instance : AT Tryz.prog 93 := AM Tryz.func93 (by kernel_rfl) (by kernel_rfl)
instance : AT Tryz.prog 94 := AM Tryz.func94 (by kernel_rfl) (by kernel_rfl)
instance : AT Tryz.prog 95 := AM Tryz.func95 (by kernel_rfl) (by kernel_rfl)
instance : AT Tryz.prog 96 := AM Tryz.func96 (by kernel_rfl) (by kernel_rfl)
instance : AT Tryz.prog 97 := AM Tryz.func97 (by kernel_rfl) (by kernel_rfl)
instance : AT Tryz.prog 98 := AM Tryz.func98 (by kernel_rfl) (by kernel_rfl)
instance : AT Tryz.prog 99 := AM Tryz.func99 (by kernel_rfl) (by kernel_rfl)
instance : AT Tryz.prog 100 := AM Tryz.func100 (by kernel_rfl) (by kernel_rfl)
instance : AT Tryz.prog 103 := AM Tryz.func103 (by kernel_rfl) (by kernel_rfl)
instance : AT Tryz.prog 104 := AM Tryz.func104 (by kernel_rfl) (by kernel_rfl)
instance : AT Tryz.prog 105 := AM Tryz.func105 (by kernel_rfl) (by kernel_rfl)
instance : AT Tryz.prog 106 := AM Tryz.func106 (by kernel_rfl) (by kernel_rfl)
instance : AT Tryz.prog 108 := AM Tryz.func108 (by kernel_rfl) (by kernel_rfl)
instance : AT Tryz.prog 109 := AM Tryz.func109 (by kernel_rfl) (by kernel_rfl)
instance : AT Tryz.prog 110 := AM Tryz.func110 (by kernel_rfl) (by kernel_rfl)
instance : AT Tryz.prog 111 := AM Tryz.func111 (by kernel_rfl) (by kernel_rfl)
instance : AT Tryz.prog 112 := AM Tryz.func112 (by kernel_rfl) (by kernel_rfl)
instance : AT Tryz.prog 113 := AM Tryz.func113 (by kernel_rfl) (by kernel_rfl)
instance : AT Tryz.prog 114 := AM Tryz.func114 (by kernel_rfl) (by kernel_rfl)
instance : AT Tryz.prog 115 := AM Tryz.func115 (by kernel_rfl) (by kernel_rfl)
instance : AT Tryz.prog 116 := AM Tryz.func116 (by kernel_rfl) (by kernel_rfl)
instance : AT Tryz.prog 117 := AM Tryz.func117 (by kernel_rfl) (by kernel_rfl)
instance : AT Tryz.prog 118 := AM Tryz.func118 (by kernel_rfl) (by kernel_rfl)
instance : AT Tryz.prog 119 := AM Tryz.func119 (by kernel_rfl) (by kernel_rfl)
instance : AT Tryz.prog 120 := AM Tryz.func120 (by kernel_rfl) (by kernel_rfl)
instance : AT Tryz.prog 121 := AM Tryz.func121 (by kernel_rfl) (by kernel_rfl)
instance : AT Tryz.prog 122 := AM Tryz.func122 (by kernel_rfl) (by kernel_rfl)
instance : AT Tryz.prog 123 := AM Tryz.func123 (by kernel_rfl) (by kernel_rfl)
instance : AT Tryz.prog 124 := AM Tryz.func124 (by kernel_rfl) (by kernel_rfl)
instance : AT Tryz.prog 127 := AM Tryz.func127 (by kernel_rfl) (by kernel_rfl)
instance : AT Tryz.prog 128 := AM Tryz.func128 (by kernel_rfl) (by kernel_rfl)
instance : AT Tryz.prog 129 := AM Tryz.func129 (by kernel_rfl) (by kernel_rfl)
instance : AT Tryz.prog 130 := AM Tryz.func130 (by kernel_rfl) (by kernel_rfl)
instance : AT Tryz.prog 131 := AM Tryz.func131 (by kernel_rfl) (by kernel_rfl)
instance : AT Tryz.prog 132 := AM Tryz.func132 (by kernel_rfl) (by kernel_rfl)
instance : AT Tryz.prog 133 := AM Tryz.func133 (by kernel_rfl) (by kernel_rfl)
instance : AT Tryz.prog 134 := AM Tryz.func134 (by kernel_rfl) (by kernel_rfl)
instance : AT Tryz.prog 135 := AM Tryz.func135 (by kernel_rfl) (by kernel_rfl)
instance : AT Tryz.prog 136 := AM Tryz.func136 (by kernel_rfl) (by kernel_rfl)
instance : AT Tryz.prog 137 := AM Tryz.func137 (by kernel_rfl) (by kernel_rfl)
instance : AT Tryz.prog 138 := AM Tryz.func138 (by kernel_rfl) (by kernel_rfl)
instance : AT Tryz.prog 141 := AM Tryz.func141 (by kernel_rfl) (by kernel_rfl)
instance : AT Tryz.prog 142 := AM Tryz.func142 (by kernel_rfl) (by kernel_rfl)
instance : AT Tryz.prog 143 := AM Tryz.func143 (by kernel_rfl) (by kernel_rfl)
instance : AT Tryz.prog 144 := AM Tryz.func144 (by kernel_rfl) (by kernel_rfl)
instance : AT Tryz.prog 145 := AM Tryz.func145 (by kernel_rfl) (by kernel_rfl)
instance : AT Tryz.prog 146 := AM Tryz.func146 (by kernel_rfl) (by kernel_rfl)
instance : AT Tryz.prog 147 := AM Tryz.func147 (by kernel_rfl) (by kernel_rfl)
instance : AT Tryz.prog 148 := AM Tryz.func148 (by kernel_rfl) (by kernel_rfl)
instance : AT Tryz.prog 149 := AM Tryz.func149 (by kernel_rfl) (by kernel_rfl)
instance : AT Tryz.prog 150 := AM Tryz.func150 (by kernel_rfl) (by kernel_rfl)
instance : AT Tryz.prog 151 := AM Tryz.func151 (by kernel_rfl) (by kernel_rfl)
instance : AT Tryz.prog 152 := AM Tryz.func152 (by kernel_rfl) (by kernel_rfl)
instance : AT Tryz.prog 153 := AM Tryz.func153 (by kernel_rfl) (by kernel_rfl)
instance : AT Tryz.prog 154 := AM Tryz.func154 (by kernel_rfl) (by kernel_rfl)
instance : AT Tryz.prog 155 := AM Tryz.func155 (by kernel_rfl) (by kernel_rfl)
instance : AT Tryz.prog 156 := AM Tryz.func156 (by kernel_rfl) (by kernel_rfl)
instance : AT Tryz.prog 158 := AM Tryz.func158 (by kernel_rfl) (by kernel_rfl)
instance : AT Tryz.prog 159 := AM Tryz.func159 (by kernel_rfl) (by kernel_rfl)
instance : AT Tryz.prog 162 := AM Tryz.func162 (by kernel_rfl) (by kernel_rfl)
instance : AT Tryz.prog 164 := AM Tryz.func164 (by kernel_rfl) (by kernel_rfl)
instance : AT Tryz.prog 165 := AM Tryz.func165 (by kernel_rfl) (by kernel_rfl)
instance : AT Tryz.prog 166 := AM Tryz.func166 (by kernel_rfl) (by kernel_rfl)
instance : AT Tryz.prog 173 := AM Tryz.func173 (by kernel_rfl) (by kernel_rfl)
theorem BP : Tryz.prog.follows .mixedOrders = true := by kernel_rfl
end Go.Proofs.YtfcgdbmoncnibaaGreatDoor
namespace Go.Proofs.YtfcgdbmoncnibaaGreatDoor
open Go.RowKit
variable {mk : Prop} [MK mk]
attribute [local semireducible] WC AW B6 BZ B8 Cw DY By
section
variable {P : Program} {all : Array Oper} {Z : Fr → DS → List PanicEntry → World → Prop} {K : Fr → DS → World → Prop} {rest : List Oper} {f : Fr} {ds : DS} {w : World}
 {d : Nat} {ty : TypeId} {pos : String} {af : Array Edge}
theorem W_defer {g : FuncId} {t : Nat} {xs : List Operand} {ats : Array TypeId} {vs v1 v2 : List Value} (hf : f t = .func (.func g) v1.toArray v2.toArray) (ha : evL f xs = vs)
  (h : AW P all Z K rest f ({ target := .fn (.func g) v2.toArray, args := (v1 ++ vs).toArray } :: ds) w) : AW P all Z K (⟨none, .defer ⟨.value (.tmp t), xs.toArray, ats⟩, ty, pos, af, none⟩ :: rest) f ds w := by
 have hr : (execOp (ev f) ⟨none, .defer ⟨.value (.tmp t), xs.toArray, ats⟩, ty, pos, af, none⟩).run P w = .ok (.defer { target := .fn (.func g) v2.toArray, args := (v1 ++ vs).toArray }) w := by
  rw [evL_map] at ha
  simp only [execOp, resolve, ev, hf, Deferred.ofValue, Sem.run_bind, Sem.run_pure, Result.andThen_ok]
  simp [← ha]
 unfold AW
 simp only [A7, if_true, By, hr]
 exact h
theorem W_assert_yes {x : Operand} {xt T : TypeId} {v : Value} [hT : ConcT P T] (hx : ev f x = .iface T v) (h : AW P all Z K rest (upd f d (.tuple #[v, .bool true])) ds w) :
  AW P all Z K (⟨some d, .typeAssert x xt T true, ty, pos, af, none⟩ :: rest) f ds w := by
 obtain ⟨dd, h1, h2⟩ := hT.out
 refine A5 rfl ?_ h
 simp only [execOp, hx, Instr.typeAssert, Sem.run_bind, run_underlying h1, Result.andThen_ok]
 cases dd <;> simp_all
theorem W_assert_nil {x : Operand} {xt T : TypeId} {z : Value} [hT : ConcT P T] (hx : ev f x = .nilIface) (hz : (P.info? T).map (·.zero) = some (some z)) (h : AW P all Z K rest (upd f d (.tuple #[z, .bool false])) ds w) :
  AW P all Z K (⟨some d, .typeAssert x xt T true, ty, pos, af, none⟩ :: rest) f ds w := by
 obtain ⟨dd, h1, h2⟩ := hT.out
 obtain ⟨i, hi, hs⟩ := Option.map_eq_some_iff.1 hz
 refine A5 rfl ?_ h
 simp only [execOp, hx, Instr.typeAssert, Sem.run_bind, run_underlying h1, Result.andThen_ok]
 cases dd <;> simp_all [zeroValue, typeInfo]
end
def plainOp : Op → Bool
 | .move _ | .assign _ | .alloc _ | .store _ _ _ | .load _ _ | .extract _ _ | .typeAssert _ _ _ _ | .fieldAddr _ _ _ | .binOp _ _ _ _ _ => true
 | _ => false
theorem run_v {P : Program} {w : World} (s : Sem Value) : (∃ v w', (do pure (Next.value (← s)) : Sem Next).run P w = .ok (.value v) w') ∨ ∃ x w', (do pure (Next.value (← s)) : Sem Next).run P w = .halt x w' := by
 simp only [Sem.run_bind]
 cases s.run P w with
 | ok v w' => exact .inl ⟨v, w', rfl⟩
 | halt x w' => exact .inr ⟨x, w', rfl⟩
theorem plain_cases {P : Program} {w : World} {ρ : Operand → Value} {o : Oper} (h : plainOp o.op = true) :
  (∃ v w', (execOp ρ o).run P w = .ok (.value v) w') ∨ (∃ w', (execOp ρ o).run P w = .ok .skip w') ∨ ∃ x w', (execOp ρ o).run P w = .halt x w' := by
 obtain ⟨dst, op, ty, pos, af, g⟩ := o
 cases op <;> simp only [plainOp] at h <;> try (cases h; done)
 case store t a x =>
  simp only [execOp, Sem.run_bind]
  cases (Instr.storeAt t (ρ a) (ρ x)).run P w with
  | ok v w' => exact .inr (.inl ⟨w', rfl⟩)
  | halt x w' => exact .inr (.inr ⟨x, w', rfl⟩)
 case move => exact .inl ⟨_, _, rfl⟩
 case assign => exact .inl ⟨_, _, rfl⟩
 all_goals
  simp only [execOp]
  rcases run_v (P := P) (w := w) _ with ⟨v, w', h⟩ | ⟨x, w', h⟩
  ·exact .inl ⟨v, w', h⟩
  ·exact .inr (.inr ⟨x, w', h⟩)
theorem S_of_WOps {P : Program} {ops : Array Oper} {F : Fence} {n N : Nat} {Q : Exit → Act → List Frame → World → Prop} {cs : List Frame} {K : Fr → DS → World → Prop} (hF : ∀ g, F.fn g)
  (hK : ∀ a' w', a'.tmps.size = N → K (CC a') a'.defers w' → Q .normal a' cs w') : ∀ (l : List Nat) (os : List Oper) (a : Act) (w : World), l.map (fun i => ops[i]?) = os.map some → (os.all fun o => plainOp o.op && dOk N o.dst) = true →
   a.tmps.size = N → AW P ops (fun _ _ _ _ => False) K os (CC a) a.defers w → wpOpsSIn F n P ops Q l a cs w
 | [], [], a, w, _, _, hn, h => hK a w hn h
 | [], _ :: _, _, _, h, _, _, _ => by simp at h
 | _ :: _, [], _, _, h, _, _, _ => by simp at h
 | i :: l, o :: os, a, w, hl, hp, hn, h => by
  simp only [List.map_cons, List.cons.injEq] at hl
  simp only [List.all_cons, Bool.and_eq_true] at hp
  obtain ⟨⟨hpo, hdo⟩, hp⟩ := hp
  unfold wpOpsSIn
  simp only [hl.1]
  refine ⟨fun g _ => hF g, ?_⟩
  have put : ∀ v, CC (a.put o.dst v) = putF (CC a) o.dst v := fun v => toFr_putF v (by rw [hn]; exact hdo)
  have go : ∀ v w', AW P ops (fun _ _ _ _ => False) K os (putF (CC a) o.dst v) a.defers w' → wpOpsSIn F n P ops Q l (a.put o.dst v) cs w' := fun v w' h' =>
   S_of_WOps hF hK l os (a.put o.dst v) w' hl.2 hp (by rw [size_put]; exact hn) (by rw [put, defers_put]; exact h')
  unfold AW at h
  rw [wanted_toFr]
  by_cases hw : A7 ops (CC a) o.guard = true
  ·rw [if_pos hw] at h ⊢
   unfold By at h
   rw [ev_toFr]
   rcases plain_cases (P := P) (w := w) (ρ := ev (CC a)) hpo with ⟨v, w', hr⟩ | ⟨w', hr⟩ | ⟨x, w', hr⟩
   ·rw [hr] at h ⊢; exact go _ _ h
   ·rw [hr] at h ⊢; exact go _ _ h
   ·rw [hr] at h
    cases x <;> exact h.elim
  ·rw [if_neg hw] at h ⊢
   exact go _ _ h
theorem C0 {P : Program} {g : FuncId} {fn : Func} {id d N : Nat} {ats : Array TypeId} {ty : TypeId} {pos : String} {af : Array Edge} {os : List Oper} {y : Code} {args : List Value} {w : World} {u u1 : FrameMode} {v0 : Value} {G : Value → World → Prop}
  (hf : P.funcs[g]? = some fn) (hb : fn.body = some (.seq (.region id (⟨some d, .call ⟨.builtin .recover, #[], ats⟩, ty, pos, af, none⟩ :: os).toArray false) y)) (hn : fn.ntmps = N) (hl : args.length ≤ N) (hd : d < N)
  (hos : (os.all fun o => plainOp o.op && dOk N o.dst) = true) (hy : CT N false y = true)
  (hu : (u = .returning ∧ u1 = .returning ∧ v0 = .nilIface) ∨ ∃ p, u = .panicking [{ v := p, recovered := false }] ∧ u1 = .panicking [{ v := p, recovered := true }] ∧ v0 = p)
  (h : AW P (⟨some d, .call ⟨.builtin .recover, #[], ats⟩, ty, pos, af, none⟩ :: os).toArray (fun _ _ _ _ => False) (WC P ⟨N, none⟩ y (Cw P fn G fun _ _ => False)) os (upd (argF args) d v0) [] w) :
  CallsDIn Fence.wide 0 P g args.toArray u w (fun e u' w' => match e with | .returned v => u' = u1 ∧ G v w' | _ => False) := by
 have hs : (args.toArray ++ Array.replicate (fn.ntmps - args.toArray.size) undef).size = N := by simp [hn]; omega
 refine callsDIn_of_wpSIn hf hb trivial fun c₀ cs hc => ?_
 refine wpSIn_seq (wpSIn_region ?_)
 have hrange : List.range (⟨some d, .call ⟨.builtin .recover, #[], ats⟩, ty, pos, af, none⟩ :: os : List Oper).toArray.size = 0 :: (List.range os.length).map (· + 1) := by
  rw [List.size_toArray, List.length_cons, List.range_succ_eq_map]
 rw [hrange]
 unfold wpOpsSIn
 simp only [List.getElem?_toArray, List.getElem?_cons_zero]
 refine ⟨fun _ _ => trivial, ?_⟩
 simp only [Region.wanted, if_true]
 have hr : ∀ ρ : Operand → Value, (execOp ρ ⟨some d, .call ⟨.builtin .recover, #[], ats⟩, ty, pos, af, none⟩).run P w = .ok .recover w := fun ρ => by
  simp [execOp, resolve, invoke, builtin]
 rw [hr]
 have key : ∀ c₁ : Frame, c₁ = { c₀ with mode := u1 } → wpOpsSIn Fence.wide 0 P (⟨some d, .call ⟨.builtin .recover, #[], ats⟩, ty, pos, af, none⟩ :: os : List Oper).toArray
   (Exit.thenS (y.wpSIn Fence.wide 0 P (bodyPostS P fn c₀ cs fun e u' w' => match e with | .returned v => u' = u1 ∧ G v w' | _ => False)) (bodyPostS P fn c₀ cs fun e u' w' => match e with | .returned v => u' = u1 ∧ G v w' | _ => False))
   ((List.range os.length).map (· + 1)) (({ tmps := args.toArray ++ Array.replicate (fn.ntmps - args.toArray.size) undef, defers := [] } : Act).put (some d) v0) (c₁ :: cs) w := by
  rintro c₁ rfl
  refine S_of_WOps (N := N) (K := WC P ⟨N, none⟩ y (Cw P fn G fun _ _ => False)) (fun _ => trivial) ?_ _ os _ w ?_ hos (by rw [size_put]; exact hs) ?_
  ·intro a' w' ha hwc
   have hp := CA (P := P) (n := ⟨N, none⟩) y (Cw P fn G fun _ _ => False) a' w' ha hy hwc
   refine wpSIn_of_wpIn rfl (wpIn_mono hp ?_)
   rintro e a2 w2 ⟨_, hq⟩
   cases e with
   | normal => obtain ⟨h1, h2⟩ := hq; obtain ⟨l, h3, h4⟩ := run_results h2; exact ⟨h1, _, rfl, _, h4, rfl, h3⟩
   | ret => obtain ⟨h1, h2⟩ := hq; obtain ⟨l, h3, h4⟩ := run_results h2; exact ⟨h1, _, rfl, _, h4, rfl, h3⟩
   | panic ch => exact hq.2.elim
   | exit _ => exact hq.elim
   | goto _ => exact hq.elim
   | outgrown => exact hq.elim
  ·refine List.ext_getElem? fun i => ?_
   rw [List.map_map, List.getElem?_map, List.getElem?_map]
   by_cases hi : i < os.length
   ·rw [List.getElem?_range hi]; simp [hi]
   ·rw [List.getElem?_eq_none (by simpa using hi), List.getElem?_eq_none (by simpa using hi)]; rfl
  ·rw [defers_put, toFr_put v0 (by rw [hs]; exact hd), toFr_args]
   exact h
 rcases hu with ⟨rfl, rfl, rfl⟩ | ⟨p, rfl, rfl, rfl⟩
 ·have hrd : recoverD (c₀ :: cs) = none := by simp [recoverD, hc]
  rw [hrd]
  exact key c₀ (by cases c₀; simp_all)
 ·have hrd : recoverD (c₀ :: cs) = some (v0, { c₀ with mode := .panicking [{ v := v0, recovered := true }] } :: cs) := by simp [recoverD, hc]
  rw [hrd]
  exact key _ rfl
section
variable {P : Program} {fn : Func} {R : Value → World → Prop} {Y : List PanicEntry → World → Prop} {f : Fr} {w : World} {ds : DS}
theorem run_loadVar_one {T b o : Nat} {v : Value} (hT : OneT P T) (hc : w.cell? ⟨b, o, none⟩ = some v) : (loadVar T ⟨b, o, none⟩).run P w = .ok v w := by
 obtain ⟨dd, h1, h2⟩ := hT.out
 have e : (isAgg T).run P w = .ok false w := by
  simp only [isAgg, Sem.run_bind, run_underlying h1, Result.andThen_ok]
  cases dd <;> simp_all [aggD]
 simp only [loadVar, Sem.run_bind, e, Result.andThen_ok]
 simp [hc]
theorem Be {T b o t : Nat} {v : Value} {l : List ResultVar} {k : List Value → Prop} [hT : OneT P T] (ha : f t = .pointer (some ⟨b, o, none⟩)) (hc : w.cell? ⟨b, o, none⟩ = some v) (h : Cz P l f w fun r => k (v :: r)) : Cz P (.cell t T :: l) f w k :=
 ⟨_, v, ha, run_loadVar_one hT hc, h⟩
theorem finD_ret_nil (h : Cz P fn.results.toList f w fun l => R (tupleOf l) w) : DY P fn R Y .ret f [] w := h
theorem finD_ret_def {g : FuncId} {a c : List Value} [hg : AT P g] {G : World → Prop} (hc : CallsDIn Fence.wide 0 P g (a ++ c).toArray .returning w (fun e u' w' => match e with | .returned _ => u' = .returning ∧ G w' | _ => False))
  (h : ∀ w', G w' → Cz P fn.results.toList f w' fun l => R (tupleOf l) w') : DY P fn R Y .ret f [{ target := .fn (.func g) c.toArray, args := a.toArray }] w := by
 obtain ⟨fn', h1, h2, h3⟩ := hg.out
 refine ⟨by simp, .inr ⟨_, _, g, (a ++ c).toArray, rfl, ?_, hc.mono ?_⟩⟩
 ·simp only [invoke, callFunc, program]
  simp [Sem.run, h1, h2, h3]
 ·intro e u' w' he
  cases e with
  | returned v => obtain ⟨rfl, hG⟩ := he; exact h w' hG
  | panicked _ => exact he.elim
  | outgrown => exact he.elim
theorem finD_pan_def {g : FuncId} {a c : List Value} {p : Value} [hg : AT P g] {G : World → Prop} (hc : CallsDIn Fence.wide 0 P g (a ++ c).toArray (.panicking [{ v := p, recovered := false }]) w (fun e u' w' => match e with | .returned _ => u' = .panicking [{ v := p, recovered := true }] ∧ G w' | _ => False))
  (h : ∀ w', G w' → Cz P fn.results.toList f w' fun l => R (tupleOf l) w') : DY P fn R Y (.panic [{ v := p, recovered := false }]) f [{ target := .fn (.func g) c.toArray, args := a.toArray }] w := by
 obtain ⟨fn', h1, h2, h3⟩ := hg.out
 refine ⟨by simp, .inr ⟨_, _, g, (a ++ c).toArray, rfl, ?_, hc.mono ?_⟩⟩
 ·simp only [invoke, callFunc, program]
  simp [Sem.run, h1, h2, h3]
 ·intro e u' w' he
  cases e with
  | returned v => obtain ⟨rfl, hG⟩ := he; exact h w' hG
  | panicked _ => exact he.elim
  | outgrown => exact he.elim
end
class Nx (g : Prop) (c s : outParam Prop) : Prop where
 imp : c → s → g
theorem nx {g c s : Prop} [h : Nx g c s] (y : c) (x : s) : g := h.imp y x
section
variable {P : Program} {n : Cf} {Q : Ce} {f : Fr} {ds : DS} {w : World} {a b : Code} {k : Fr → DS → World → Prop} {i j l : Nat} {o : Operand} {c : List PanicEntry} {all : Array Oper} {Z : Fr → DS → List PanicEntry → World → Prop}
instance : Nx (WC P n (.seq a b) Q f ds w) (0 = 0) (WC P n a (B6 (WC P n b Q) Q) f ds w) := ⟨fun _ => DP⟩
instance : Nx (WC P n (.block i a) Q f ds w) (0 = 0) (WC P n a (BZ i Q) f ds w) := ⟨fun _ => C_block⟩
instance : Nx (WC P n (.scope a) Q f ds w) (0 = 0) (WC P n a (B8 Q) f ds w) := ⟨fun _ => C_scope⟩
instance : Nx (WC P n .skip Q f ds w) (0 = 0) (Q .normal f ds w) := ⟨fun _ => C_skip⟩
instance : Nx (WC P n (.label l) Q f ds w) (0 = 0) (Q .normal f ds w) := ⟨fun _ => C_label⟩
instance : Nx (WC P n .ret Q f ds w) (0 = 0) (Q .ret f ds w) := ⟨fun _ => C_ret⟩
instance : Nx (WC P n (.exit i) Q f ds w) (0 = 0) (Q (.exit i) f ds w) := ⟨fun _ => C_exit⟩
instance : Nx (B6 k Q .normal f ds w) (0 = 0) (k f ds w) := ⟨fun _ => DH⟩
instance : Nx (B6 k Q .ret f ds w) (0 = 0) (Q .ret f ds w) := ⟨fun _ => Q_then_ret⟩
instance : Nx (B6 k Q (.exit i) f ds w) (0 = 0) (Q (.exit i) f ds w) := ⟨fun _ => Q_then_exit⟩
instance : Nx (B6 k Q (.panic c) f ds w) (0 = 0) (Q (.panic c) f ds w) := ⟨fun _ => Q_then_panic⟩
instance : Nx (BZ i Q .normal f ds w) (0 = 0) (Q .normal f ds w) := ⟨fun _ => Q_block⟩
instance : Nx (BZ i Q .ret f ds w) (0 = 0) (Q .ret f ds w) := ⟨fun _ => Q_block_ret⟩
instance : Nx (BZ i Q (.panic c) f ds w) (0 = 0) (Q (.panic c) f ds w) := ⟨fun _ => Q_block_panic⟩
instance : Nx (BZ i Q (.exit i) f ds w) (0 = 0) (Q .normal f ds w) := ⟨fun _ => Q_block_here⟩
instance : Nx (asnQ k .normal f ds w) (0 = 0) (k f ds w) := ⟨fun _ => Q_asn⟩
instance : Nx (B8 Q .normal f ds w) (0 = 0) (Q .normal f ds w) := ⟨fun _ => fun h => h⟩
instance : Nx (B8 Q .ret f ds w) (0 = 0) (Q .ret f ds w) := ⟨fun _ => fun h => h⟩
instance : Nx (B8 Q (.exit i) f ds w) (0 = 0) (Q (.exit i) f ds w) := ⟨fun _ => fun h => h⟩
instance : Nx (B8 Q (.panic c) f ds w) (0 = 0) (Q (.panic c) f ds w) := ⟨fun _ => fun h => h⟩
instance : Nx (AW P all Z k [] f ds w) (0 = 0) (k f ds w) := ⟨fun _ => AJ⟩
instance (priority := low) : Nx (BZ j Q (.exit i) f ds w) (Nat.beq i j = false) (Q (.exit i) f ds w) := ⟨Q_block_on⟩
instance : Nx (WC P n (.cond o a b) Q f ds w) (ev f o = .bool true) (WC P n a Q f ds w) := ⟨C_cond_t⟩
theorem nf (hc : ev f o = .bool false) (h : WC P n b Q f ds w) : WC P n (.cond o a b) Q f ds w := C_cond_f hc h
end
end Go.Proofs.YtfcgdbmoncnibaaGreatDoor
namespace Go.Proofs.YtfcgdbmoncnibaaGreatDoor
open Go.RowKit
set_option linter.unusedVariables false
variable {mk : Prop} [MK mk]
def A4 (c : UInt8) : Bool := decide (97 ≤ c.toNat) && decide (c.toNat ≤ 122)
def isUp (c : UInt8) : Bool := decide (65 ≤ c.toNat) && decide (c.toNat ≤ 90)
def Ap (c : UInt8) : Bool := decide (48 ≤ c.toNat) && decide (c.toNat ≤ 57)
def CH (c : UInt8) : Bool := A4 c || isUp c
def BD (c : UInt8) : Bool := A4 c || Ap c || decide (c.toNat = 95)
def BN (c : UInt8) : Bool := !decide (c.toNat = 10)
def Test (g : FuncId) (p : UInt8 → Bool) : Prop := ∀ (c : UInt8) (w : World), Fn Tryz.prog g [enc8 c] w fun v w' => v = .bool (p c) ∧ w' = w
theorem small_ok : Test 148 A4 := by
 intro c w
 refine Ab Tryz.func148 rfl Tryz.ntmps148 (Nat.le_of_ble_eq_true rfl) (by kernel_rfl) ?_
 repeat refine nx rfl ?_
 refine AA (AC (AB rfl ?_))
 repeat refine nx rfl ?_
 (refine AA (AF rfl ?_) <;> (refine W_leq rfl rfl (fun hc => ?_) (fun hc => ?_) <;> try omega) <;> refine AB rfl ?_ <;> (first | refine AI rfl ?_ | (refine AE rfl ?_; refine AF rfl ?_)) <;> (first | refine AI rfl ?_ | (refine AE rfl ?_; (refine W_leq rfl rfl (fun hc => ?_) (fun hc => ?_) <;> try omega))) <;> ((first | refine AK rfl ?_ | refine AP rfl ?_); refine AB rfl ?_) <;> refine AC (AB rfl (AJ ?_)))
 all_goals
  repeat refine nx rfl ?_
  exact AO rfl ⟨by simp [A4, upd, Nat.beq]; omega, rfl⟩
theorem dig_ok : Test 149 Ap := by
 intro c w
 refine Ab Tryz.func149 rfl Tryz.ntmps149 (Nat.le_of_ble_eq_true rfl) (by kernel_rfl) ?_
 repeat refine nx rfl ?_
 refine AA (AC (AB rfl ?_))
 repeat refine nx rfl ?_
 (refine AA (AF rfl ?_) <;> (refine W_leq rfl rfl (fun hc => ?_) (fun hc => ?_) <;> try omega) <;> refine AB rfl ?_ <;> (first | refine AI rfl ?_ | (refine AE rfl ?_; refine AF rfl ?_)) <;> (first | refine AI rfl ?_ | (refine AE rfl ?_; (refine W_leq rfl rfl (fun hc => ?_) (fun hc => ?_) <;> try omega))) <;> ((first | refine AK rfl ?_ | refine AP rfl ?_); refine AB rfl ?_) <;> refine AC (AB rfl (AJ ?_)))
 all_goals
  repeat refine nx rfl ?_
  exact AO rfl ⟨by simp [Ap, upd, Nat.beq]; omega, rfl⟩
theorem comm_ok : Test 146 BN := by
 intro c w
 refine Ab Tryz.func146 rfl Tryz.ntmps146 (Nat.le_of_ble_eq_true rfl) (by kernel_rfl) ?_
 repeat refine nx rfl ?_
 refine AA (AC (AB rfl ?_))
 repeat refine nx rfl ?_
 (refine AA (AF rfl ?_) <;> (refine W_neq rfl rfl (fun hc => ?_) (fun hc => ?_) <;> try omega) <;> refine AC (AB rfl (AJ ?_)))
 all_goals
  repeat refine nx rfl ?_
  exact AO rfl ⟨by simp [BN, upd, Nat.beq]; omega, rfl⟩
theorem let_ok : Test 151 CH := by
 intro c w
 refine Ab Tryz.func151 rfl Tryz.ntmps151 (Nat.le_of_ble_eq_true rfl) (by kernel_rfl) ?_
 repeat refine nx rfl ?_
 refine AA (AC (AB rfl ?_))
 repeat refine nx rfl ?_
 refine AA (AF rfl ?_)
 refine AS (small_ok c w) rfl ?_
 rintro v w' ⟨rfl, rfl⟩
 cases hs : A4 c with
 | true =>
  refine AB rfl (AI rfl (AI rfl (AI rfl (AI rfl (AI rfl (AI rfl (AK rfl (AB rfl (AC (AB rfl (AJ ?_)))))))))))
  all_goals
   repeat refine nx rfl ?_
   exact AO rfl ⟨by simp [CH, hs, upd, Nat.beq], rfl⟩
 | false =>
  (refine AB rfl (AE rfl (AF rfl ?_)) <;> (refine AE rfl ?_; (refine W_leq rfl rfl (fun hc => ?_) (fun hc => ?_) <;> try omega)) <;> refine AE rfl (AB rfl ?_) <;> (first | refine AI rfl ?_ | (refine AE rfl ?_; refine AF rfl ?_)) <;> (first | refine AI rfl ?_ | (refine AE rfl ?_; (refine W_leq rfl rfl (fun hc => ?_) (fun hc => ?_) <;> try omega))) <;> (refine AE rfl ?_; ((first | refine AK rfl ?_ | refine AP rfl ?_); refine AB rfl ?_)) <;> refine AP rfl (AB rfl (AC (AB rfl (AJ ?_)))))
  all_goals
   repeat refine nx rfl ?_
   exact AO rfl ⟨by simp [CH, hs, isUp, upd, Nat.beq]; omega, rfl⟩
theorem name_ok : Test 147 BD := by
 intro c w
 refine Ab Tryz.func147 rfl Tryz.ntmps147 (Nat.le_of_ble_eq_true rfl) (by kernel_rfl) ?_
 repeat refine nx rfl ?_
 refine AA (AC (AB rfl ?_))
 repeat refine nx rfl ?_
 refine AA (AF rfl ?_)
 refine AS (small_ok c w) rfl ?_
 rintro v w' ⟨rfl, rfl⟩
 cases hs : A4 c with
 | true =>
  refine AB rfl (AI rfl (AI rfl (AK rfl (AB rfl (AB rfl (AI rfl (AI rfl (AK rfl (AB rfl (AC (AB rfl (AJ ?_))))))))))))
  all_goals
   repeat refine nx rfl ?_
   exact AO rfl ⟨by simp [BD, hs, upd, Nat.beq], rfl⟩
 | false =>
  refine AB rfl (AE rfl (AF rfl ?_))
  refine AE rfl ?_
  refine AS (dig_ok c _) rfl ?_
  rintro v w' ⟨rfl, rfl⟩
  cases hd : Ap c with
  | true =>
   refine AP rfl (AB rfl (AB rfl (AI rfl (AI rfl (AK rfl (AB rfl (AC (AB rfl (AJ ?_)))))))))
   all_goals
    repeat refine nx rfl ?_
    exact AO rfl ⟨by simp [BD, hs, hd, upd, Nat.beq], rfl⟩
  | false =>
   (refine AP rfl (AB rfl (AB rfl (AE rfl (AF rfl ?_)))) <;> (refine AE rfl ?_; (refine B0 rfl rfl (fun hc => ?_) (fun hc => ?_) <;> try omega)) <;> refine AP rfl (AB rfl (AC (AB rfl (AJ ?_)))))
   all_goals
    repeat refine nx rfl ?_
    exact AO rfl ⟨by simp [BD, hs, hd, upd, Nat.beq]; omega, rfl⟩
def Br (t s : List UInt8) : Bool := decide (s.length ≤ t.length) && decide (t.take s.length = s)
theorem Cc (t s : List UInt8) : Br t s = true ↔ s <+: t := by
 simp only [Br, Bool.and_eq_true, decide_eq_true_eq, List.prefix_iff_eq_take]
 constructor
 ·rintro ⟨_, h⟩; exact h.symm
 ·intro h; exact ⟨by have := congrArg List.length h; simp at this; omega, h.symm⟩
theorem pre2_ok (t s : List UInt8) (w : World) : Fn Tryz.prog 159 [AL t, AL s] w fun v w' => v = .bool (Br t s) ∧ w' = w := by
 refine Ab Tryz.func159 rfl Tryz.ntmps159 (Nat.le_of_ble_eq_true rfl) (by kernel_rfl) ?_
 repeat refine nx rfl ?_
 refine AA (AC (AB rfl ?_))
 repeat refine nx rfl ?_
 (refine AA (AU rfl (Au rfl (AU rfl (Au rfl ?_)))) <;> (refine W_geq rfl rfl (fun hc => ?_) (fun hc => ?_) <;> try omega) <;> refine AB rfl ?_ <;> (first | refine AI rfl ?_ | (refine AE rfl ?_; refine AU rfl ?_)) <;> (first | refine AI rfl ?_ | (refine AE rfl ?_; refine AU rfl ?_)) <;> (first | refine AI rfl ?_ | (refine AE rfl ?_; refine Au rfl ?_)) <;> (first | refine AI rfl ?_ | (refine AE rfl ?_; refine Cg rfl rfl (by omega) ?_)) <;> (first | refine AI rfl ?_ | (refine AE rfl ?_; refine AU rfl ?_)) <;> (first | refine AI rfl ?_ | (refine AE rfl ?_; refine CM rfl rfl (fun hc => ?_) (fun hc => ?_))) <;> ((first | refine AK rfl ?_ | refine AP rfl ?_); refine AB rfl ?_) <;> refine AC (AB rfl (AJ ?_)))
 all_goals
  repeat refine nx rfl ?_
  exact AO rfl ⟨by simp [Br, upd, Nat.beq]; first | omega | (intro; omega) | (intro h; exact absurd h (by assumption)) | exact ⟨by omega, by assumption⟩ | skip, rfl⟩
theorem pre_ok (t s : List UInt8) (w : World) : Fn Tryz.prog 152 [AL t, AL s] w fun v w' => v = .bool (Br t s) ∧ w' = w := by
 refine Ab Tryz.func152 rfl Tryz.ntmps152 (Nat.le_of_ble_eq_true rfl) (by kernel_rfl) ?_
 repeat refine nx rfl ?_
 refine AA (AC (AB rfl ?_))
 repeat refine nx rfl ?_
 refine AA (AU rfl (AU rfl ?_))
 refine AS (pre2_ok t s w) rfl ?_
 rintro v w' ⟨rfl, rfl⟩
 refine AC (AB rfl ?_)
 repeat refine nx rfl ?_
 exact AO rfl ⟨rfl, rfl⟩
end Go.Proofs.YtfcgdbmoncnibaaGreatDoor
namespace Go.Proofs.YtfcgdbmoncnibaaGreatDoor
open Go.RowKit
set_option linter.unusedVariables false
variable {mk : Prop} [MK mk]
structure Tok where
 kind : Int
 text : List UInt8
 loc : Nat
deriving DecidableEq
def tokC (k : Tok) : List Value := [.int .i64 k.kind, AL k.text, .int .i64 (k.loc : Int)]
def C3 (l : List Tok) : List Value := l.flatMap tokC
abbrev pt (s : Nat) : Value := .pointer (some ⟨s, 0, none⟩)
abbrev fail (e : Int) (p : Nat) : List PanicEntry := [{ v := .iface 107 (.agg #[.int .i64 e, .int .i64 (p : Int)]), recovered := false }]
structure St (w0 w : World) (s : Nat) (t : List UInt8) (a : Nat) (ts : List Tok) : Prop where
 keep : Keep [s] w0 w
 lt : s < w0.heap.size
 len : t.length ≤ 6000
 loc : a ≤ t.length
 cnt : ts.length ≤ 2000
 blk : ∃ tv, Blk w s 111 [AL t, .int .i64 (a : Int), tv] ∧ w.ownsRow w0.heap.size 158 3 tv ts.length (C3 ts)
def Aj (p : UInt8 → Bool) (t : List UInt8) (a : Nat) : Nat := a + ((t.drop a).takeWhile p).length
theorem Bd {p : UInt8 → Bool} {t : List UInt8} {a : Nat} {c : UInt8} (h : t[a]? = some c) (hp : p c = true) : Aj p t a = Aj p t (a + 1) := by
 obtain ⟨h1, h2⟩ := List.getElem?_eq_some_iff.1 h
 unfold Aj
 rw [List.drop_eq_getElem_cons h1, h2, List.takeWhile_cons_of_pos hp]
 simp; omega
theorem whileB_stop {p : UInt8 → Bool} {t : List UInt8} {a : Nat} {c : UInt8} (h : t[a]? = some c) (hp : p c = false) : Aj p t a = a := by
 obtain ⟨h1, h2⟩ := List.getElem?_eq_some_iff.1 h
 unfold Aj
 rw [List.drop_eq_getElem_cons h1, h2, List.takeWhile_cons_of_neg (by simp [hp])]
 simp
theorem whileB_end {p : UInt8 → Bool} {t : List UInt8} {a : Nat} (h : t.length ≤ a) : Aj p t a = a := by
 unfold Aj
 rw [List.drop_eq_nil_of_le h]; simp
theorem Bk {p : UInt8 → Bool} {t : List UInt8} {a : Nat} (h : a ≤ t.length) : Aj p t a ≤ t.length := by
 have := (List.takeWhile_prefix p (l := t.drop a)).length_le
 simp at this
 unfold Aj; omega
theorem Bv (p : UInt8 → Bool) (t : List UInt8) (a : Nat) : a ≤ Aj p t a := by unfold Aj; omega
theorem while_ok {g : FuncId} {p : UInt8 → Bool} [AT Tryz.prog g] (hg : Test g p) (w : World) (s a : Nat) (t : List UInt8) (x y : Value) (hb : Blk w s 111 [AL t, x, y]) (ha : a ≤ t.length) (hl : t.length ≤ 6000) :
  Fn Tryz.prog 145 [pt s, .int .i64 (a : Int), .func (.func g) #[] #[]] w fun v w' => v = .int .i64 (Aj p t a : Int) ∧ w' = w := by
 refine Ab Tryz.func145 rfl Tryz.ntmps145 (Nat.le_of_ble_eq_true rfl) (by kernel_rfl) ?_
 repeat refine nx rfl ?_
 refine AA (AC (AF rfl ?_))
 repeat refine nx rfl ?_
 refine BJ (α := Nat) (fun k => [(0, pt s), (1, .int .i64 (k : Int)), (2, .func (.func g) #[] #[])]) (fun k w1 => k ≤ t.length ∧ Aj p t k = Aj p t a ∧ w1 = w) (fun k => t.length - k) a ⟨rfl, rfl, rfl, trivial⟩ ⟨ha, rfl, rfl⟩ ?_
 rintro k w1 f' ⟨hk, hw, rfl⟩
 repeat refine nx rfl ?_
 by_cases hlt : k < t.length
 ·have hct : t[k]? = some t[k] := List.getElem?_eq_getElem hlt
  generalize t[k] = c at hct
  (refine AA (AF rfl (AQ rfl (AH rfl (AD rfl (AG rfl (Blk.cell (by assumption) (by rfl)) ?_))))) <;> refine Au rfl (BC rfl rfl (by omega) (AB rfl (AE rfl (Ct rfl (AE rfl (AQ rfl (AE rfl (AH rfl (AE rfl (AD rfl (AE rfl (AG rfl (Blk.cell (by assumption) (by rfl)) ?_)))))))))))) <;> refine AE rfl (AF rfl (AE rfl (BB rfl rfl (by assumption) ?_))))
  refine AE rfl ?_
  refine B5 (v1 := []) (v2 := []) (vs := [enc8 c]) rfl (hg c _) rfl ?_
  rintro v w' ⟨rfl, rfl⟩
  cases hp : p c with
  | true =>
   refine AK rfl (AB rfl ?_)
   repeat refine nx rfl ?_
   (refine AA (AF rfl (BK rfl rfl (by first | exact Am (by omega) (by omega) | exact At (by omega) (by omega) | exact Al (by omega) (by omega)) ?_)) <;> refine AC (AF rfl ?_))
   repeat refine nx rfl ?_
   refine ⟨k + 1, ⟨rfl, ⟨rfl, ?_, rfl, trivial⟩, ⟨by omega, (Bd hct hp).symm.trans hw, rfl⟩⟩, by omega⟩
   show Value.int .i64 ((k : Int) + 1) = _
   rw [Int.natCast_add]; rfl
  | false =>
   refine AK rfl (AB rfl ?_)
   repeat first | refine nx rfl ?_ | refine nf rfl ?_
   refine AA (AF rfl (AC (AF rfl ?_)))
   repeat refine nx rfl ?_
   exact AO rfl ⟨by rw [← hw, whileB_stop hct hp]; rfl, rfl⟩
 ·(refine AA (AF rfl (AQ rfl (AH rfl (AD rfl (AG rfl (Blk.cell (by assumption) (by rfl)) ?_))))) <;> refine Au rfl (BA rfl rfl (by omega) (AB rfl (AI rfl (AI rfl (AI rfl (AI rfl (AI rfl (AI rfl (AI rfl ?_))))))))))
  refine AI rfl (AP rfl (AB rfl ?_))
  repeat first | refine nx rfl ?_ | refine nf rfl ?_
  refine AA (AF rfl (AC (AF rfl ?_)))
  repeat refine nx rfl ?_
  exact AO rfl ⟨by rw [← hw, whileB_end (by omega)]; rfl, rfl⟩
theorem BM {w : World} {B e size n g : Nat} {v : Value} {xs : List Value} (h : w.ownsRow B e size v n xs) (hg : v.ownBlock = some g) : B ≤ g ∧ g < w.heap.size := by
 rcases h.2 with ⟨rfl, _⟩ | ⟨b, cap, cur, rfl, h1, h2, _⟩
 ·cases hg
 ·cases hg; exact ⟨h1, (Array.getElem?_eq_some_iff.1 h2).1⟩
theorem made_tok : (madeCells (Value.agg #[.int .i64 0, AL [], .int .i64 0]).cells (1 * 3)).toList = [.int .i64 0, AL [], .int .i64 0] := by
 kernel_rfl
theorem add_ok (w0 w : World) (s a n : Nat) (t : List UInt8) (ts : List Tok) (k : Int) (h : St w0 w s t a ts) (h1 : a ≤ n) (h2 : n ≤ t.length) :
  FnP Tryz.prog 150 [pt s, .int .i64 k, .int .i64 (n : Int)] w (fun v w' => v = .tuple #[] ∧ ts.length < 2000 ∧ St w0 w' s t n (ts ++ [⟨k, (t.take n).drop a, a⟩])) (fun ch w' => ts.length = 2000 ∧ ch = fail 2 a ∧ Keep [s] w0 w') := by
 obtain ⟨hk, hs, hl, ha, hn, tv, hb, ho⟩ := h
 obtain ⟨tp, tc, rfl⟩ : ∃ tp tc, tv = .slice tp ts.length tc := by
  rcases ho.2 with ⟨rfl, h0⟩ | ⟨g, cap, cur, rfl, _⟩
  ·exact ⟨none, 0, by rw [h0]⟩
  ·exact ⟨_, _, rfl⟩
 refine Ar Tryz.func150 rfl Tryz.ntmps150 (Nat.le_of_ble_eq_true rfl) (by kernel_rfl) ?_
 repeat refine nx rfl ?_
 (refine AA (AQ rfl (AH rfl (AD rfl (AG rfl (Blk.cell (by assumption) (by rfl)) ?_)))) <;> refine As rfl ?_ <;> (refine B0 rfl rfl (fun hc => ?_) (fun hc => ?_) <;> try omega))
 ·repeat refine nx rfl ?_
  (refine AA (AQ rfl (AH rfl (AD rfl (AG rfl (Blk.cell (by assumption) (by rfl)) ?_)))) <;> refine Ad (by rfl) (by rfl) ?_ <;> refine C8 (DC rfl ?_))
  repeat refine nx rfl ?_
  exact AY ⟨by omega, rfl, hk⟩
 ·repeat first | refine nx rfl ?_ | refine nf rfl ?_
  refine Bb (.read 0 (.read 1 (.read 2 (.read 3 (.read 5 (.read 6 (.read 7 (.read 8 (.read 9 (.read 10 (.read 11 (.read 12 (.read 13 (.read 14 (.read 15 (.read 16 (.read 17 (.read 18 (.read 19 (.read 20 (.alt 4 (.alt 21 (.alt 22 (.read 23 (.read 24 (.alt 25 .done .stop))) .stop) .stop) (.alt 21 (.alt 4 (.alt 22 (.read 23 (.read 24 (.alt 25 .done .stop))) .stop) .stop) .stop)))))))))))))))))))))) BP (by kernel_rfl) (fun wd kd ed => ⟨fun W => W.cell? ⟨s, 0, none⟩ = some (AL t) ∧ W.cell? ⟨s, 1, none⟩ = some (.int .i64 (a : Int)), ?_, ?_⟩)
  ·exact ⟨(hb.keep kd (by simp)).cell rfl, (hb.keep kd (by simp)).cell rfl⟩
  have hbd := hb.keep kd (by simp)
  have hod := BX ho kd
  have fc0 : ∀ W : World, (W.cell? ⟨s, 0, none⟩ = some (AL t) ∧ W.cell? ⟨s, 1, none⟩ = some (.int .i64 (a : Int))) → W.cell? ⟨s, 0, none⟩ = some (AL t) := fun W h => h.1
  have fc1 : ∀ W : World, (W.cell? ⟨s, 0, none⟩ = some (AL t) ∧ W.cell? ⟨s, 1, none⟩ = some (.int .i64 (a : Int))) → W.cell? ⟨s, 1, none⟩ = some (.int .i64 (a : Int)) := fun W h => h.2
  (refine D_R rfl rfl (fun W hW => AQ rfl Z3) (D_R rfl rfl (fun W hW => AQ rfl Z3) (D_R rfl rfl (fun W hW => AH rfl Z3) (D_R rfl rfl (fun W hW => AD rfl Z3) (D_R rfl rfl (fun W hW => AF rfl Z3) (D_R rfl rfl (fun W hW => AQ rfl Z3) (D_R rfl rfl (fun W hW => AH rfl Z3) (D_R rfl rfl (fun W hW => AD rfl Z3) (D_R rfl rfl (fun W hW => AG rfl (fc0 W hW) Z3) (D_R rfl rfl (fun W hW => AQ rfl Z3) (D_R rfl rfl (fun W hW => AH rfl Z3) (D_R rfl rfl (fun W hW => AD rfl Z3) (D_R rfl rfl (fun W hW => AG rfl (fc1 W hW) Z3) (D_R rfl rfl (fun W hW => AF rfl Z3) (D_R rfl rfl (fun W hW => W_sslice_lh rfl rfl rfl (by omega) (by omega) Z3) (D_R rfl rfl (fun W hW => AQ rfl Z3) (D_R rfl rfl (fun W hW => AH rfl Z3) (D_R rfl rfl (fun W hW => AD rfl Z3) (D_R rfl rfl (fun W hW => AG rfl (fc1 W hW) Z3) ?_)))))))))))))))))) <;> (apply D_R rfl rfl; (intro W hW; refine Ad (by rfl) (by rfl) ?_; exact Z3)))
  have hcs : tokC ⟨k, (t.take n).drop a, a⟩ = [.int .i64 k, AL ((t.take n).drop a), .int .i64 (a : Int)] := rfl
  refine D_A rfl ?_ (D_E rfl ?_)
  ·refine AG rfl (hbd.cell rfl) ?_
   refine AJ ⟨_, fun _ h => h, ⟨hbd.cell rfl, hbd.cell rfl⟩, ?_⟩
   refine D_E rfl ?_
   refine AV (out := tokC ⟨k, (t.take n).drop a, a⟩) rfl (by omega) (by rw [made_tok]; rfl) (fun w2 n2 => ?_)
   have o2 := n2.own (n := 1) (size := 3) rfl (by unfold maxLen; omega) (Nat.le_refl _)
   have s2 := n2.size
   have hbd2 := hbd.keep n2.keep (by simp)
   refine AJ ⟨_, fun _ h => h, ⟨hbd2.cell rfl, hbd2.cell rfl⟩, ?_⟩
   refine D_E rfl ?_
   refine Bl (ok := A0) rfl rfl (BX hod n2.keep) (A3 o2 fun _ _ => trivial) (by omega) rfl rfl (by intro y hy; simp [tokC] at hy; rcases hy with rfl | rfl | rfl <;> rfl) (by omega) (by omega) (by have := hk.size; have := kd.size; omega) (fun v3 w3 a3 => ?_)
   have hown : ∀ x ∈ (Value.slice tp ts.length tc).ownBlock.toList, w0.heap.size ≤ x := fun x hx => (BM ho (by simpa using hx)).1
   have hns : s ∉ (Value.slice tp ts.length tc).ownBlock.toList := fun hx => by have := hown s hx; omega
   have hb3 := (hbd.keep n2.keep (by simp)).keep a3.keep hns
   have k3 : Keep [s] w0 w3 := ((hk.ext kd).ext n2.keep).trans a3.keep fun x hx hlt => absurd (hown x hx) (by omega)
   refine AJ ⟨_, fun _ h => h, ⟨hb3.cell rfl, hb3.cell rfl⟩, ?_⟩
   refine D_R rfl rfl (fun W hW => AH rfl Z3) (D_R rfl rfl (fun W hW => AD rfl Z3) ?_)
   refine D_E rfl ?_
   have o3 := a3.own
   obtain ⟨vp, vc, rfl⟩ : ∃ vp vc, v3 = .slice vp (ts.length + 1) vc := by
    rcases o3.2 with ⟨rfl, h0⟩ | ⟨g, cap, cur, rfl, _⟩
    ·exact absurd h0 (by omega)
    ·exact ⟨_, _, rfl⟩
   refine Ao rfl rfl rfl hb3 (by simp) (fun w4 p4 => ?_)
   have hb4 := p4.blk
   have hns3 : ∀ g, (Value.slice vp (ts.length + 1) vc).ownBlock = some g → g ∉ [s] := fun g hg => by have := (BM o3 hg).1; simp; omega
   have o4 := Ax o3 p4.keep hns3
   have k4 : Keep [s] w0 w4 := k3.trans p4.keep fun x hx _ => hx
   refine AJ ⟨_, fun _ h => h, ⟨hb4.cell rfl, hb4.cell rfl⟩, ?_⟩
   refine A8 ?_
   repeat refine nx rfl ?_
   refine AA (AQ rfl (AF rfl (AH rfl (AD rfl ?_))))
   refine Ao rfl rfl rfl hb4 (by simp) (fun w5 p5 => ?_)
   have hb5 := p5.blk
   have o5 := Ax o4 p5.keep hns3
   have k5 : Keep [s] w0 w5 := k4.trans p5.keep fun x hx _ => hx
   repeat refine nx rfl ?_
   have o6 : w5.ownsRow w0.heap.size 158 3 (.slice vp (ts.length + 1) vc) (ts ++ [Tok.mk k ((t.take n).drop a) a]).length (C3 (ts ++ [Tok.mk k ((t.take n).drop a) a])) := by
    have e : C3 (ts ++ [Tok.mk k ((t.take n).drop a) a]) = C3 ts ++ tokC (Tok.mk k ((t.take n).drop a) a) := by simp [C3]
    rw [e]; simpa using o5
   exact A1 rfl ⟨rfl, by omega, ⟨k5, hs, hl, h2, by simp; omega, _, hb5, o6⟩⟩
  ·refine AV (out := tokC ⟨k, (t.take n).drop a, a⟩) rfl (by omega) (by rw [made_tok]; rfl) (fun w2 n2 => ?_)
   have o2 := n2.own (n := 1) (size := 3) rfl (by unfold maxLen; omega) (Nat.le_refl _)
   have s2 := n2.size
   have hbd2 := hbd.keep n2.keep (by simp)
   refine AJ ⟨_, fun _ h => h, ⟨hbd2.cell rfl, hbd2.cell rfl⟩, ?_⟩
   refine D_E rfl ?_
   refine AG rfl (hbd2.cell rfl) ?_
   refine AJ ⟨_, fun _ h => h, ⟨hbd2.cell rfl, hbd2.cell rfl⟩, ?_⟩
   refine D_E rfl ?_
   refine Bl (ok := A0) rfl rfl (BX hod n2.keep) (A3 o2 fun _ _ => trivial) (by omega) rfl rfl (by intro y hy; simp [tokC] at hy; rcases hy with rfl | rfl | rfl <;> rfl) (by omega) (by omega) (by have := hk.size; have := kd.size; omega) (fun v3 w3 a3 => ?_)
   have hown : ∀ x ∈ (Value.slice tp ts.length tc).ownBlock.toList, w0.heap.size ≤ x := fun x hx => (BM ho (by simpa using hx)).1
   have hns : s ∉ (Value.slice tp ts.length tc).ownBlock.toList := fun hx => by have := hown s hx; omega
   have hb3 := (hbd.keep n2.keep (by simp)).keep a3.keep hns
   have k3 : Keep [s] w0 w3 := ((hk.ext kd).ext n2.keep).trans a3.keep fun x hx hlt => absurd (hown x hx) (by omega)
   refine AJ ⟨_, fun _ h => h, ⟨hb3.cell rfl, hb3.cell rfl⟩, ?_⟩
   refine D_R rfl rfl (fun W hW => AH rfl Z3) (D_R rfl rfl (fun W hW => AD rfl Z3) ?_)
   refine D_E rfl ?_
   have o3 := a3.own
   obtain ⟨vp, vc, rfl⟩ : ∃ vp vc, v3 = .slice vp (ts.length + 1) vc := by
    rcases o3.2 with ⟨rfl, h0⟩ | ⟨g, cap, cur, rfl, _⟩
    ·exact absurd h0 (by omega)
    ·exact ⟨_, _, rfl⟩
   refine Ao rfl rfl rfl hb3 (by simp) (fun w4 p4 => ?_)
   have hb4 := p4.blk
   have hns3 : ∀ g, (Value.slice vp (ts.length + 1) vc).ownBlock = some g → g ∉ [s] := fun g hg => by have := (BM o3 hg).1; simp; omega
   have o4 := Ax o3 p4.keep hns3
   have k4 : Keep [s] w0 w4 := k3.trans p4.keep fun x hx _ => hx
   refine AJ ⟨_, fun _ h => h, ⟨hb4.cell rfl, hb4.cell rfl⟩, ?_⟩
   refine A8 ?_
   repeat refine nx rfl ?_
   refine AA (AQ rfl (AF rfl (AH rfl (AD rfl ?_))))
   refine Ao rfl rfl rfl hb4 (by simp) (fun w5 p5 => ?_)
   have hb5 := p5.blk
   have o5 := Ax o4 p5.keep hns3
   have k5 : Keep [s] w0 w5 := k4.trans p5.keep fun x hx _ => hx
   repeat refine nx rfl ?_
   have o6 : w5.ownsRow w0.heap.size 158 3 (.slice vp (ts.length + 1) vc) (ts ++ [Tok.mk k ((t.take n).drop a) a]).length (C3 (ts ++ [Tok.mk k ((t.take n).drop a) a])) := by
    have e : C3 (ts ++ [Tok.mk k ((t.take n).drop a) a]) = C3 ts ++ tokC (Tok.mk k ((t.take n).drop a) a) := by simp [C3]
    rw [e]; simpa using o5
   exact A1 rfl ⟨rfl, by omega, ⟨k5, hs, hl, h2, by simp; omega, _, hb5, o6⟩⟩
end Go.Proofs.YtfcgdbmoncnibaaGreatDoor
namespace Go.Proofs.YtfcgdbmoncnibaaGreatDoor
open Go.RowKit
set_option linter.unusedVariables false
variable {mk : Prop} [MK mk]
abbrev Res := Except (Int × Nat) (Nat × List Tok)
def FnS (g : FuncId) (args : List Value) (w w0 : World) (s : Nat) (t : List UInt8) (r : Res) : Prop :=
 FnP Tryz.prog g args w (fun v w' => v = .tuple #[] ∧ ∃ a ts, r = .ok (a, ts) ∧ St w0 w' s t a ts) (fun ch w' => ∃ e p, r = .error (e, p) ∧ ch = fail e p ∧ Keep [s] w0 w')
def CY (t : List UInt8) (a : Nat) (ts : List Tok) (k : Int) (n : Nat) : Res := if ts.length = 2000 then .error (2, a) else .ok (n, ts ++ [⟨k, (t.take n).drop a, a⟩])
theorem addS (w0 w : World) (s a n : Nat) (t : List UInt8) (ts : List Tok) (k : Int) (h : St w0 w s t a ts) (h1 : a ≤ n) (h2 : n ≤ t.length) : FnS 150 [pt s, .int .i64 k, .int .i64 (n : Int)] w w0 s t (CY t a ts k n) := by
 refine FnP.mono (add_ok w0 w s a n t ts k h h1 h2) ?_ ?_
 ·rintro v w' ⟨rfl, hl, h'⟩
  exact ⟨rfl, _, _, by unfold CY; rw [if_neg (by omega)], h'⟩
 ·rintro ch w' ⟨hl, rfl, h'⟩
  exact ⟨_, _, by unfold CY; rw [if_pos hl], rfl, h'⟩
def blankM (a : Nat) (ts : List Tok) : Res := .ok (a + 1, ts)
theorem blank_ok (w0 w : World) (s a : Nat) (t : List UInt8) (ts : List Tok) (h : St w0 w s t a ts) (h1 : a < t.length) : FnS 111 [pt s] w w0 s t (blankM a ts) := by
 obtain ⟨hk, hs, hl, ha, hn, tv, hb, ho⟩ := h
 refine Ar Tryz.func111 rfl Tryz.ntmps111 (Nat.le_of_ble_eq_true rfl) (by kernel_rfl) ?_
 repeat refine nx rfl ?_
 (refine AA (AQ rfl (AH rfl (AD rfl (AG rfl (Blk.cell (by assumption) (by rfl)) ?_)))) <;> refine BK rfl rfl (by first | exact Am (by omega) (by omega) | exact At (by omega) (by omega) | exact Al (by omega) (by omega)) ?_ <;> refine AH rfl (AD rfl ?_))
 refine Ao rfl rfl rfl hb (by simp) (fun w5 p5 => ?_)
 have hb5 := p5.blk
 have o5 := Ax ho p5.keep fun g hg => by have := (BM ho hg).1; simp; omega
 have k5 : Keep [s] w0 w5 := hk.trans p5.keep fun x hx _ => hx
 repeat refine nx rfl ?_
 refine A1 rfl ⟨rfl, _, _, rfl, ⟨k5, hs, hl, by omega, hn, tv, ?_, o5⟩⟩
 have e : ((a : Int) + 1) = ((a + 1 : Nat) : Int) := by omega
 exact e ▸ hb5
def commM (t : List UInt8) (a : Nat) (ts : List Tok) : Res := .ok (Aj BN t a, ts)
theorem comment_ok (w0 w : World) (s a : Nat) (t : List UInt8) (ts : List Tok) (h : St w0 w s t a ts) : FnS 112 [pt s] w w0 s t (commM t a ts) := by
 obtain ⟨hk, hs, hl, ha, hn, tv, hb, ho⟩ := h
 refine Ar Tryz.func112 rfl Tryz.ntmps112 (Nat.le_of_ble_eq_true rfl) (by kernel_rfl) ?_
 repeat refine nx rfl ?_
 refine AA (AQ rfl (AQ rfl (AQ rfl (AH rfl (AD rfl (AG rfl (Blk.cell (by assumption) (by rfl)) ?_))))))
 refine AS (while_ok comm_ok w s a t _ _ hb ha hl) rfl ?_
 rintro v w' ⟨rfl, rfl⟩
 refine AH rfl (AD rfl ?_)
 refine Ao rfl rfl rfl hb (by simp) (fun w5 p5 => ?_)
 have hb5 := p5.blk
 have o5 := Ax ho p5.keep fun g hg => by have := (BM ho hg).1; simp; omega
 have k5 : Keep [s] w0 w5 := hk.trans p5.keep fun x hx _ => hx
 repeat refine nx rfl ?_
 exact A1 rfl ⟨rfl, _, _, rfl, ⟨k5, hs, hl, Bk ha, hn, tv, hb5, o5⟩⟩
def DZ (t : List UInt8) (a : Nat) (ts : List Tok) : Res := if 20 < Aj BD t (a + 1) - a then .error (40, a) else CY t a ts 1 (Aj BD t (a + 1))
theorem scanName_ok (w0 w : World) (s a : Nat) (t : List UInt8) (ts : List Tok) (h : St w0 w s t a ts) (h1 : a < t.length) : FnS 113 [pt s] w w0 s t (DZ t a ts) := by
 obtain ⟨hk, hs, hl, ha, hn, tv, hb, ho⟩ := id h
 have hge := Bv BD t (a + 1)
 have hle := Bk (p := BD) (t := t) (a := a + 1) (by omega)
 refine Ar Tryz.func113 rfl Tryz.ntmps113 (Nat.le_of_ble_eq_true rfl) (by kernel_rfl) ?_
 repeat refine nx rfl ?_
 (refine AA (AQ rfl (AQ rfl (AH rfl (AD rfl (AG rfl (Blk.cell (by assumption) (by rfl)) ?_))))) <;> refine BK rfl rfl (by first | exact Am (by omega) (by omega) | exact At (by omega) (by omega) | exact Al (by omega) (by omega)) ?_)
 refine AS (while_ok name_ok w s (a + 1) t _ _ hb (by omega) hl) (by rw [Int.natCast_add]; rfl) ?_
 rintro v w' ⟨rfl, rfl⟩
 refine AC (AF rfl ?_)
 repeat refine nx rfl ?_
 (refine AA (AF rfl (AQ rfl (AH rfl (AD rfl (AG rfl (Blk.cell (by assumption) (by rfl)) ?_))))) <;> refine W_sub rfl rfl (by first | exact Am (by omega) (by omega) | exact At (by omega) (by omega) | exact Al (by omega) (by omega)) ?_ <;> (refine W_gtr rfl rfl (fun hc => ?_) (fun hc => ?_) <;> try omega))
 ·repeat refine nx rfl ?_
  (refine AA (AQ rfl (AH rfl (AD rfl (AG rfl (Blk.cell (by assumption) (by rfl)) ?_)))) <;> refine Ad (by rfl) (by rfl) ?_ <;> refine C8 (DC rfl ?_))
  repeat refine nx rfl ?_
  exact AY ⟨_, _, by unfold DZ; rw [if_pos (by omega)], rfl, hk⟩
 ·repeat first | refine nx rfl ?_ | refine nf rfl ?_
  refine AA (AQ rfl (AF rfl ?_))
  have e : DZ t a ts = CY t a ts 1 (Aj BD t (a + 1)) := by unfold DZ; rw [if_neg (by omega)]
  rw [e]
  refine Aa (addS w0 w' s a _ t ts 1 h (by omega) hle) rfl ?_ ?_
  ·rintro v w2 ⟨rfl, hh⟩
   repeat refine nx rfl ?_
   exact A1 rfl ⟨rfl, hh⟩
  ·intro ch w2 hh
   repeat refine nx rfl ?_
   exact AY hh
end Go.Proofs.YtfcgdbmoncnibaaGreatDoor
namespace Go.Proofs.YtfcgdbmoncnibaaGreatDoor
open Go.RowKit
set_option linter.unusedVariables false
variable {mk : Prop} [MK mk]
def BL (t : List UInt8) (a : Nat) : Bool :=
 decide (4 < Aj Ap t a - a) || (decide (1 < Aj Ap t a - a) && decide ((t.getD a 0).toNat = 48)) ||
  decide (Aj Ap t a < t.length) && (CH (t.getD (Aj Ap t a) 0) || decide ((t.getD (Aj Ap t a) 0).toNat = 95))
def DX (t : List UInt8) (a : Nat) (ts : List Tok) : Res := if BL t a = true then .error (40, a) else CY t a ts 2 (Aj Ap t a)
theorem DQ {t : List UInt8} {a : Nat} {c : UInt8} (h : t[a]? = some c) : t.getD a 0 = c := by simp [List.getD_eq_getElem?_getD, h]
theorem St.ext {w0 w w' : World} {s a : Nat} {t : List UInt8} {ts : List Tok} (h : St w0 w s t a ts) (k : Ext w w') : St w0 w' s t a ts := by
 obtain ⟨hk, hs, hl, ha, hn, tv, hb, ho⟩ := h
 exact ⟨hk.ext k, hs, hl, ha, hn, tv, hb.keep k (by simp), BX ho k⟩
theorem scanNumber_ok (w0 w : World) (s a : Nat) (t : List UInt8) (ts : List Tok) (h : St w0 w s t a ts) (h1 : a < t.length) : FnS 114 [pt s] w w0 s t (DX t a ts) := by
 obtain ⟨hk, hs, hl, ha, hn, tv, hb, ho⟩ := id h
 have hge := Bv Ap t a
 have hle := Bk (p := Ap) (t := t) (a := a) (by omega)
 have hc0 : t[a]? = some t[a] := List.getElem?_eq_getElem h1
 generalize t[a] = c0 at hc0
 refine Ar Tryz.func114 rfl Tryz.ntmps114 (Nat.le_of_ble_eq_true rfl) (by kernel_rfl) ?_
 repeat refine nx rfl ?_
 refine AA (AQ rfl (AQ rfl (AH rfl (AD rfl (AG rfl (Blk.cell (by assumption) (by rfl)) ?_)))))
 refine AS (while_ok dig_ok w s a t _ _ hb (by omega) hl) rfl ?_
 rintro v w' ⟨rfl, rfl⟩
 refine AC (AF rfl ?_)
 repeat refine nx rfl ?_
 (refine AA (AF rfl (AQ rfl (AH rfl (AD rfl (AG rfl (Blk.cell (by assumption) (by rfl)) ?_))))) <;> refine W_sub rfl rfl (by first | exact Am (by omega) (by omega) | exact At (by omega) (by omega) | exact Al (by omega) (by omega)) ?_ <;> refine AC (AF rfl ?_))
 repeat refine nx rfl ?_
 refine Bb (.read 0 (.read 1 (.read 2 (.read 3 (.read 4 (.read 5 (.read 6 (.read 7 (.read 8 (.read 9 (.read 10 (.read 11 (.read 12 (.read 13 (.read 14 (.read 15 (.read 16 (.read 17 .done)))))))))))))))))) BP (by kernel_rfl) (fun wd kd ed => ⟨fun W => W = wd, ?_, ?_⟩)
 ·rfl
 have hbd := hb.keep kd (by simp)
 have hs2 := h.ext kd
 by_cases b1 : 4 < Aj Ap t a - a
 ·((apply D_R rfl rfl; (intro W hW; subst hW; refine AF rfl ?_; exact Z3)) <;> refine D_gtrT rfl rfl rfl rfl (by omega) ?_ <;> (apply D_R rfl rfl; (intro W hW; subst hW; refine AB rfl ?_; exact Z3)) <;> refine Af rfl rfl rfl rfl (Af rfl rfl rfl rfl (Af rfl rfl rfl rfl (D_R rfl rfl (fun W hW => AI rfl Z3) (D_R rfl rfl (fun W hW => AI rfl Z3) (D_R rfl rfl (fun W hW => AI rfl Z3) (D_R rfl rfl (fun W hW => AI rfl Z3) (D_R rfl rfl (fun W hW => AI rfl Z3) (D_R rfl rfl (fun W hW => AI rfl Z3) (D_R rfl rfl (fun W hW => AI rfl Z3) (D_R rfl rfl (fun W hW => AI rfl Z3) (D_R rfl rfl (fun W hW => AI rfl Z3) (D_R rfl rfl (fun W hW => AI rfl Z3) (Af rfl rfl rfl rfl ?_))))))))))))) <;> (apply D_R rfl rfl; (intro W hW; subst hW; (refine AK rfl ?_; refine AB rfl ?_); exact Z3)) <;> refine A8 ?_)
  have hbad : BL t a = true := by unfold BL; simp [b1]
  repeat refine nx rfl ?_
  (refine AA (AQ rfl (AH rfl (AD rfl (AG rfl (Blk.cell (by assumption) (by rfl)) ?_)))) <;> refine Ad (by rfl) (by rfl) ?_ <;> refine C8 (DC rfl ?_))
  repeat refine nx rfl ?_
  exact AY ⟨_, _, by unfold DX; rw [if_pos hbad], rfl, hs2.keep⟩
 ·by_cases b2 : 1 < Aj Ap t a - a
  ·by_cases b3 : c0.toNat = 48
   ·((apply D_R rfl rfl; (intro W hW; subst hW; refine AF rfl ?_; exact Z3)) <;> refine D_gtrF rfl rfl rfl rfl (by omega) ?_ <;> (apply D_R rfl rfl; (intro W hW; subst hW; refine AB rfl ?_; exact Z3)) <;> (apply D_R rfl rfl; (intro W hW; subst hW; (refine AE rfl ?_; refine AF rfl ?_); exact Z3)) <;> refine D_gtrT rfl rfl rfl rfl (by omega) ?_ <;> (apply D_R rfl rfl; (intro W hW; subst hW; (refine AE rfl ?_; refine AB rfl ?_); exact Z3)) <;> (apply D_R rfl rfl; (intro W hW; subst hW; (refine AE rfl ?_; refine AQ rfl ?_); exact Z3)) <;> (apply D_R rfl rfl; (intro W hW; subst hW; (refine AE rfl ?_; refine AH rfl ?_); exact Z3)) <;> (apply D_R rfl rfl; (intro W hW; subst hW; (refine AE rfl ?_; refine AD rfl ?_); exact Z3)) <;> (apply D_R rfl rfl; (intro W hW; subst hW; (refine AE rfl ?_; refine AG rfl (Blk.cell (by assumption) (by rfl)) ?_); exact Z3)) <;> (apply D_R rfl rfl; (intro W hW; subst hW; (refine AE rfl ?_; refine AQ rfl ?_); exact Z3)) <;> (apply D_R rfl rfl; (intro W hW; subst hW; (refine AE rfl ?_; refine AH rfl ?_); exact Z3)) <;> (apply D_R rfl rfl; (intro W hW; subst hW; (refine AE rfl ?_; refine AD rfl ?_); exact Z3)) <;> (apply D_R rfl rfl; (intro W hW; subst hW; (refine AE rfl ?_; refine AG rfl (Blk.cell (by assumption) (by rfl)) ?_); exact Z3)) <;> (apply D_R rfl rfl; (intro W hW; subst hW; (refine AE rfl ?_; refine BB rfl rfl (by assumption) ?_); exact Z3)) <;> refine D_eqlT rfl rfl rfl rfl (by omega) ?_ <;> (apply D_R rfl rfl; (intro W hW; subst hW; (refine AE rfl ?_; (refine AK rfl ?_; refine AB rfl ?_)); exact Z3)) <;> (apply D_R rfl rfl; (intro W hW; subst hW; (refine AP rfl ?_; refine AB rfl ?_); exact Z3)) <;> refine A8 ?_)
    have hbad : BL t a = true := by unfold BL; rw [DQ hc0]; simp [b2, b3]
    repeat refine nx rfl ?_
    (refine AA (AQ rfl (AH rfl (AD rfl (AG rfl (Blk.cell (by assumption) (by rfl)) ?_)))) <;> refine Ad (by rfl) (by rfl) ?_ <;> refine C8 (DC rfl ?_))
    repeat refine nx rfl ?_
    exact AY ⟨_, _, by unfold DX; rw [if_pos hbad], rfl, hs2.keep⟩
   ·have hb2 : (decide (1 < Aj Ap t a - a) && decide ((t.getD a 0).toNat = 48)) = false := by rw [DQ hc0]; simp [b3]
    ((apply D_R rfl rfl; (intro W hW; subst hW; refine AF rfl ?_; exact Z3)) <;> refine D_gtrF rfl rfl rfl rfl (by omega) ?_ <;> (apply D_R rfl rfl; (intro W hW; subst hW; refine AB rfl ?_; exact Z3)) <;> (apply D_R rfl rfl; (intro W hW; subst hW; (refine AE rfl ?_; refine AF rfl ?_); exact Z3)) <;> refine D_gtrT rfl rfl rfl rfl (by omega) ?_ <;> (apply D_R rfl rfl; (intro W hW; subst hW; (refine AE rfl ?_; refine AB rfl ?_); exact Z3)) <;> (apply D_R rfl rfl; (intro W hW; subst hW; (refine AE rfl ?_; refine AQ rfl ?_); exact Z3)) <;> (apply D_R rfl rfl; (intro W hW; subst hW; (refine AE rfl ?_; refine AH rfl ?_); exact Z3)) <;> (apply D_R rfl rfl; (intro W hW; subst hW; (refine AE rfl ?_; refine AD rfl ?_); exact Z3)) <;> (apply D_R rfl rfl; (intro W hW; subst hW; (refine AE rfl ?_; refine AG rfl (Blk.cell (by assumption) (by rfl)) ?_); exact Z3)) <;> (apply D_R rfl rfl; (intro W hW; subst hW; (refine AE rfl ?_; refine AQ rfl ?_); exact Z3)) <;> (apply D_R rfl rfl; (intro W hW; subst hW; (refine AE rfl ?_; refine AH rfl ?_); exact Z3)) <;> (apply D_R rfl rfl; (intro W hW; subst hW; (refine AE rfl ?_; refine AD rfl ?_); exact Z3)) <;> (apply D_R rfl rfl; (intro W hW; subst hW; (refine AE rfl ?_; refine AG rfl (Blk.cell (by assumption) (by rfl)) ?_); exact Z3)) <;> (apply D_R rfl rfl; (intro W hW; subst hW; (refine AE rfl ?_; refine BB rfl rfl (by assumption) ?_); exact Z3)) <;> refine D_eqlF rfl rfl rfl rfl (by omega) ?_ <;> (apply D_R rfl rfl; (intro W hW; subst hW; (refine AE rfl ?_; (refine AK rfl ?_; refine AB rfl ?_)); exact Z3)) <;> (apply D_R rfl rfl; (intro W hW; subst hW; (refine AP rfl ?_; refine AB rfl ?_); exact Z3)) <;> refine A8 ?_)
    repeat first | refine nx rfl ?_ | refine nf rfl ?_
    by_cases b4 : Aj Ap t a < t.length
    ·have hc1 : t[Aj Ap t a]? = some t[Aj Ap t a] := List.getElem?_eq_getElem b4
     generalize t[Aj Ap t a] = c1 at hc1
     have hg1 := DQ hc1
     (refine AA (AF rfl (AQ rfl (AH rfl (AD rfl (AG rfl (Blk.cell (by assumption) (by rfl)) ?_))))) <;> refine Au rfl (BC rfl rfl (by omega) (AB rfl (AE rfl (AQ rfl (AE rfl (AH rfl (AE rfl (AD rfl (AE rfl (AG rfl (Blk.cell (by assumption) (by rfl)) ?_)))))))))) <;> refine AE rfl (AF rfl (AE rfl (BB rfl rfl (by assumption) ?_))))
     refine AE rfl ?_
     refine AS (let_ok c1 _) rfl ?_
     rintro v w2 ⟨rfl, rfl⟩
     cases hlet : CH c1 with
     | true =>
      have hbad : BL t a = true := by unfold BL; rw [hg1]; simp [b4, hlet]
      refine AE rfl (AB rfl (AI rfl (AI rfl (AI rfl (AI rfl (AI rfl (AI rfl (AI rfl (AE rfl (AK rfl (AB rfl (AK rfl (AB rfl ?_)))))))))))))
      repeat refine nx rfl ?_
      (refine AA (AQ rfl (AH rfl (AD rfl (AG rfl (Blk.cell (by assumption) (by rfl)) ?_)))) <;> refine Ad (by rfl) (by rfl) ?_ <;> refine C8 (DC rfl ?_))
      repeat refine nx rfl ?_
      exact AY ⟨_, _, by unfold DX; rw [if_pos hbad], rfl, hs2.keep⟩
     | false =>
      by_cases b5 : c1.toNat = 95
      ·have hbad : BL t a = true := by unfold BL; rw [hg1]; simp [b4, b5]
       (refine AE rfl (AB rfl (AE rfl (AQ rfl (AE rfl (AH rfl (AE rfl (AD rfl (AE rfl (AG rfl (Blk.cell (by assumption) (by rfl)) ?_))))))))) <;> refine AE rfl (AF rfl (AE rfl (BB rfl rfl (by assumption) ?_))) <;> refine AE rfl (Av rfl rfl (by omega) (AE rfl (AP rfl (AB rfl (AK rfl (AB rfl ?_)))))))
       repeat refine nx rfl ?_
       (refine AA (AQ rfl (AH rfl (AD rfl (AG rfl (Blk.cell (by assumption) (by rfl)) ?_)))) <;> refine Ad (by rfl) (by rfl) ?_ <;> refine C8 (DC rfl ?_))
       repeat refine nx rfl ?_
       exact AY ⟨_, _, by unfold DX; rw [if_pos hbad], rfl, hs2.keep⟩
      ·have hbad : BL t a = false := by
        unfold BL
        rw [hg1, hb2, hlet, decide_eq_false b1, decide_eq_false b5]
        simp
       (refine AE rfl (AB rfl (AE rfl (AQ rfl (AE rfl (AH rfl (AE rfl (AD rfl (AE rfl (AG rfl (Blk.cell (by assumption) (by rfl)) ?_))))))))) <;> refine AE rfl (AF rfl (AE rfl (BB rfl rfl (by assumption) ?_))) <;> refine AE rfl (AN rfl rfl (by omega) (AE rfl (AP rfl (AB rfl (AK rfl (AB rfl ?_)))))))
       repeat first | refine nx rfl ?_ | refine nf rfl ?_
       refine AA (AQ rfl (AF rfl ?_))
       have e : DX t a ts = CY t a ts 2 (Aj Ap t a) := by unfold DX; rw [if_neg]; simp only [hbad]; simp
       rw [e]
       refine Aa (addS w0 _ s a _ t ts 2 hs2 (by omega) hle) rfl ?_ ?_
       ·rintro v w2 ⟨rfl, hh⟩
        repeat refine nx rfl ?_
        exact A1 rfl ⟨rfl, hh⟩
       ·intro ch w2 hh
        repeat refine nx rfl ?_
        exact AY hh
    ·have hbad : BL t a = false := by
      unfold BL
      rw [hb2, decide_eq_false b1, decide_eq_false b4]
      simp
     (refine AA (AF rfl (AQ rfl (AH rfl (AD rfl (AG rfl (Blk.cell (by assumption) (by rfl)) ?_))))) <;> refine Au rfl (BA rfl rfl (by omega) (AB rfl (AI rfl (AI rfl (AI rfl (AI rfl (AI rfl (AI rfl ?_)))))))))
     refine AI rfl (AI rfl (AI rfl (AI rfl (AI rfl (AI rfl (AI rfl (AI rfl (AI rfl (AI rfl (AP rfl (AB rfl ?_)))))))))))
     repeat first | refine nx rfl ?_ | refine nf rfl ?_
     refine AA (AQ rfl (AF rfl ?_))
     have e : DX t a ts = CY t a ts 2 (Aj Ap t a) := by unfold DX; rw [if_neg]; simp only [hbad]; simp
     rw [e]
     refine Aa (addS w0 _ s a _ t ts 2 hs2 (by omega) hle) rfl ?_ ?_
     ·rintro v w2 ⟨rfl, hh⟩
      repeat refine nx rfl ?_
      exact A1 rfl ⟨rfl, hh⟩
     ·intro ch w2 hh
      repeat refine nx rfl ?_
      exact AY hh
  ·have hb2 : (decide (1 < Aj Ap t a - a) && decide ((t.getD a 0).toNat = 48)) = false := by simp [b2]
   ((apply D_R rfl rfl; (intro W hW; subst hW; refine AF rfl ?_; exact Z3)) <;> refine D_gtrF rfl rfl rfl rfl (by omega) ?_ <;> (apply D_R rfl rfl; (intro W hW; subst hW; refine AB rfl ?_; exact Z3)) <;> (apply D_R rfl rfl; (intro W hW; subst hW; (refine AE rfl ?_; refine AF rfl ?_); exact Z3)) <;> refine D_gtrF rfl rfl rfl rfl (by omega) ?_ <;> (apply D_R rfl rfl; (intro W hW; subst hW; (refine AE rfl ?_; refine AB rfl ?_); exact Z3)) <;> refine Af rfl rfl rfl rfl (Af rfl rfl rfl rfl (Af rfl rfl rfl rfl (Af rfl rfl rfl rfl (Af rfl rfl rfl rfl (Af rfl rfl rfl rfl (Af rfl rfl rfl rfl (Af rfl rfl rfl rfl (Af rfl rfl rfl rfl (Af rfl rfl rfl rfl ?_))))))))) <;> (apply D_R rfl rfl; (intro W hW; subst hW; (refine AE rfl ?_; (refine AP rfl ?_; refine AB rfl ?_)); exact Z3)) <;> (apply D_R rfl rfl; (intro W hW; subst hW; (refine AP rfl ?_; refine AB rfl ?_); exact Z3)) <;> refine A8 ?_)
   repeat first | refine nx rfl ?_ | refine nf rfl ?_
   by_cases b4 : Aj Ap t a < t.length
   ·have hc1 : t[Aj Ap t a]? = some t[Aj Ap t a] := List.getElem?_eq_getElem b4
    generalize t[Aj Ap t a] = c1 at hc1
    have hg1 := DQ hc1
    (refine AA (AF rfl (AQ rfl (AH rfl (AD rfl (AG rfl (Blk.cell (by assumption) (by rfl)) ?_))))) <;> refine Au rfl (BC rfl rfl (by omega) (AB rfl (AE rfl (AQ rfl (AE rfl (AH rfl (AE rfl (AD rfl (AE rfl (AG rfl (Blk.cell (by assumption) (by rfl)) ?_)))))))))) <;> refine AE rfl (AF rfl (AE rfl (BB rfl rfl (by assumption) ?_))))
    refine AE rfl ?_
    refine AS (let_ok c1 _) rfl ?_
    rintro v w2 ⟨rfl, rfl⟩
    cases hlet : CH c1 with
    | true =>
     have hbad : BL t a = true := by unfold BL; rw [hg1]; simp [b4, hlet]
     refine AE rfl (AB rfl (AI rfl (AI rfl (AI rfl (AI rfl (AI rfl (AI rfl (AI rfl (AE rfl (AK rfl (AB rfl (AK rfl (AB rfl ?_)))))))))))))
     repeat refine nx rfl ?_
     (refine AA (AQ rfl (AH rfl (AD rfl (AG rfl (Blk.cell (by assumption) (by rfl)) ?_)))) <;> refine Ad (by rfl) (by rfl) ?_ <;> refine C8 (DC rfl ?_))
     repeat refine nx rfl ?_
     exact AY ⟨_, _, by unfold DX; rw [if_pos hbad], rfl, hs2.keep⟩
    | false =>
     by_cases b5 : c1.toNat = 95
     ·have hbad : BL t a = true := by unfold BL; rw [hg1]; simp [b4, b5]
      (refine AE rfl (AB rfl (AE rfl (AQ rfl (AE rfl (AH rfl (AE rfl (AD rfl (AE rfl (AG rfl (Blk.cell (by assumption) (by rfl)) ?_))))))))) <;> refine AE rfl (AF rfl (AE rfl (BB rfl rfl (by assumption) ?_))) <;> refine AE rfl (Av rfl rfl (by omega) (AE rfl (AP rfl (AB rfl (AK rfl (AB rfl ?_)))))))
      repeat refine nx rfl ?_
      (refine AA (AQ rfl (AH rfl (AD rfl (AG rfl (Blk.cell (by assumption) (by rfl)) ?_)))) <;> refine Ad (by rfl) (by rfl) ?_ <;> refine C8 (DC rfl ?_))
      repeat refine nx rfl ?_
      exact AY ⟨_, _, by unfold DX; rw [if_pos hbad], rfl, hs2.keep⟩
     ·have hbad : BL t a = false := by
       unfold BL
       rw [hg1, hb2, hlet, decide_eq_false b1, decide_eq_false b5]
       simp
      (refine AE rfl (AB rfl (AE rfl (AQ rfl (AE rfl (AH rfl (AE rfl (AD rfl (AE rfl (AG rfl (Blk.cell (by assumption) (by rfl)) ?_))))))))) <;> refine AE rfl (AF rfl (AE rfl (BB rfl rfl (by assumption) ?_))) <;> refine AE rfl (AN rfl rfl (by omega) (AE rfl (AP rfl (AB rfl (AK rfl (AB rfl ?_)))))))
      repeat first | refine nx rfl ?_ | refine nf rfl ?_
      refine AA (AQ rfl (AF rfl ?_))
      have e : DX t a ts = CY t a ts 2 (Aj Ap t a) := by unfold DX; rw [if_neg]; simp only [hbad]; simp
      rw [e]
      refine Aa (addS w0 _ s a _ t ts 2 hs2 (by omega) hle) rfl ?_ ?_
      ·rintro v w2 ⟨rfl, hh⟩
       repeat refine nx rfl ?_
       exact A1 rfl ⟨rfl, hh⟩
      ·intro ch w2 hh
       repeat refine nx rfl ?_
       exact AY hh
   ·have hbad : BL t a = false := by
     unfold BL
     rw [hb2, decide_eq_false b1, decide_eq_false b4]
     simp
    (refine AA (AF rfl (AQ rfl (AH rfl (AD rfl (AG rfl (Blk.cell (by assumption) (by rfl)) ?_))))) <;> refine Au rfl (BA rfl rfl (by omega) (AB rfl (AI rfl (AI rfl (AI rfl (AI rfl (AI rfl (AI rfl ?_)))))))))
    refine AI rfl (AI rfl (AI rfl (AI rfl (AI rfl (AI rfl (AI rfl (AI rfl (AI rfl (AI rfl (AP rfl (AB rfl ?_)))))))))))
    repeat first | refine nx rfl ?_ | refine nf rfl ?_
    refine AA (AQ rfl (AF rfl ?_))
    have e : DX t a ts = CY t a ts 2 (Aj Ap t a) := by unfold DX; rw [if_neg]; simp only [hbad]; simp
    rw [e]
    refine Aa (addS w0 _ s a _ t ts 2 hs2 (by omega) hle) rfl ?_ ?_
    ·rintro v w2 ⟨rfl, hh⟩
     repeat refine nx rfl ?_
     exact A1 rfl ⟨rfl, hh⟩
    ·intro ch w2 hh
     repeat refine nx rfl ?_
     exact AY hh
end Go.Proofs.YtfcgdbmoncnibaaGreatDoor
namespace Go.Proofs.YtfcgdbmoncnibaaGreatDoor
open Go.RowKit
set_option linter.unusedVariables false
variable {mk : Prop} [MK mk]
def symsL : List (List UInt8) := [[45, 62], [33, 61], [40], [41], [123], [125], [91], [93], [44], [59], [58], [61], [33], [38], [124]]
def spansL : List (Nat × Nat × Nat) := [(32, 32, 0), (9, 10, 0), (13, 13, 0), (37, 37, 1), (97, 122, 2), (65, 90, 2), (48, 57, 3), (40, 41, 4), (123, 125, 4), (91, 91, 4), (93, 93, 4), (44, 45, 4), (58, 59, 4), (61, 61, 4), (33, 33, 4), (38, 38, 4)]
def symC : List Value := symsL.map AL
def spanC1 (p : Nat × Nat × Nat) : List Value := [.int .u8 (p.1 : Int), .int .u8 (p.2.1 : Int), .int .i64 (p.2.2 : Int)]
def spanC : List Value := spansL.flatMap spanC1
structure GV (w : World) : Prop where
 spans : Cells w 0 0 spanC
 syms : Cells w 1 0 symC
 size : 10 ≤ w.heap.size
theorem GV.keep {X : List Nat} {w w' : World} (h : GV w) (k : Keep X w w') (h0 : 0 ∉ X) (h1 : 1 ∉ X) : GV w' := ⟨h.spans.keep k h0, h.syms.keep k h1, Nat.le_trans h.size k.size⟩
theorem GV.ext {w w' : World} (h : GV w) (k : Ext w w') : GV w' := h.keep k (by simp) (by simp)
def symM (t : List UInt8) (a : Nat) (ts : List Tok) : Res :=
 match symsL.find? (Br (t.drop a)) with
 | some y => CY t a ts 3 (a + y.length)
 | none => .error (40, a)
theorem find_step {α : Type} {p : α → Bool} {l : List α} {k : Nat} {y : α} (h : l[k]? = some y) : (l.drop k).find? p = if p y = true then some y else (l.drop (k + 1)).find? p := by
 obtain ⟨h1, h2⟩ := List.getElem?_eq_some_iff.1 h
 rw [List.drop_eq_getElem_cons h1, h2, List.find?_cons]
 cases p y <;> rfl
theorem symbol_ok (w0 w : World) (s a : Nat) (t : List UInt8) (ts : List Tok) (h : St w0 w s t a ts) (h1 : a < t.length) (hG : GV w0) (hs2 : 10 ≤ s) : FnS 115 [pt s] w w0 s t (symM t a ts) := by
 have hG' : GV w := hG.keep h.keep (by simp; omega) (by simp; omega)
 refine Ar Tryz.func115 rfl Tryz.ntmps115 (Nat.le_of_ble_eq_true rfl) (by kernel_rfl) ?_
 repeat refine nx rfl ?_
 refine AA (Ac rfl rfl hG'.syms (AF rfl ?_))
 repeat refine nx rfl ?_
 refine BJ (α := Nat) (fun k => [(0, pt s), (4, .agg symC.toArray), (5, .int .i64 (k : Int))]) (fun k w1 => k ≤ 15 ∧ Ext w w1 ∧ symsL.find? (Br (t.drop a)) = (symsL.drop k).find? (Br (t.drop a))) (fun k => 15 - k) 0 ⟨rfl, rfl, rfl, trivial⟩ ⟨by omega, Ext.refl _, rfl⟩ ?_
 rintro k w1 f' ⟨hk, hw, hf⟩
 have h' := h.ext hw
 repeat refine nx rfl ?_
 by_cases hlt : k < 15
 ·have hy : symsL[k]? = some symsL[k] := List.getElem?_eq_getElem hlt
  generalize symsL[k] = y at hy
  have hyc : symC[k]? = some (AL y) := by unfold symC; rw [List.getElem?_map, hy]; rfl
  rw [find_step hy] at hf
  refine AA (BC rfl rfl (by omega) ?_)
  repeat refine nx rfl ?_
  refine AA (W_vidx1 rfl rfl hlt hyc (AC (AU rfl ?_)))
  repeat refine nx rfl ?_
  refine Bb (.read 0 (.read 1 (.read 2 (.read 3 (.read 4 (.read 5 (.read 6 (.read 7 (.read 8 (.read 9 (.alt 10 .done .stop))))))))))) BP (by kernel_rfl) (fun wd kd ed => ⟨fun W => W = wd, ?_, ?_⟩)
  ·rfl
  obtain ⟨hk0, hs, hl, ha, hn, tv, hb, ho⟩ := id h'
  have hbd := hb.keep kd (by simp)
  ((apply D_R rfl rfl; (intro W hW; subst hW; refine AQ rfl ?_; exact Z3)) <;> (apply D_R rfl rfl; (intro W hW; subst hW; refine AH rfl ?_; exact Z3)) <;> (apply D_R rfl rfl; (intro W hW; subst hW; refine AD rfl ?_; exact Z3)) <;> (apply D_R rfl rfl; (intro W hW; subst hW; refine AG rfl (Blk.cell (by assumption) (by rfl)) ?_; exact Z3)) <;> (apply D_R rfl rfl; (intro W hW; subst hW; refine AQ rfl ?_; exact Z3)) <;> (apply D_R rfl rfl; (intro W hW; subst hW; refine AH rfl ?_; exact Z3)) <;> (apply D_R rfl rfl; (intro W hW; subst hW; refine AD rfl ?_; exact Z3)) <;> (apply D_R rfl rfl; (intro W hW; subst hW; refine AG rfl (Blk.cell (by assumption) (by rfl)) ?_; exact Z3)) <;> (apply D_R rfl rfl; (intro W hW; subst hW; refine W_sslice_l rfl rfl (by omega) ?_; exact Z3)) <;> (apply D_R rfl rfl; (intro W hW; subst hW; refine AU rfl ?_; exact Z3)))
  refine D_E rfl ?_
  refine AS (pre_ok _ _ _) rfl ?_
  rintro v w2 ⟨rfl, rfl⟩
  refine AJ ⟨fun W => W = _, fun _ h => h, rfl, ?_⟩
  refine A8 ?_
  cases hp : Br (t.drop a) y with
  | true =>
   rw [hp, if_pos rfl] at hf
   have hpl := ((Cc _ _).1 hp).length_le
   simp at hpl
   repeat refine nx rfl ?_
   (refine AA (AQ rfl (AQ rfl (AH rfl (AD rfl (AG rfl (Blk.cell (by assumption) (by rfl)) ?_))))) <;> refine AU rfl (Au rfl (BK rfl rfl (by first | exact Am (by omega) (by omega) | exact At (by omega) (by omega) | exact Al (by omega) (by omega)) ?_)))
   have e : symM t a ts = CY t a ts 3 (a + y.length) := by unfold symM; rw [hf]
   rw [e]
   refine Aa (addS w0 _ s a (a + y.length) t ts 3 (h'.ext kd) (by omega) (by omega)) (by rw [Int.natCast_add]; rfl) ?_ ?_
   ·rintro v w2 ⟨rfl, hh⟩
    repeat refine nx rfl ?_
    exact fin_ret0 rfl ⟨rfl, hh⟩
   ·intro ch w2 hh
    repeat refine nx rfl ?_
    exact AY hh
  | false =>
   rw [hp, if_neg (by simp)] at hf
   repeat first | refine nx rfl ?_ | refine nf rfl ?_
   (refine AA (BK rfl rfl (by first | exact Am (by omega) (by omega) | exact At (by omega) (by omega) | exact Al (by omega) (by omega)) ?_) <;> refine AF rfl ?_)
   repeat refine nx rfl ?_
   refine ⟨k + 1, ⟨rfl, ⟨rfl, rfl, ?_, trivial⟩, ⟨by omega, hw.trans kd, hf⟩⟩, by omega⟩
   show Value.int .i64 ((k : Int) + 1) = _
   rw [Int.natCast_add]; rfl
 ·obtain ⟨hk0, hs, hl, ha, hn, tv, hb, ho⟩ := id h'
  refine AA (BA rfl rfl (by omega) ?_)
  repeat first | refine nx rfl ?_ | refine nf rfl ?_
  (refine AA (AQ rfl (AH rfl (AD rfl (AG rfl (Blk.cell (by assumption) (by rfl)) ?_)))) <;> refine Ad (by rfl) (by rfl) ?_ <;> refine C8 (DC rfl ?_))
  repeat refine nx rfl ?_
  refine AY ⟨_, _, ?_, rfl, hk0⟩
  unfold symM
  have hd : symsL.drop k = [] := List.drop_eq_nil_of_le (by show 15 ≤ k; omega)
  rw [hf, hd]
  rfl
end Go.Proofs.YtfcgdbmoncnibaaGreatDoor
